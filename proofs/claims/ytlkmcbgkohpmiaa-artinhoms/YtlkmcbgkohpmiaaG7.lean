import Derived.Test.YtlkmcbgkohpmiaaS
import Derived.Test.YtlkmcbgkohpmiaaG3
import Derived.Test.YtlkmcbgkohpmiaaG5
set_option linter.all false
namespace Go.Proofs.Ytlkmcbgkohpmiaa
open Ev Try
set_option maxRecDepth 100000
set_option maxHeartbeats 4000000
theorem diagram_Valid_ok (n:Nat) {w:World} {O0:List Nat} (hO: ∀k∈O0,k<w.heap.size) {j:Option Addr} {z l:Nat} {c:List Int} (B:Rep O0 w (.sl si) [.slice j z l] c) {o:Option Addr} {C h:Nat} {d:List Int} (D:Rep O0 w (.sl si) [.slice o C h] d) {g:Int} (x:I64 g) {r:Bool} (hb:F.qfq n c d g=some r):
    Calls prog 51 #[.agg #[.slice j z l,.slice o C h,iv g]] w fun e w'=> ∃v,e=.returned v∧v=.bool r∧Cx (fun _=>False) O0 w w' []:=by
 unfold F.qfq at hb
 have hC:=Cx.start hO
 replace hC:=hC.arg rfl B
 replace hC:=hC.arg rfl D
 clear hO
 obtain ⟨rfl,G,H⟩:=B.qaf
 obtain ⟨rfl,J,K⟩:=D.qaf
 refine qao func51 rfl (by rw [ntmps51]; exact nb rfl) fun KR hKR=>?_
 refine Wc.seq fun _ hK3=>rg<|lex.op (hC.box (cs:=[.slice j c.length l,.slice o d.length h,iv g]) rfl rfl) ?_
 rintro _ w5 ⟨g4,rfl,hC,hF,-⟩
 refine lp (.bool false) (qab rfl)<|ln (hK3 _ _ ?_)
 refine Wc.seq fun _ hK7=>rg<|lp (.pointer (some ((⟨g4,0,none⟩:Addr).add 0))) (qal (sz:=1) underlying60 rfl sizeOf22 (by decide) rfl rfl)<|lv (.slice j c.length l) (qar (hC.bx (i:=0) rfl) isAgg22 rfl rfl)<|lp (iv (c.length:Int)) (qan (A:=j) (n:=c.length) (m:=l) underlying22 rfl)<|lp (iv (c.length:Int)) (qab rfl)<|ln (hK7 _ _ ?_)
 refine Wc.seq fun _ hK8=>?_
 refine Wc.seq fun _ hK9=>rg<|lp (iv (c.length:Int)) (qaa rfl)<|lp (.bool (decide (64<(c.length:Int)))) (qbi (k:=.i64) (a:=(c.length:Int)) (b:=64) rfl rfl)<|lp (.bool (decide (64<(c.length:Int)))) (qaa rfl) ?_
 rcases bS (decide (64<(c.length:Int))) with hq10 | hq10
 replace hb:=tt hq10 hb
 refine gs rfl rfl (decide (64<(c.length:Int))) rfl hq10<|gs rfl rfl (decide (64<(c.length:Int))) rfl hq10<|gs rfl rfl (decide (64<(c.length:Int))) rfl hq10<|gs rfl rfl (decide (64<(c.length:Int))) rfl hq10<|gs rfl rfl (decide (64<(c.length:Int))) rfl hq10<|gs rfl rfl (decide (64<(c.length:Int))) rfl hq10<|lp (.bool true) (qap (q:=(decide (64<(c.length:Int)))) rfl hq10 rfl)<|lp (.bool true) (qaa rfl)<|gs rfl rfl true rfl rfl<|gs rfl rfl true rfl rfl<|gs rfl rfl true rfl rfl<|lp (.bool true) (qap (q:=true) rfl rfl rfl)<|lp (.bool true) (qaa rfl)<|gs rfl rfl true rfl rfl<|gs rfl rfl true rfl rfl<|gs rfl rfl true rfl rfl<|lp (.bool true) (qap (q:=true) rfl rfl rfl)<|ln (hK9 _ _ ?_)
 refine Wc.cond_true (rfl) ?_
 refine Wc.seq fun _ hK11=>rg<|lp (.bool false) (qab rfl)<|ln (hK11 _ _ ?_)
 obtain rfl:=os hb
 refine Wc.ret (hKR _ _ ?_)
 refine ⟨_,res1 results51 (tV (.bool false) rfl),_,rfl,rfl,hC.sE []⟩
 replace hb:=tf hq10 hb
 refine gp rfl rfl (decide (64<(c.length:Int))) rfl hq10 (.pointer (some ((⟨g4,0,none⟩:Addr).add 1))) (qal (sz:=1) underlying60 rfl sizeOf22 (by decide) rfl rfl)<|gv rfl rfl (decide (64<(c.length:Int))) rfl hq10 (.slice o d.length h) (qar (hC.bx (i:=0) rfl) isAgg22 rfl rfl)<|gp rfl rfl (decide (64<(c.length:Int))) rfl hq10 (iv (d.length:Int)) (qan (A:=o) (n:=d.length) (m:=h) underlying22 rfl)<|gp rfl rfl (decide (64<(c.length:Int))) rfl hq10 (iv (c.length:Int)) (qaa rfl) ?_
 obtain ⟨z12,h13,hb⟩:=bd hb
 refine gp rfl rfl (decide (64<(c.length:Int))) rfl hq10 (iv z12) (qdz (a:=4) (b:=(c.length:Int)) rfl rfl h13)<|gp rfl rfl (decide (64<(c.length:Int))) rfl hq10 (.bool (!(decide ((d.length:Int)=z12)))) (qbv (k:=.i64) (a:=(d.length:Int)) (b:=z12) rfl rfl)<|lp (.bool (!(decide ((d.length:Int)=z12)))) (qat (q:=(decide (64<(c.length:Int)))) rfl hq10 rfl)<|lp (.bool (!(decide ((d.length:Int)=z12)))) (qaa rfl) ?_
 rcases bS (!(decide ((d.length:Int)=z12))) with hq14 | hq14
 replace hb:=tt hq14 hb
 refine gs rfl rfl (!(decide ((d.length:Int)=z12))) rfl hq14<|gs rfl rfl (!(decide ((d.length:Int)=z12))) rfl hq14<|gs rfl rfl (!(decide ((d.length:Int)=z12))) rfl hq14<|lp (.bool true) (qap (q:=(!(decide ((d.length:Int)=z12)))) rfl hq14 rfl)<|lp (.bool true) (qaa rfl)<|gs rfl rfl true rfl rfl<|gs rfl rfl true rfl rfl<|gs rfl rfl true rfl rfl<|lp (.bool true) (qap (q:=true) rfl rfl rfl)<|ln (hK9 _ _ ?_)
 refine Wc.cond_true (rfl) ?_
 refine Wc.seq fun _ hK15=>rg<|lp (.bool false) (qab rfl)<|ln (hK15 _ _ ?_)
 obtain rfl:=os hb
 refine Wc.ret (hKR _ _ ?_)
 refine ⟨_,res1 results51 (tV (.bool false) rfl),_,rfl,rfl,hC.sE []⟩
 replace hb:=tf hq14 hb
 refine gp rfl rfl (!(decide ((d.length:Int)=z12))) rfl hq14 (.pointer (some ((⟨g4,0,none⟩:Addr).add 2))) (qal (sz:=1) underlying60 rfl sizeOf3 (by decide) rfl rfl)<|gv rfl rfl (!(decide ((d.length:Int)=z12))) rfl hq14 (iv g) (qar (hC.bx (i:=0) rfl) isAgg3 rfl rfl)<|gp rfl rfl (!(decide ((d.length:Int)=z12))) rfl hq14 (.bool (decide (g<0))) (qau (k:=.i64) (a:=g) (b:=0) rfl rfl)<|lp (.bool (decide (g<0))) (qat (q:=(!(decide ((d.length:Int)=z12)))) rfl hq14 rfl)<|lp (.bool (decide (g<0))) (qaa rfl) ?_
 rcases bS (decide (g<0)) with hq16 | hq16
 replace hb:=tt hq16 hb
 refine gs rfl rfl (decide (g<0)) rfl hq16<|gs rfl rfl (decide (g<0)) rfl hq16<|gs rfl rfl (decide (g<0)) rfl hq16<|lp (.bool true) (qap (q:=(decide (g<0))) rfl hq16 rfl)<|ln (hK9 _ _ ?_)
 refine Wc.cond_true (rfl) ?_
 refine Wc.seq fun _ hK17=>rg<|lp (.bool false) (qab rfl)<|ln (hK17 _ _ ?_)
 obtain rfl:=os hb
 refine Wc.ret (hKR _ _ ?_)
 refine ⟨_,res1 results51 (tV (.bool false) rfl),_,rfl,rfl,hC.sE []⟩
 replace hb:=tf hq16 hb
 refine gp rfl rfl (decide (g<0)) rfl hq16 (.pointer (some ((⟨g4,0,none⟩:Addr).add 2))) (qal (sz:=1) underlying60 rfl sizeOf3 (by decide) rfl rfl)<|gv rfl rfl (decide (g<0)) rfl hq16 (iv g) (qar (hC.bx (i:=0) rfl) isAgg3 rfl rfl)<|gp rfl rfl (decide (g<0)) rfl hq16 (.bool (decide (64<g))) (qbi (k:=.i64) (a:=g) (b:=64) rfl rfl)<|lp (.bool (decide (64<g))) (qat (q:=(decide (g<0))) rfl hq16 rfl)<|ln (hK9 _ _ ?_)
 refine Wc.cond (t:=(decide (64<g))) (rfl) (fun hq18=>?_) (fun hq18=>?_)
 replace hb:=tt hq18 hb
 refine Wc.seq fun _ hK19=>rg<|lp (.bool false) (qab rfl)<|ln (hK19 _ _ ?_)
 obtain rfl:=os hb
 refine Wc.ret (hKR _ _ ?_)
 refine ⟨_,res1 results51 (tV (.bool false) rfl),_,rfl,rfl,hC.sE []⟩
 replace hb:=tf hq18 hb
 refine Wc.skip (hK8 _ _ ?_)
 refine Wc.fresh fun E20 hE=>?_
 have e1:E20 1=pg g4:=cg hE 1 rfl
 have e2:E20 2=.bool false:=cg hE 2 rfl
 have e3:E20 3=iv (c.length:Int):=cg hE 3 rfl
 clear hE
 refine Wc.seq fun _ hK21=>?_
 refine Wc.seq fun _ hK22=>rg<|lp (.pointer (some ((⟨g4,0,none⟩:Addr).add 0))) (qal (sz:=1) underlying60 rfl sizeOf22 (by decide) rfl e1)<|lv (.slice j c.length l) (qar (hC.bx (i:=0) rfl) isAgg22 rfl rfl)<|lp (iv (c.length:Int)) (qan (A:=j) (n:=c.length) (m:=l) underlying22 rfl)<|lp (iv 0) (qaa rfl)<|ln (hK22 _ _ ?_)
 obtain ⟨o23,hl0,hb⟩:=bd hb
 refine Wc.cut (fun E wv=> ∃(s:Int),E 1=pg g4∧E 2=.bool false∧E 3=iv (c.length:Int)∧I64 s∧Cx (fun _=>False) O0 w wv [.box g4 60 [.slice j c.length l,.slice o d.length h,iv g],.ro (.sl si) [.slice j c.length l] c,.ro (.sl si) [.slice o d.length h] d]∧(((loopN n (F.qcy n c d g) 0).bind fun o53=>match o53 with | (.inl f)=>(F.qcq n c d g).bind fun y106=>some y106 | (.inr q)=>some q):Option (Bool))=some r) (fun _ hK24=>?_) ?_
 refine Wc.block ?_
 refine Wc.loop (fun m E wv=> ∃(s:Int),E 1=pg g4∧E 2=.bool false∧E 3=iv (c.length:Int)∧E 32=.slice j c.length l∧E 33=iv (c.length:Int)∧E 34=iv s∧I64 s∧Cx (fun _=>False) O0 w wv [.box g4 60 [.slice j c.length l,.slice o d.length h,iv g],.ro (.sl si) [.slice j c.length l] c,.ro (.sl si) [.slice o d.length h] d]∧loopN m (F.qck n c) s=some o23) n ⟨0,e1,e2,e3,rfl,rfl,rfl,(show I64 0 from by unfold I64; omega),hC.sE [0,2,1],hl0⟩ ?_
 have hbK0:=hb
 clear hb hC hl0
 rintro m26 E28 w27 ⟨s,e1,e2,e3,e32,e33,e34,y,hC,hl0⟩ K25 hK25
 obtain ⟨m26',o29,rfl,hb,hl0⟩:=qam hl0
 unfold F.qck at hb
 refine Wc.seq fun _ hK30=>rg<|lp _ (qau e34 e33)<|ln (hK30 _ _ ?_)
 refine Wc.seq fun _ hK31=>?_
 refine Wc.cond (t:=(decide (s<(c.length:Int)))) (rfl) (fun hq32=>?_) (fun hq32=>?_)
 replace hb:=tt hq32 hb
 refine Wc.skip (hK31 _ _ ?_)
 refine Wc.seq fun _ hK33=>?_
 refine Wc.block<|Wc.seq fun _ hK34=>rg ?_
 obtain ⟨x35,h36,hb⟩:=bd hb
 obtain ⟨ad37,cs38,hA,hc39,hr40⟩:=hC.elr (i:=1) rfl (qac h36).2
 subst hA
 refine lp (.pointer (some (ad37.add (s.toNat*1)))) (qag (a:=s) underlying22 sizeOf3 e32 e34 (qac h36).1) ?_
 obtain ⟨rfl,hr40'⟩:=hr40
 refine lv (iv x35) (qah isAgg3 rfl (hc39 0 _ rfl))<|lp (iv x35) (qab rfl)<|ln (hK34 _ _ ?_)
 refine Wc.seq fun _ hK41=>rg<|lp (iv x35) (qaa rfl)<|lp (.bool (!(decide (x35=1)))) (qbv (k:=.i64) (a:=x35) (b:=1) rfl rfl)<|lp (.bool (!(decide (x35=1)))) (qaa rfl) ?_
 rcases bS (!(decide (x35=1))) with hq42 | hq42
 replace hb:=tt hq42 hb
 refine gp rfl rfl (!(decide (x35=1))) rfl hq42 (iv x35) (qaa rfl)<|gp rfl rfl (!(decide (x35=1))) rfl hq42 (.bool (!(decide (x35=(-1))))) (qbv (k:=.i64) (a:=x35) (b:=(-1)) rfl rfl)<|lp (.bool (!(decide (x35=(-1))))) (qap (q:=(!(decide (x35=1)))) rfl hq42 rfl)<|ln (hK41 _ _ ?_)
 refine Wc.cond (t:=(!(decide (x35=(-1))))) (rfl) (fun hq43=>?_) (fun hq43=>?_)
 replace hb:=tt hq43 hb
 refine Wc.seq fun _ hK44=>rg<|lp (.bool false) (qab rfl)<|ln (hK44 _ _ ?_)
 obtain rfl:=os hb
 obtain rfl:=(lX hl0).symm
 replace hb:=hbK0
 obtain rfl:=os hb
 refine Wc.ret (hKR _ _ ?_)
 refine ⟨_,res1 results51 (tV (.bool false) rfl),_,rfl,rfl,hC.sE []⟩
 replace hb:=tf hq43 hb
 refine Wc.skip (hK33 _ _ ?_)
 refine rg ?_
 obtain ⟨z45,h46,hb⟩:=bd hb
 refine lp (iv z45) (qak (a:=s) (b:=1) e34 rfl h46)<|lp (iv z45) (qaa rfl)<|ln ?_
 obtain rfl:=os hb
 exact hK25 m26' _ _ (Nat.lt_succ_self _) ⟨z45,e1,e2,e3,e32,e33,rfl,(qai h46),hC.sE [0,1,2],lN hl0⟩
 replace hb:=tf hq42 hb
 refine gs rfl rfl (!(decide (x35=1))) rfl hq42<|gs rfl rfl (!(decide (x35=1))) rfl hq42<|lp (.bool false) (qat (q:=(!(decide (x35=1)))) rfl hq42 rfl)<|ln (hK41 _ _ ?_)
 refine Wc.cond_false (rfl) ?_
 refine Wc.skip (hK33 _ _ ?_)
 refine rg ?_
 obtain ⟨z47,h48,hb⟩:=bd hb
 refine lp (iv z47) (qak (a:=s) (b:=1) e34 rfl h48)<|lp (iv z47) (qaa rfl)<|ln ?_
 obtain rfl:=os hb
 exact hK25 m26' _ _ (Nat.lt_succ_self _) ⟨z47,e1,e2,e3,e32,e33,rfl,(qai h48),hC.sE [0,1,2],lN hl0⟩
 replace hb:=tf hq32 hb
 refine Wc.exit rfl ?_
 obtain rfl:=os hb
 obtain rfl:=(lX hl0).symm
 exact hK24 _ _ ⟨s,e1,e2,e3,y,hC.sE [0,1,2],hbK0⟩
 clear hb hC hl0
 rintro E50 w49 ⟨s,e1,e2,e3,y,hC,hb⟩
 refine hK21 _ _ ?_
 refine Wc.seq fun _ hK51=>?_
 refine Wc.seq fun _ hK52=>rg<|lp (.pointer (some ((⟨g4,0,none⟩:Addr).add 1))) (qal (sz:=1) underlying60 rfl sizeOf22 (by decide) rfl e1)<|lv (.slice o d.length h) (qar (hC.bx (i:=0) rfl) isAgg22 rfl rfl)<|lp (iv (d.length:Int)) (qan (A:=o) (n:=d.length) (m:=h) underlying22 rfl)<|lp (iv 0) (qaa rfl)<|ln (hK52 _ _ ?_)
 obtain ⟨o53,hl1,hb⟩:=bd hb
 refine Wc.cut (fun E wv=> ∃(f:Int),E 1=pg g4∧E 2=.bool false∧I64 f∧Cx (fun _=>False) O0 w wv [.box g4 60 [.slice j c.length l,.slice o d.length h,iv g],.ro (.sl si) [.slice j c.length l] c,.ro (.sl si) [.slice o d.length h] d]∧((F.qcq n c d g).bind fun y106=>some y106:Option (Bool))=some r) (fun _ hK54=>?_) ?_
 refine Wc.block ?_
 refine Wc.loop (fun m E wv=> ∃(f:Int),E 1=pg g4∧E 2=.bool false∧E 3=iv (c.length:Int)∧E 46=.slice o d.length h∧E 47=iv (d.length:Int)∧E 48=iv f∧I64 f∧Cx (fun _=>False) O0 w wv [.box g4 60 [.slice j c.length l,.slice o d.length h,iv g],.ro (.sl si) [.slice j c.length l] c,.ro (.sl si) [.slice o d.length h] d]∧loopN m (F.qcy n c d g) f=some o53) n ⟨0,e1,e2,e3,rfl,rfl,rfl,(show I64 0 from by unfold I64; omega),hC.sE [0,1,2],hl1⟩ ?_
 have hbK1:=hb
 clear hb hC hl1
 rintro m56 E58 w57 ⟨f,e1,e2,e3,e46,e47,e48,u,hC,hl1⟩ K55 hK55
 obtain ⟨m56',o59,rfl,hb,hl1⟩:=qam hl1
 unfold F.qcy at hb
 refine Wc.seq fun _ hK60=>rg<|lp _ (qau e48 e47)<|ln (hK60 _ _ ?_)
 refine Wc.seq fun _ hK61=>?_
 refine Wc.cond (t:=(decide (f<(d.length:Int)))) (rfl) (fun hq62=>?_) (fun hq62=>?_)
 replace hb:=tt hq62 hb
 refine Wc.skip (hK61 _ _ ?_)
 refine Wc.seq fun _ hK63=>?_
 refine Wc.block<|Wc.seq fun _ hK64=>rg<|lp _ (qaa e48) ?_
 obtain ⟨x65,h66,hb⟩:=bd hb
 obtain ⟨ad67,cs68,hA,hc69,hr70⟩:=hC.elr (i:=2) rfl (qac h66).2
 subst hA
 refine lp (.pointer (some (ad67.add (f.toNat*1)))) (qag (a:=f) underlying22 sizeOf3 e46 e48 (qac h66).1) ?_
 obtain ⟨rfl,hr70'⟩:=hr70
 refine lv (iv x65) (qah isAgg3 rfl (hc69 0 _ rfl))<|lp (iv f) (qab rfl)<|lp (iv x65) (qab rfl)<|ln (hK64 _ _ ?_)
 refine Wc.seq fun _ hK71=>?_
 refine Wc.seq fun _ hK72=>rg<|lp (iv x65) (qaa rfl)<|lp (.bool (decide (x65<0))) (qau (k:=.i64) (a:=x65) (b:=0) rfl rfl)<|lp (.bool (decide (x65<0))) (qaa rfl) ?_
 rcases bS (decide (x65<0)) with hq73 | hq73
 replace hb:=tt hq73 hb
 refine gs rfl rfl (decide (x65<0)) rfl hq73<|gs rfl rfl (decide (x65<0)) rfl hq73<|gs rfl rfl (decide (x65<0)) rfl hq73<|gs rfl rfl (decide (x65<0)) rfl hq73<|lp (.bool true) (qap (q:=(decide (x65<0))) rfl hq73 rfl)<|lp (.bool true) (qaa rfl)<|gs rfl rfl true rfl rfl<|gs rfl rfl true rfl rfl<|gs rfl rfl true rfl rfl<|lp (.bool true) (qap (q:=true) rfl rfl rfl)<|lp (.bool true) (qaa rfl)<|gs rfl rfl true rfl rfl<|gs rfl rfl true rfl rfl<|gs rfl rfl true rfl rfl<|gs rfl rfl true rfl rfl<|gs rfl rfl true rfl rfl<|gs rfl rfl true rfl rfl<|gs rfl rfl true rfl rfl<|lp (.bool true) (qap (q:=true) rfl rfl rfl)<|ln (hK72 _ _ ?_)
 refine Wc.cond_true (rfl) ?_
 refine Wc.seq fun _ hK74=>rg<|lp (.bool false) (qab rfl)<|ln (hK74 _ _ ?_)
 obtain rfl:=os hb
 obtain rfl:=(lX hl1).symm
 replace hb:=hbK1
 obtain rfl:=os hb
 refine Wc.ret (hKR _ _ ?_)
 refine ⟨_,res1 results51 (tV (.bool false) rfl),_,rfl,rfl,hC.sE []⟩
 replace hb:=tf hq73 hb
 refine gp rfl rfl (decide (x65<0)) rfl hq73 (iv x65) (qaa rfl)<|gp rfl rfl (decide (x65<0)) rfl hq73 (iv (c.length:Int)) (qaa e3) ?_
 obtain ⟨z75,h76,hb⟩:=bd hb
 refine gp rfl rfl (decide (x65<0)) rfl hq73 (iv z75) (qdz (a:=4) (b:=(c.length:Int)) rfl rfl h76)<|gp rfl rfl (decide (x65<0)) rfl hq73 (.bool (decide (z75≤x65))) (pu_geq (k:=.i64) (a:=x65) (b:=z75) rfl rfl)<|lp (.bool (decide (z75≤x65))) (qat (q:=(decide (x65<0))) rfl hq73 rfl)<|lp (.bool (decide (z75≤x65))) (qaa rfl) ?_
 rcases bS (decide (z75≤x65)) with hq77 | hq77
 replace hb:=tt hq77 hb
 refine gs rfl rfl (decide (z75≤x65)) rfl hq77<|gs rfl rfl (decide (z75≤x65)) rfl hq77<|gs rfl rfl (decide (z75≤x65)) rfl hq77<|lp (.bool true) (qap (q:=(decide (z75≤x65))) rfl hq77 rfl)<|lp (.bool true) (qaa rfl)<|gs rfl rfl true rfl rfl<|gs rfl rfl true rfl rfl<|gs rfl rfl true rfl rfl<|gs rfl rfl true rfl rfl<|gs rfl rfl true rfl rfl<|gs rfl rfl true rfl rfl<|gs rfl rfl true rfl rfl<|lp (.bool true) (qap (q:=true) rfl rfl rfl)<|ln (hK72 _ _ ?_)
 refine Wc.cond_true (rfl) ?_
 refine Wc.seq fun _ hK78=>rg<|lp (.bool false) (qab rfl)<|ln (hK78 _ _ ?_)
 obtain rfl:=os hb
 obtain rfl:=(lX hl1).symm
 replace hb:=hbK1
 obtain rfl:=os hb
 refine Wc.ret (hKR _ _ ?_)
 refine ⟨_,res1 results51 (tV (.bool false) rfl),_,rfl,rfl,hC.sE []⟩
 replace hb:=tf hq77 hb
 refine gp rfl rfl (decide (z75≤x65)) rfl hq77 (iv x65) (qaa rfl)<|gp rfl rfl (decide (z75≤x65)) rfl hq77 (iv f) (qaa rfl)<|gp rfl rfl (decide (z75≤x65)) rfl hq77 (.bool (decide (x65=f))) (qcu (k:=.i64) (a:=x65) (b:=f) rfl rfl)<|lp (.bool (decide (x65=f))) (qat (q:=(decide (z75≤x65))) rfl hq77 rfl)<|lp (.bool (decide (x65=f))) (qaa rfl) ?_
 rcases bS (decide (x65=f)) with hq79 | hq79
 replace hb:=tt hq79 hb
 refine gs rfl rfl (decide (x65=f)) rfl hq79<|gs rfl rfl (decide (x65=f)) rfl hq79<|gs rfl rfl (decide (x65=f)) rfl hq79<|gs rfl rfl (decide (x65=f)) rfl hq79<|gs rfl rfl (decide (x65=f)) rfl hq79<|gs rfl rfl (decide (x65=f)) rfl hq79<|gs rfl rfl (decide (x65=f)) rfl hq79<|lp (.bool true) (qap (q:=(decide (x65=f))) rfl hq79 rfl)<|ln (hK72 _ _ ?_)
 refine Wc.cond_true (rfl) ?_
 refine Wc.seq fun _ hK80=>rg<|lp (.bool false) (qab rfl)<|ln (hK80 _ _ ?_)
 obtain rfl:=os hb
 obtain rfl:=(lX hl1).symm
 replace hb:=hbK1
 obtain rfl:=os hb
 refine Wc.ret (hKR _ _ ?_)
 refine ⟨_,res1 results51 (tV (.bool false) rfl),_,rfl,rfl,hC.sE []⟩
 replace hb:=tf hq79 hb
 refine gp rfl rfl (decide (x65=f)) rfl hq79 (.pointer (some ((⟨g4,0,none⟩:Addr).add 1))) (qal (sz:=1) underlying60 rfl sizeOf22 (by decide) rfl e1)<|gv rfl rfl (decide (x65=f)) rfl hq79 (.slice (some ad67) d.length h) (qar (hC.bx (i:=0) rfl) isAgg22 rfl rfl)<|gp rfl rfl (decide (x65=f)) rfl hq79 (iv x65) (qaa rfl) ?_
 obtain ⟨x81,h82,hb⟩:=bd hb
 obtain ⟨ad83,cs84,hA,hc85,hr86⟩:=hC.elr (i:=2) rfl (qac h82).2
 obtain rfl:=Option.some.inj hA
 refine gp rfl rfl (decide (x65=f)) rfl hq79 (.pointer (some (ad67.add (x65.toNat*1)))) (qag (a:=x65) underlying22 sizeOf3 rfl rfl (qac h82).1) ?_
 obtain ⟨rfl,hr86'⟩:=hr86
 refine gv rfl rfl (decide (x65=f)) rfl hq79 (iv x81) (qah isAgg3 rfl (hc85 0 _ rfl))<|gp rfl rfl (decide (x65=f)) rfl hq79 (iv f) (qaa rfl)<|gp rfl rfl (decide (x65=f)) rfl hq79 (.bool (!(decide (x81=f)))) (qbv (k:=.i64) (a:=x81) (b:=f) rfl rfl)<|lp (.bool (!(decide (x81=f)))) (qat (q:=(decide (x65=f))) rfl hq79 rfl)<|ln (hK72 _ _ ?_)
 refine Wc.cond (t:=(!(decide (x81=f)))) (rfl) (fun hq87=>?_) (fun hq87=>?_)
 replace hb:=tt hq87 hb
 refine Wc.seq fun _ hK88=>rg<|lp (.bool false) (qab rfl)<|ln (hK88 _ _ ?_)
 obtain rfl:=os hb
 obtain rfl:=(lX hl1).symm
 replace hb:=hbK1
 obtain rfl:=os hb
 refine Wc.ret (hKR _ _ ?_)
 refine ⟨_,res1 results51 (tV (.bool false) rfl),_,rfl,rfl,hC.sE []⟩
 replace hb:=tf hq87 hb
 refine Wc.skip (hK71 _ _ ?_)
 refine Wc.fresh fun E89 hE=>?_
 have e1:=cg hE 1 e1
 have e2:=cg hE 2 e2
 have e3:=cg hE 3 e3
 have e6:E89 6=iv f:=cg hE 6 rfl
 have e7:E89 7=iv x65:=cg hE 7 rfl
 have e46:=cg hE 46 e46
 have e47:=cg hE 47 e47
 have e48:=cg hE 48 e48
 have e49:E89 49=.bool (decide (f<(d.length:Int))):=cg hE 49 rfl
 have e74:E89 74=.bool (!(decide (x81=f))):=cg hE 74 rfl
 clear hE
 refine Wc.seq fun _ hK90=>?_
 refine Wc.regionMix [] (frm [] ([]:List Fact) ([]:List Fact)) (fun _=>rfl) mixed (by decide+kernel) (by decide+kernel) fun w92 hw91=>?_
 replace hC:=hC.step (Fr.qbh hw91)
 have hM:=Fr.refl (fun k=>k∈blocks ([]:List Fact)) w92
 clear hw91
 have hS:=hC
 refine mixE.load hM (v:=.agg #[.slice j c.length l,.slice (some ad67) d.length h,iv g]) (fun _ hF=>qbm (hS.bx2 (i:=0) rfl [] (by decide) hF) isAgg60 sizeOf60 e1)<|mp (iv f) (qaa e6) ?_
 obtain ⟨y93,h94,hb⟩:=bd hb
 refine mixE.cl hM (⟨_,_,qas (vs:=[.agg #[.slice j c.length l,.slice (some ad67) d.length h,iv g],iv f]) call68 rfl rfl rfl,qgy n hC.lt (hC.rd (i:=1) rfl) (hC.rd (i:=2) rfl) x u h94⟩) ?_
 rintro _ w95 ⟨rfl,hK⟩
 replace hM:=hM.none hK.fr
 refine ⟨hM,?_⟩
 replace hC:=hC.merge hK
 clear hK
 refine mixE.load hM (v:=.agg #[.slice j c.length l,.slice (some ad67) d.length h,iv g]) (fun _ hF=>qbm (hS.bx2 (i:=0) rfl [] (by decide) hF) isAgg60 sizeOf60 e1)<|mp (iv x65) (qaa e7) ?_
 obtain ⟨y96,h97,hb⟩:=bd hb
 refine mixE.cl hM (⟨_,_,qas (vs:=[.agg #[.slice j c.length l,.slice (some ad67) d.length h,iv g],iv x65]) call68 rfl rfl rfl,qgy n hC.lt (hC.rd (i:=1) rfl) (hC.rd (i:=2) rfl) x (qbl hr70') h97⟩) ?_
 rintro _ w98 ⟨rfl,hK⟩
 replace hM:=hM.none hK.fr
 refine ⟨hM,?_⟩
 replace hC:=hC.merge hK
 clear hK
 refine mp (.bool (y93 == y96)) (pu_eqlb (p:=y93) (q:=y96) underlying4 rfl rfl)<|mixE.nil ?_
 clear hS hM
 refine hK90 _ _<|Wc.cond (t:=(y93 == y96)) (rfl) (fun hq99=>?_) (fun hq99=>?_)
 replace hb:=tt hq99 hb
 refine Wc.seq fun _ hK100=>rg<|lp (.bool false) (qab rfl)<|ln (hK100 _ _ ?_)
 obtain rfl:=os hb
 obtain rfl:=(lX hl1).symm
 replace hb:=hbK1
 obtain rfl:=os hb
 refine Wc.ret (hKR _ _ ?_)
 refine ⟨_,res1 results51 (tV (.bool false) rfl),_,rfl,rfl,hC.sE []⟩
 replace hb:=tf hq99 hb
 refine Wc.skip (hK63 _ _ ?_)
 refine rg ?_
 obtain ⟨z101,h102,hb⟩:=bd hb
 refine lp (iv z101) (qak (a:=f) (b:=1) e48 rfl h102)<|lp (iv z101) (qaa rfl)<|ln ?_
 obtain rfl:=os hb
 exact hK55 m56' _ _ (Nat.lt_succ_self _) ⟨z101,e1,e2,e3,e46,e47,rfl,(qai h102),hC.sE [0,1,2],lN hl1⟩
 replace hb:=tf hq62 hb
 refine Wc.exit rfl ?_
 obtain rfl:=os hb
 obtain rfl:=(lX hl1).symm
 exact hK54 _ _ ⟨f,e1,e2,u,hC.sE [0,1,2],hbK1⟩
 clear hb hC hl1
 rintro E104 w103 ⟨f,e1,e2,u,hC,hb⟩
 refine hK51 _ _<|Wc.seq fun _ hK105=>rg<|lv (.agg #[.slice j c.length l,.slice o d.length h,iv g]) (qbm (hC.bx (i:=0) rfl) isAgg60 sizeOf60 e1) ?_
 obtain ⟨y106,h107,hb⟩:=bd hb
 refine lex.cl (⟨_,_,qas (vs:=[.agg #[.slice j c.length l,.slice o d.length h,iv g]]) call69 rfl rfl rfl,diagram_spherical_ok n hC.lt (hC.rd (i:=1) rfl) (hC.rd (i:=2) rfl) x h107⟩) ?_
 rintro _ w108 ⟨rfl,hK⟩
 replace hC:=hC.merge hK
 clear hK
 refine lp (.bool y106) (qab rfl)<|ln (hK105 _ _ ?_)
 obtain rfl:=os hb
 refine Wc.ret (hKR _ _ ?_)
 refine ⟨_,res1 results51 (tV (.bool y106) rfl),_,rfl,rfl,hC.sE []⟩

theorem qdq (n:Nat): ∀{w:World} {O0:List Nat} (hO: ∀k∈O0,k<w.heap.size) {l:Int} (x:I64 l) {o:Nat} {m:Option Addr} {q d:Nat} {c:List Int} {p:Nat} (s:RBox O0 w o 22 [.slice m q d]) (u:RBox O0 w p 76 [.func (.func 70) #[] #[pg o,pg p]]) (hio:Tk O0 w [.own 3 si (.slice m q d) c]) {r:Int×(List Int)} (hb:F.qbb n l c=some r),
    Calls prog 70 #[iv l,pg o,pg p] w fun e w'=> ∃v,e=.returned v∧v=iv r.1∧I64 r.1∧Cx (fun k=>k∈blocks [.own 3 si (.slice m q d) c]) O0 w w' [.own 3 si (.slice m q d) r.2]:=by
  induction n with
  | zero=>
    intro w O0 hO l x o m q d c p s u hio r hb
    rw [F.qbb] at hb
    cases hb
  | succ n ih=>
    intro w O0 hO l x o m q d c p s u hio r hb
    rw [F.qbb] at hb
    have hC:=Cx.startTk hO hio
    have hsub:=hio.2.2
    replace hC:=hC.argB (by first | exact hsub | exact fun k hk=>hsub k (by simpa [blocks,Fact.blk] using hk) | exact fun k hk=>absurd hk (by simp [blocks,Fact.blk])) s
    replace hC:=hC.argB (by first | exact hsub | exact fun k hk=>hsub k (by simpa [blocks,Fact.blk] using hk) | exact fun k hk=>absurd hk (by simp [blocks,Fact.blk])) u
    clear hO
    obtain ⟨rfl,y,z⟩:=(hC.ow (i:=2) rfl).qaf
    clear hio hsub
    obtain ⟨I,hI,hC⟩: ∃I:Nat→Prop,I=(fun k=>k∈blocks [.own 3 si (.slice m c.length d) c])∧Cx I O0 w w ([.rbox p 76 [.func (.func 70) #[] #[pg o,pg p]],.rbox o 22 [.slice m c.length d],.own 3 si (.slice m c.length d) c]):=⟨_,rfl,hC⟩
    refine qao func70 rfl (by rw [ntmps70]; exact nb rfl) fun KR hKR=>?_
    refine Wc.seq fun _ hK4=>?_
    refine rg ?_
    refine lp (iv 0) (qab rfl) ?_
    refine ln ?_
    refine hK4 _ _ ?_
    refine Wc.seq fun _ hK5=>?_
    refine Wc.seq fun _ hK6=>?_
    refine rg ?_
    refine lv (.slice m c.length d) (qah isAgg22 rfl ((hC.rbx (i:=1) rfl).cell (j:=0) rfl)) ?_
    refine lp (iv l) (qaa rfl) ?_
    obtain ⟨x7,h8,hb⟩:=bd hb
    obtain ⟨ad9,cs10,hA,hc11,hr12⟩:=hC.elo (i:=2) rfl (qac h8).2
    subst hA
    refine lp (.pointer (some (ad9.add (l.toNat*1)))) (qag (a:=l) underlying22 sizeOf3 rfl rfl (qac h8).1) ?_
    obtain ⟨rfl,hr12'⟩:=hr12
    refine lv (iv x7) (qah isAgg3 rfl (hc11 0 _ rfl)) ?_
    refine lp (iv l) (qaa rfl) ?_
    refine lp (.bool (!(decide (x7=l)))) (qbv (k:=.i64) (a:=x7) (b:=l) rfl rfl) ?_
    refine ln ?_
    refine hK6 _ _ ?_
    refine Wc.cond (t:=(!(decide (x7=l)))) (rfl) (fun hq13=>?_) (fun hq13=>?_)
    · replace hb:=tt hq13 hb
      refine Wc.regionMix [11,13,14,1048593] (frm [11,13,14,1048593] [.own 3 si (.slice (some ad9) c.length d) c] ([]:List Fact)) (fun _=>rfl) mixed (by decide+kernel) (by decide+kernel) fun w15 hw14=>?_
      replace hC:=hC.step (Fr.qbh hw14)
      have hM:=Fr.refl (fun k=>k∈blocks [.own 3 si (.slice (some ad9) c.length d) c]) w15
      clear hw14
      have hS:=hC
      have hBf2:Beside [.own 3 si (.slice (some ad9) c.length d) c] w15 (.slice (some ad9) c.length d):=Beside.of (i:=0) rfl
      have hD:Fr (fun k=>k∈blocks ([.own 3 si (.slice (some ad9) c.length d) c]++([]:List Fact))) w15 w15:=hM.wide
      have hUf2:Beside ([.own 3 si (.slice (some ad9) c.length d) c]++([]:List Fact)) w15 (.slice (some ad9) c.length d):=Beside.of (i:=0) rfl
      refine mixE.steady hD (v:=.slice (some ad9) c.length d) (fun _ hF=>qah isAgg22 rfl ((hS.rbx2 (i:=1) rfl [2] hF).cell (j:=0) rfl)) ?_
      refine mp (iv l) (qaa rfl) ?_
      refine mixE.steady hD (v:=.func (.func 70) #[] #[pg o,pg p]) (fun _ hF=>qah isAgg76 rfl ((hS.rbx2 (i:=0) rfl [2] hF).cell (j:=0) rfl)) ?_
      refine mixE.steady hD (v:=.slice (some ad9) c.length d) (fun _ hF=>qah isAgg22 rfl ((hS.rbx2 (i:=1) rfl [2] hF).cell (j:=0) rfl)) ?_
      refine mp (iv l) (qaa rfl) ?_
      obtain ⟨x16,h17,hb⟩:=bd hb
      obtain ⟨ad18,cs19,hA,hc20,hr21⟩:=hC.elo (i:=2) rfl (qac h17).2
      obtain rfl:=Option.some.inj hA
      refine mp (.pointer (some (ad9.add (l.toNat*1)))) (qag (a:=l) underlying22 sizeOf3 rfl rfl (qac h17).1) ?_
      obtain ⟨ad25,cs22,hA,hc23,hr24⟩:=hC.elo (i:=2) rfl (qac h17).2
      obtain rfl:=Option.some.inj hA
      obtain ⟨rfl,hr24'⟩:=hr24
      refine mixE.soft (v:=iv x16) hM (qah isAgg3 rfl (hc23 0 _ rfl)) hM ?_
      replace hC:Cx I O0 w w15 ([.own 3 si (.slice (some ad9) c.length d) c]++[.rbox p 76 [.func (.func 70) #[] #[pg o,pg p]],.rbox o 22 [.slice (some ad9) c.length d]]):=hC.sE [2,0,1]
      obtain ⟨y26,h27,hb⟩:=bd hb
      refine mixE.cl hM (⟨_,_,qcf (vs:=[iv x16,pg o,pg p]) (ca:=#[pg o,pg p]) call70 rfl rfl rfl,ih hC.lt (qbl hr24') (hC.rb (i:=2) rfl) (hC.rb (i:=1) rfl) hC.give h27⟩) ?_
      rintro _ w29 ⟨rfl,hr28,hK⟩
      have hL30: ∀f∈([.own 3 si (.slice (some ad9) c.length d) c]:List Fact),∀g,g<w15.heap.size→f.blk=some g→g∈blocks [.own 3 si (.slice (some ad9) c.length d) c]:=List.forall_mem_cons.2 ⟨hBf2,fun _ h=>absurd h List.not_mem_nil⟩
      replace hM:=hM.besideL hL30 hK.fr
      replace hD:=hM.wide (H:=([]:List Fact))
      refine ⟨hM,?_⟩
      replace hC:=hC.back hK
      clear hK
      obtain ⟨x31,h32,hb⟩:=bd hb
      obtain ⟨ad33,cs34,hA,hc35,hr36⟩:=hC.elo (i:=0) rfl (qac h32).2
      obtain rfl:=Option.some.inj hA
      refine mp (.pointer (some (ad9.add (l.toNat*1)))) (qag (a:=l) underlying22 sizeOf3 rfl rfl (by rw [(hC.ow (i:=0) rfl).qaf.1]; exact (qac h32).1)) ?_
      refine mixE.sk hD (hC.put (i:=0) rfl rfl sizeOf3 (k:=l.toNat) (a:=y26.1) (by have:=(qac h32).1; simp at this⊢; omega) (⟨rfl,I64.wr hr28⟩) rfl rfl rfl) ?_
      rintro w37 ⟨hC,hF⟩
      replace hD:=hD.beside hUf2 hF
      clear hF
      refine ⟨hD,?_⟩
      refine mixE.nil ?_
      clear hS hM
      clear hD
      refine hK5 _ _ ?_
      refine Wc.fresh fun E38 hE=>?_
      have e0:E38 0=iv l:=cg hE 0 rfl
      have e1:E38 1=pg o:=cg hE 1 rfl
      have e4:E38 4=iv 0:=cg hE 4 rfl
      clear hE
      refine Wc.seq fun _ hK39=>?_
      refine rg ?_
      refine lv (.slice (some ad9) c.length d) (qah isAgg22 e1 ((hC.rbx (i:=2) rfl).cell (j:=0) rfl)) ?_
      refine lp _ (qaa e0) ?_
      obtain ⟨x40,h41,hb⟩:=bd hb
      obtain ⟨ad42,cs43,hA,hc44,hr45⟩:=hC.elo (i:=0) rfl (qac h41).2
      obtain rfl:=Option.some.inj hA
      refine lp (.pointer (some (ad9.add (l.toNat*1)))) (qag (a:=l) underlying22 sizeOf3 rfl rfl (by rw [(hC.ow (i:=0) rfl).qaf.1]; exact (qac h41).1)) ?_
      obtain ⟨rfl,hr45'⟩:=hr45
      refine lv (iv x40) (qah isAgg3 rfl (hc44 0 _ rfl)) ?_
      refine lp (iv x40) (qab rfl) ?_
      refine ln ?_
      refine hK39 _ _ ?_
      obtain rfl:=os hb
      subst hI
      refine Wc.ret ?_
      refine hKR _ _ ?_
      refine ⟨_,res1 results70 (tV (iv x40) rfl),_,rfl,rfl,(qbl hr45'),hC.sE [0]⟩
    · replace hb:=tf hq13 hb
      refine Wc.skip ?_
      refine hK5 _ _ ?_
      refine Wc.seq fun _ hK46=>?_
      refine rg ?_
      refine lv (.slice (some ad9) c.length d) (qah isAgg22 rfl ((hC.rbx (i:=1) rfl).cell (j:=0) rfl)) ?_
      refine lp (iv l) (qaa rfl) ?_
      obtain ⟨x47,h48,hb⟩:=bd hb
      obtain ⟨ad49,cs50,hA,hc51,hr52⟩:=hC.elo (i:=2) rfl (qac h48).2
      obtain rfl:=Option.some.inj hA
      refine lp (.pointer (some (ad9.add (l.toNat*1)))) (qag (a:=l) underlying22 sizeOf3 rfl rfl (qac h48).1) ?_
      obtain ⟨rfl,hr52'⟩:=hr52
      refine lv (iv x47) (qah isAgg3 rfl (hc51 0 _ rfl)) ?_
      refine lp (iv x47) (qab rfl) ?_
      refine ln ?_
      refine hK46 _ _ ?_
      obtain rfl:=os hb
      subst hI
      refine Wc.ret ?_
      refine hKR _ _ ?_
      refine ⟨_,res1 results70 (tV (iv x47) rfl),_,rfl,rfl,(qbl hr52'),hC.sE [2]⟩

theorem wirtinger_arcs_ok (n:Nat) {w:World} {O0:List Nat} (hO: ∀k∈O0,k<w.heap.size) {o:Option Addr} {S p:Nat} {d:List Int} (T:Rep O0 w (.sl si) [.slice o S p] d) {u:Option Addr} {U l:Nat} {c:List Int} (V:Rep O0 w (.sl si) [.slice u U l] c) {K:Int} (a1:I64 K) {r:(List Int)×Int} (hb:F.qgn n d c K=some r):
    Calls prog 52 #[.agg #[.slice o S p,.slice u U l,iv K]] w fun e w'=> ∃v,e=.returned v∧∃(A0:Option Addr) (m0 c0:Nat),v=.tuple #[.slice A0 m0 c0,iv r.2]∧I64 r.2∧Cx (fun _=>False) O0 w w' [.own 3 si (.slice A0 m0 c0) r.1]:=by
 unfold F.qgn at hb
 have hC:=Cx.start hO
 replace hC:=hC.arg rfl T
 replace hC:=hC.arg rfl V
 clear hO
 obtain ⟨rfl,X,Y⟩:=T.qaf
 obtain ⟨rfl,Z,a0⟩:=V.qaf
 refine qao func52 rfl (by rw [ntmps52]; exact nb rfl) fun KR hKR=>?_
 refine Wc.seq fun _ hK3=>rg<|lex.op (hC.box (cs:=[.slice o d.length p,.slice u c.length l,iv K]) rfl rfl) ?_
 rintro _ w5 ⟨g4,rfl,hC,hF,-⟩
 refine lp (.slice none 0 0) (qab rfl)<|lp (iv 0) (qab rfl)<|ln (hK3 _ _ ?_)
 refine Wc.seq fun _ hK7=>rg<|lp (.pointer (some ((⟨g4,0,none⟩:Addr).add 1))) (qal (sz:=1) underlying60 rfl sizeOf22 (by decide) rfl rfl)<|lv (.slice u c.length l) (qar (hC.bx (i:=0) rfl) isAgg22 rfl rfl)<|lp (iv (c.length:Int)) (qan (A:=u) (n:=c.length) (m:=l) underlying22 rfl) ?_
 obtain ⟨u8,h9,hb⟩:=bd hb
 refine lex.op (hC.make (s:=si) (n:=(c.length:Int)) underlying22 type3 rfl rfl rfl rfl rfl (qae h9).1 (qae h9).2 (by decide)) ?_
 rintro _ w14 ⟨A10,c11,rfl,hl12,hc13,hC,-,-⟩
 refine lex.op (hC.alloc (cs:=[.slice none 0 0]) zeroValue22 rfl) ?_
 rintro _ w17 ⟨g16,rfl,hC,hF,-⟩
 refine lex.sk (hC.setf (i:=0) (k:=0) (v:=.slice A10 (((rZ c.length)).length) c11) rfl sizeOf22 rfl (by rw [Addr.add_zero']; exact rfl) rfl rfl) ?_
 rintro w19 ⟨hC,hF⟩
 refine ln (hK7 _ _ ?_)
 refine Wc.seq fun _ hK20=>?_
 refine Wc.seq fun _ hK21=>rg<|lv (.slice A10 (((rZ c.length)).length) c11) (qah isAgg22 rfl ((hC.bx (i:=0) rfl).cell (j:=0) rfl))<|lp (iv (((rZ c.length)).length:Int)) (qan (A:=A10) (n:=((rZ c.length)).length) (m:=c11) underlying22 rfl)<|lp (iv 0) (qaa rfl)<|ln (hK21 _ _ ?_)
 refine Wc.fresh fun E22 hE=>?_
 have e1:E22 1=pg g4:=cg hE 1 rfl
 have e2:E22 2=.slice none 0 0:=cg hE 2 rfl
 have e3:E22 3=iv 0:=cg hE 3 rfl
 have e4:E22 4=pg g16:=cg hE 4 rfl
 have e21:E22 21=iv (((rZ c.length)).length:Int):=cg hE 21 rfl
 have e22:E22 22=iv 0:=cg hE 22 rfl
 clear hE
 obtain ⟨o23,hl0,hb⟩:=bd hb
 refine Wc.cut (fun E wv=> ∃(C:Int) (L:List Int),E 1=pg g4∧E 2=.slice none 0 0∧E 3=iv 0∧E 4=pg g16∧I64 C∧Cx (fun _=>False) O0 w wv [.box g4 60 [.slice o d.length p,.slice u c.length l,iv K],.ro (.sl si) [.slice o d.length p] d,.ro (.sl si) [.slice u c.length l] c,.box g16 22 [.slice A10 (((rZ c.length)).length) c11],.own 3 si (.slice A10 (((rZ c.length)).length) c11) L]∧(((loopN n (F.qeb n c) (0,L)).bind fun o54=>match o54 with | (G,z)=>((loopN n (F.qea n d) (0,z)).bind fun o97=>match o97 with | (J,B)=>(pos (c.length:Int)).bind fun u145=>((loopN n (F.qec n c) (0,B,([]:List (Int×Int)),(rZ c.length))).bind fun o156=>match o156 with | (y,M,x,D)=>(chk (x.length:Int)).bind fun z210=>some (D,z210)))):Option ((List Int)×Int))=some r) (fun _ hK24=>?_) ?_
 refine Wc.block ?_
 refine Wc.loop (fun m E wv=> ∃(C:Int) (L:List Int),E 1=pg g4∧E 2=.slice none 0 0∧E 3=iv 0∧E 4=pg g16∧E 21=iv (((rZ c.length)).length:Int)∧E 22=iv C∧I64 C∧Cx (fun _=>False) O0 w wv [.box g4 60 [.slice o d.length p,.slice u c.length l,iv K],.ro (.sl si) [.slice o d.length p] d,.ro (.sl si) [.slice u c.length l] c,.box g16 22 [.slice A10 (((rZ c.length)).length) c11],.own 3 si (.slice A10 (((rZ c.length)).length) c11) L]∧loopN m (F.qcr n c) (C,L)=some o23) n ⟨0,(rZ c.length),e1,e2,e3,e4,e21,e22,(show I64 0 from by unfold I64; omega),hC.sE [2,4,3,0,1],hl0⟩ ?_
 have hbK0:=hb
 clear hb hC hl0
 rintro m26 E28 w27 ⟨C,L,e1,e2,e3,e4,e21,e22,N,hC,hl0⟩ K25 hK25
 obtain ⟨m26',o29,rfl,hb,hl0⟩:=qam hl0
 unfold F.qcr at hb
 refine Wc.seq fun _ hK30=>rg<|lp _ (qau e22 e21)<|ln (hK30 _ _ ?_)
 refine Wc.seq fun _ hK31=>?_
 refine Wc.cond (t:=(decide (C<(((rZ c.length)).length:Int)))) (rfl) (fun hq32=>?_) (fun hq32=>?_)
 replace hb:=tt hq32 hb
 refine Wc.skip (hK31 _ _ ?_)
 refine Wc.seq fun _ hK33=>?_
 refine Wc.block<|Wc.seq fun _ hK34=>rg<|lp _ (qaa e22)<|lp (iv C) (qab rfl)<|ln (hK34 _ _ ?_)
 refine rg<|lv (.slice A10 (((rZ c.length)).length) c11) (qah isAgg22 e4 ((hC.bx (i:=3) rfl).cell (j:=0) rfl))<|lp (iv C) (qaa rfl)<|lp (iv C) (qaa rfl) ?_
 obtain ⟨x35,h36,hb⟩:=bd hb
 obtain ⟨ad37,cs38,hA,hc39,hr40⟩:=hC.elo (i:=4) rfl (qac h36).2
 subst hA
 refine lp (.pointer (some (ad37.add (C.toNat*1)))) (qag (a:=C) underlying22 sizeOf3 rfl rfl (by rw [(hC.ow (i:=4) rfl).qaf.1]; exact (qac h36).1))<|lex.sk (hC.put (i:=4) rfl rfl sizeOf3 (k:=C.toNat) (a:=C) (by have:=(qac h36).1; simp at this⊢; omega) (⟨rfl,I64.wr N⟩) rfl rfl rfl) ?_
 rintro w41 ⟨hC,hF⟩
 refine ln (hK33 _ _ ?_)
 refine rg ?_
 obtain ⟨z42,h43,hb⟩:=bd hb
 refine lp (iv z42) (qak (a:=C) (b:=1) e22 rfl h43)<|lp (iv z42) (qaa rfl)<|ln ?_
 obtain rfl:=os hb
 exact hK25 m26' _ _ (Nat.lt_succ_self _) ⟨z42,(L.set C.toNat C),e1,e2,e3,e4,e21,rfl,(qai h43),hC.sE [0,1,2,3,4],lN hl0⟩
 replace hb:=tf hq32 hb
 refine Wc.exit rfl ?_
 obtain rfl:=os hb
 obtain rfl:=(lX hl0).symm
 exact hK24 _ _ ⟨C,L,e1,e2,e3,e4,N,hC.sE [0,1,2,3,4],hbK0⟩
 clear hb hC hl0
 rintro E45 w44 ⟨C,L,e1,e2,e3,e4,N,hC,hb⟩
 refine hK20 _ _<|Wc.seq fun _ hK46=>rg<|lex.op (hC.alloc (cs:=[.nilFunc]) zeroValue76 rfl) ?_
 rintro _ w48 ⟨g47,rfl,hC,hF,-⟩
 refine ln (hK46 _ _ ?_)
 refine Wc.seq fun _ hK50=>rg<|lp (.func (.func 70) #[] #[pg g16,pg g47]) (qga (map_of (qdi e4 (qdi rfl m2_nil))))<|lex.sk (hC.setf (i:=0) (k:=0) (v:=.func (.func 70) #[] #[pg g16,pg g47]) rfl sizeOf76 rfl (by rw [Addr.add_zero']; exact rfl) rfl rfl) ?_
 rintro w51 ⟨hC,hF⟩
 replace hC:=hC.freezeB (i:=4) rfl (hC.box_new (i:=4) rfl)
 replace hC:=hC.freezeB (i:=0) rfl (hC.box_new (i:=0) rfl)
 refine ln (hK50 _ _ ?_)
 refine Wc.seq fun _ hK52=>?_
 refine Wc.seq fun _ hK53=>rg<|lp (.pointer (some ((⟨g4,0,none⟩:Addr).add 1))) (qal (sz:=1) underlying60 rfl sizeOf22 (by decide) rfl e1)<|lv (.slice u c.length l) (qar (hC.bx (i:=1) rfl) isAgg22 rfl rfl)<|lp (iv (c.length:Int)) (qan (A:=u) (n:=c.length) (m:=l) underlying22 rfl)<|lp (iv 0) (qaa rfl)<|ln (hK53 _ _ ?_)
 obtain ⟨o54,hl1,f54,hf54,hb⟩:=bn hb
 refine Wc.cut (fun E wv=> ∃(G:Int) (z:List Int),E 1=pg g4∧E 2=.slice none 0 0∧E 3=iv 0∧E 4=pg g16∧E 6=pg g47∧I64 G∧Cx (fun _=>False) O0 w wv [.box g4 60 [.slice o d.length p,.slice u c.length l,iv K],.ro (.sl si) [.slice o d.length p] d,.ro (.sl si) [.slice u c.length l] c,.rbox g16 22 [.slice A10 (((rZ c.length)).length) c11],.own 3 si (.slice A10 (((rZ c.length)).length) c11) z,.rbox g47 76 [.func (.func 70) #[] #[pg g16,pg g47]]]∧f54 (G,z)=some r) (fun _ hK55=>?_) ?_
 refine Wc.block ?_
 refine Wc.loop (fun m E wv=> ∃(G:Int) (z:List Int),E 1=pg g4∧E 2=.slice none 0 0∧E 3=iv 0∧E 4=pg g16∧E 6=pg g47∧E 32=.slice u c.length l∧E 33=iv (c.length:Int)∧E 34=iv G∧I64 G∧Cx (fun _=>False) O0 w wv [.box g4 60 [.slice o d.length p,.slice u c.length l,iv K],.ro (.sl si) [.slice o d.length p] d,.ro (.sl si) [.slice u c.length l] c,.rbox g16 22 [.slice A10 (((rZ c.length)).length) c11],.own 3 si (.slice A10 (((rZ c.length)).length) c11) z,.rbox g47 76 [.func (.func 70) #[] #[pg g16,pg g47]]]∧loopN m (F.qeb n c) (G,z)=some o54) n ⟨0,L,e1,e2,e3,e4,rfl,rfl,rfl,rfl,(show I64 0 from by unfold I64; omega),hC.sE [1,2,3,4,5,0],hl1⟩ ?_
 have hbK1:=hb
 clear hb hC hl1
 rintro m57 E59 w58 ⟨G,z,e1,e2,e3,e4,e6,e32,e33,e34,P,hC,hl1⟩ K56 hK56
 obtain ⟨m57',o60,rfl,hb,hl1⟩:=qam hl1
 unfold F.qeb at hb
 refine Wc.seq fun _ hK61=>rg<|lp _ (qau e34 e33)<|ln (hK61 _ _ ?_)
 refine Wc.seq fun _ hK62=>?_
 refine Wc.cond (t:=(decide (G<(c.length:Int)))) (rfl) (fun hq63=>?_) (fun hq63=>?_)
 replace hb:=tt hq63 hb
 refine Wc.skip (hK62 _ _ ?_)
 refine Wc.seq fun _ hK64=>?_
 refine Wc.block<|Wc.seq fun _ hK65=>rg<|lp _ (qaa e34) ?_
 obtain ⟨x66,h67,hb⟩:=bd hb
 obtain ⟨ad68,cs69,hA,hc70,hr71⟩:=hC.elr (i:=2) rfl (qac h67).2
 subst hA
 refine lp (.pointer (some (ad68.add (G.toNat*1)))) (qag (a:=G) underlying22 sizeOf3 e32 e34 (qac h67).1) ?_
 obtain ⟨rfl,hr71'⟩:=hr71
 refine lv (iv x66) (qah isAgg3 rfl (hc70 0 _ rfl))<|lp (iv G) (qab rfl)<|lp (iv x66) (qab rfl)<|ln (hK65 _ _ ?_)
 refine Wc.regionMix [39,40,43] (frm [39,40,43] [.own 3 si (.slice A10 (((rZ c.length)).length) c11) z] ([]:List Fact)) (fun _=>rfl) mixed (by decide+kernel) (by decide+kernel) fun w73 hw72=>?_
 replace hC:=hC.step (Fr.qbh hw72)
 have hM:=Fr.refl (fun k=>k∈blocks [.own 3 si (.slice A10 (((rZ c.length)).length) c11) z]) w73
 clear hw72
 have hS:=hC
 have hBf15:Beside [.own 3 si (.slice A10 (((rZ c.length)).length) c11) z] w73 (.slice A10 (((rZ c.length)).length) c11):=Beside.of (i:=0) rfl
 have hD:Fr (fun k=>k∈blocks ([.own 3 si (.slice A10 (((rZ c.length)).length) c11) z]++([]:List Fact))) w73 w73:=hM.wide
 have hUf15:Beside ([.own 3 si (.slice A10 (((rZ c.length)).length) c11) z]++([]:List Fact)) w73 (.slice A10 (((rZ c.length)).length) c11):=Beside.of (i:=0) rfl
 refine mixE.steady hD (v:=.slice A10 (((rZ c.length)).length) c11) (fun _ hF=>qah isAgg22 e4 ((hS.rbx2 (i:=3) rfl [4] hF).cell (j:=0) rfl))<|mixE.steady hD (v:=.func (.func 70) #[] #[pg g16,pg g47]) (fun _ hF=>qah isAgg76 e6 ((hS.rbx2 (i:=5) rfl [4] hF).cell (j:=0) rfl))<|mp (iv G) (qaa rfl) ?_
 replace hC:Cx (fun _=>False) O0 w w73 ([.own 3 si (.slice A10 (((rZ c.length)).length) c11) z]++[.box g4 60 [.slice o d.length p,.slice (some ad68) c.length l,iv K],.ro (.sl si) [.slice o d.length p] d,.ro (.sl si) [.slice (some ad68) c.length l] c,.rbox g16 22 [.slice A10 (((rZ c.length)).length) c11],.rbox g47 76 [.func (.func 70) #[] #[pg g16,pg g47]]]):=hC.sE [4,0,1,2,3,5]
 obtain ⟨y74,h75,hb⟩:=bd hb
 refine mixE.cl hM (⟨_,_,qcf (vs:=[iv G,pg g16,pg g47]) (ca:=#[pg g16,pg g47]) call70 rfl rfl rfl,qdq n hC.lt P (hC.rb (i:=4) rfl) (hC.rb (i:=5) rfl) hC.give h75⟩) ?_
 rintro _ w77 ⟨rfl,hr76,hK⟩
 have hL78: ∀f∈([.own 3 si (.slice A10 (((rZ c.length)).length) c11) z]:List Fact),∀g,g<w73.heap.size→f.blk=some g→g∈blocks [.own 3 si (.slice A10 (((rZ c.length)).length) c11) z]:=List.forall_mem_cons.2 ⟨hBf15,fun _ h=>absurd h List.not_mem_nil⟩
 replace hM:=hM.besideL hL78 hK.fr
 replace hD:=hM.wide (H:=([]:List Fact))
 refine ⟨hM,?_⟩
 replace hC:=hC.back hK
 clear hK
 refine mixE.steady hD (v:=.func (.func 70) #[] #[pg g16,pg g47]) (fun _ hF=>qah isAgg76 e6 ((hS.rbx2 (i:=5) rfl [4] hF).cell (j:=0) rfl))<|mp (iv x66) (qaa rfl) ?_
 replace hC:Cx (fun _=>False) O0 w w77 ([.own 3 si (.slice A10 (((rZ c.length)).length) c11) y74.2]++[.box g4 60 [.slice o d.length p,.slice (some ad68) c.length l,iv K],.ro (.sl si) [.slice o d.length p] d,.ro (.sl si) [.slice (some ad68) c.length l] c,.rbox g16 22 [.slice A10 (((rZ c.length)).length) c11],.rbox g47 76 [.func (.func 70) #[] #[pg g16,pg g47]]]):=hC.sE [0,1,2,3,4,5]
 obtain ⟨y79,h80,hb⟩:=bd hb
 refine mixE.cl hM (⟨_,_,qcf (vs:=[iv x66,pg g16,pg g47]) (ca:=#[pg g16,pg g47]) call70 rfl rfl rfl,qdq n hC.lt (qbl hr71') (hC.rb (i:=4) rfl) (hC.rb (i:=5) rfl) hC.give h80⟩) ?_
 rintro _ w82 ⟨rfl,hr81,hK⟩
 have hL83: ∀f∈([.own 3 si (.slice A10 (((rZ c.length)).length) c11) y74.2]:List Fact),∀g,g<w73.heap.size→f.blk=some g→g∈blocks [.own 3 si (.slice A10 (((rZ c.length)).length) c11) z]:=List.forall_mem_cons.2 ⟨hBf15,fun _ h=>absurd h List.not_mem_nil⟩
 replace hM:=hM.besideL hL83 hK.fr
 replace hD:=hM.wide (H:=([]:List Fact))
 refine ⟨hM,?_⟩
 replace hC:=hC.back hK
 clear hK
 obtain ⟨x84,h85,hb⟩:=bd hb
 obtain ⟨ad86,cs87,hA,hc88,hr89⟩:=hC.elo (i:=0) rfl (qac h85).2
 subst hA
 refine mp (.pointer (some (ad86.add (y74.1.toNat*1)))) (qag (a:=y74.1) underlying22 sizeOf3 rfl rfl (by rw [(hC.ow (i:=0) rfl).qaf.1]; exact (qac h85).1))<|mixE.sk hD (hC.put (i:=0) rfl rfl sizeOf3 (k:=y74.1.toNat) (a:=y79.1) (by have:=(qac h85).1; simp at this⊢; omega) (⟨rfl,I64.wr hr81⟩) rfl rfl rfl) ?_
 rintro w90 ⟨hC,hF⟩
 replace hD:=hD.beside hUf15 hF
 clear hF
 refine ⟨hD,?_⟩
 refine mixE.nil ?_
 clear hS hM
 clear hD
 refine hK64 _ _<|rg ?_
 obtain ⟨z91,h92,hb⟩:=bd hb
 refine lp (iv z91) (qak (a:=G) (b:=1) e34 rfl h92)<|lp (iv z91) (qaa rfl)<|ln ?_
 obtain rfl:=os hb
 exact hK56 m57' _ _ (Nat.lt_succ_self _) ⟨z91,(y79.2.set y74.1.toNat y79.1),e1,e2,e3,e4,e6,e32,e33,rfl,(qai h92),hC.sE [1,2,3,4,0,5],lN hl1⟩
 replace hb:=tf hq63 hb
 refine Wc.exit rfl ?_
 obtain rfl:=os hb
 obtain rfl:=(lX hl1).symm
 exact hK55 _ _ ⟨G,z,e1,e2,e3,e4,e6,P,hC.sE [0,1,2,3,4,5],hbK1⟩
 clear hb hC hl1
 rintro E94 w93 ⟨G,z,e1,e2,e3,e4,e6,P,hC,hb⟩
 subst hf54
 refine hK52 _ _ ?_
 refine Wc.seq fun _ hK95=>?_
 refine Wc.seq fun _ hK96=>rg<|lp (.pointer (some ((⟨g4,0,none⟩:Addr).add 0))) (qal (sz:=1) underlying60 rfl sizeOf22 (by decide) rfl e1)<|lv (.slice o d.length p) (qar (hC.bx (i:=0) rfl) isAgg22 rfl rfl)<|lp (iv (d.length:Int)) (qan (A:=o) (n:=d.length) (m:=p) underlying22 rfl)<|lp (iv 0) (qaa rfl)<|ln (hK96 _ _ ?_)
 obtain ⟨o97,hl2,f97,hf97,hb⟩:=bn hb
 refine Wc.cut (fun E wv=> ∃(J:Int) (B:List Int),E 1=pg g4∧E 2=.slice none 0 0∧E 3=iv 0∧E 6=pg g47∧I64 J∧Cx (fun _=>False) O0 w wv [.box g4 60 [.slice o d.length p,.slice u c.length l,iv K],.ro (.sl si) [.slice o d.length p] d,.ro (.sl si) [.slice u c.length l] c,.rbox g47 76 [.func (.func 70) #[] #[pg g16,pg g47]],.rbox g16 22 [.slice A10 (((rZ c.length)).length) c11],.own 3 si (.slice A10 (((rZ c.length)).length) c11) B]∧f97 (J,B)=some r) (fun _ hK98=>?_) ?_
 refine Wc.block ?_
 refine Wc.loop (fun m E wv=> ∃(J:Int) (B:List Int),E 1=pg g4∧E 2=.slice none 0 0∧E 3=iv 0∧E 4=pg g16∧E 6=pg g47∧E 50=iv (d.length:Int)∧E 51=iv J∧I64 J∧Cx (fun _=>False) O0 w wv [.box g4 60 [.slice o d.length p,.slice u c.length l,iv K],.ro (.sl si) [.slice o d.length p] d,.ro (.sl si) [.slice u c.length l] c,.rbox g16 22 [.slice A10 (((rZ c.length)).length) c11],.own 3 si (.slice A10 (((rZ c.length)).length) c11) B,.rbox g47 76 [.func (.func 70) #[] #[pg g16,pg g47]]]∧loopN m (F.qea n d) (J,B)=some o97) n ⟨0,z,e1,e2,e3,e4,e6,rfl,rfl,(show I64 0 from by unfold I64; omega),hC.sE [0,1,2,3,4,5],hl2⟩ ?_
 have hbK2:=hb
 clear hb hC hl2
 rintro m100 E102 w101 ⟨J,B,e1,e2,e3,e4,e6,e50,e51,R,hC,hl2⟩ K99 hK99
 obtain ⟨m100',o103,rfl,hb,hl2⟩:=qam hl2
 unfold F.qea at hb
 refine Wc.seq fun _ hK104=>rg<|lp _ (qau e51 e50)<|ln (hK104 _ _ ?_)
 refine Wc.seq fun _ hK105=>?_
 refine Wc.cond (t:=(decide (J<(d.length:Int)))) (rfl) (fun hq106=>?_) (fun hq106=>?_)
 replace hb:=tt hq106 hb
 refine Wc.skip (hK105 _ _ ?_)
 refine Wc.seq fun _ hK107=>?_
 refine Wc.block<|Wc.seq fun _ hK108=>rg<|lp _ (qaa e51)<|lp (iv J) (qab rfl)<|ln (hK108 _ _ ?_)
 refine Wc.regionMix [54,55,60] (frm [54,55,60] [.own 3 si (.slice A10 (((rZ c.length)).length) c11) B] ([]:List Fact)) (fun _=>rfl) mixed (by decide+kernel) (by decide+kernel) fun w110 hw109=>?_
 replace hC:=hC.step (Fr.qbh hw109)
 have hM:=Fr.refl (fun k=>k∈blocks [.own 3 si (.slice A10 (((rZ c.length)).length) c11) B]) w110
 clear hw109
 have hS:=hC
 have hBf15:Beside [.own 3 si (.slice A10 (((rZ c.length)).length) c11) B] w110 (.slice A10 (((rZ c.length)).length) c11):=Beside.of (i:=0) rfl
 have hD:Fr (fun k=>k∈blocks ([.own 3 si (.slice A10 (((rZ c.length)).length) c11) B]++([]:List Fact))) w110 w110:=hM.wide
 have hUf15:Beside ([.own 3 si (.slice A10 (((rZ c.length)).length) c11) B]++([]:List Fact)) w110 (.slice A10 (((rZ c.length)).length) c11):=Beside.of (i:=0) rfl
 refine mixE.steady hD (v:=.slice A10 (((rZ c.length)).length) c11) (fun _ hF=>qah isAgg22 e4 ((hS.rbx2 (i:=3) rfl [4] hF).cell (j:=0) rfl))<|mixE.steady hD (v:=.func (.func 70) #[] #[pg g16,pg g47]) (fun _ hF=>qah isAgg76 e6 ((hS.rbx2 (i:=5) rfl [4] hF).cell (j:=0) rfl))<|mp (iv J) (qaa rfl) ?_
 obtain ⟨z111,h112,hb⟩:=bd hb
 refine mp (iv z111) (qdz (a:=4) (b:=J) rfl rfl h112) ?_
 obtain ⟨z113,h114,hb⟩:=bd hb
 refine mp (iv z113) (qak (a:=z111) (b:=1) rfl rfl h114) ?_
 replace hC:Cx (fun _=>False) O0 w w110 ([.own 3 si (.slice A10 (((rZ c.length)).length) c11) B]++[.box g4 60 [.slice o d.length p,.slice u c.length l,iv K],.ro (.sl si) [.slice o d.length p] d,.ro (.sl si) [.slice u c.length l] c,.rbox g16 22 [.slice A10 (((rZ c.length)).length) c11],.rbox g47 76 [.func (.func 70) #[] #[pg g16,pg g47]]]):=hC.sE [4,0,1,2,3,5]
 obtain ⟨y115,h116,hb⟩:=bd hb
 refine mixE.cl hM (⟨_,_,qcf (vs:=[iv z113,pg g16,pg g47]) (ca:=#[pg g16,pg g47]) call70 rfl rfl rfl,qdq n hC.lt (qai h114) (hC.rb (i:=4) rfl) (hC.rb (i:=5) rfl) hC.give h116⟩) ?_
 rintro _ w118 ⟨rfl,hr117,hK⟩
 have hL119: ∀f∈([.own 3 si (.slice A10 (((rZ c.length)).length) c11) B]:List Fact),∀g,g<w110.heap.size→f.blk=some g→g∈blocks [.own 3 si (.slice A10 (((rZ c.length)).length) c11) B]:=List.forall_mem_cons.2 ⟨hBf15,fun _ h=>absurd h List.not_mem_nil⟩
 replace hM:=hM.besideL hL119 hK.fr
 replace hD:=hM.wide (H:=([]:List Fact))
 refine ⟨hM,?_⟩
 replace hC:=hC.back hK
 clear hK
 refine mixE.steady hD (v:=.func (.func 70) #[] #[pg g16,pg g47]) (fun _ hF=>qah isAgg76 e6 ((hS.rbx2 (i:=5) rfl [4] hF).cell (j:=0) rfl))<|mp (iv J) (qaa rfl) ?_
 obtain ⟨z120,h121,hb⟩:=bd hb
 refine mp (iv z120) (qdz (a:=4) (b:=J) rfl rfl h121) ?_
 obtain ⟨z122,h123,hb⟩:=bd hb
 refine mp (iv z122) (qak (a:=z120) (b:=3) rfl rfl h123) ?_
 replace hC:Cx (fun _=>False) O0 w w118 ([.own 3 si (.slice A10 (((rZ c.length)).length) c11) y115.2]++[.box g4 60 [.slice o d.length p,.slice u c.length l,iv K],.ro (.sl si) [.slice o d.length p] d,.ro (.sl si) [.slice u c.length l] c,.rbox g16 22 [.slice A10 (((rZ c.length)).length) c11],.rbox g47 76 [.func (.func 70) #[] #[pg g16,pg g47]]]):=hC.sE [0,1,2,3,4,5]
 obtain ⟨y124,h125,hb⟩:=bd hb
 refine mixE.cl hM (⟨_,_,qcf (vs:=[iv z122,pg g16,pg g47]) (ca:=#[pg g16,pg g47]) call70 rfl rfl rfl,qdq n hC.lt (qai h123) (hC.rb (i:=4) rfl) (hC.rb (i:=5) rfl) hC.give h125⟩) ?_
 rintro _ w127 ⟨rfl,hr126,hK⟩
 have hL128: ∀f∈([.own 3 si (.slice A10 (((rZ c.length)).length) c11) y115.2]:List Fact),∀g,g<w110.heap.size→f.blk=some g→g∈blocks [.own 3 si (.slice A10 (((rZ c.length)).length) c11) B]:=List.forall_mem_cons.2 ⟨hBf15,fun _ h=>absurd h List.not_mem_nil⟩
 replace hM:=hM.besideL hL128 hK.fr
 replace hD:=hM.wide (H:=([]:List Fact))
 refine ⟨hM,?_⟩
 replace hC:=hC.back hK
 clear hK
 obtain ⟨x129,h130,hb⟩:=bd hb
 obtain ⟨ad131,cs132,hA,hc133,hr134⟩:=hC.elo (i:=0) rfl (qac h130).2
 subst hA
 refine mp (.pointer (some (ad131.add (y115.1.toNat*1)))) (qag (a:=y115.1) underlying22 sizeOf3 rfl rfl (by rw [(hC.ow (i:=0) rfl).qaf.1]; exact (qac h130).1))<|mixE.sk hD (hC.put (i:=0) rfl rfl sizeOf3 (k:=y115.1.toNat) (a:=y124.1) (by have:=(qac h130).1; simp at this⊢; omega) (⟨rfl,I64.wr hr126⟩) rfl rfl rfl) ?_
 rintro w135 ⟨hC,hF⟩
 replace hD:=hD.beside hUf15 hF
 clear hF
 refine ⟨hD,?_⟩
 refine mixE.nil ?_
 clear hS hM
 clear hD
 refine hK107 _ _<|rg ?_
 obtain ⟨z136,h137,hb⟩:=bd hb
 refine lp (iv z136) (qak (a:=J) (b:=1) e51 rfl h137)<|lp (iv z136) (qaa rfl)<|ln ?_
 obtain rfl:=os hb
 exact hK99 m100' _ _ (Nat.lt_succ_self _) ⟨z136,(y124.2.set y115.1.toNat y124.1),e1,e2,e3,e4,e6,e50,rfl,(qai h137),hC.sE [1,2,3,4,0,5],lN hl2⟩
 replace hb:=tf hq106 hb
 refine Wc.exit rfl ?_
 obtain rfl:=os hb
 obtain rfl:=(lX hl2).symm
 exact hK98 _ _ ⟨J,B,e1,e2,e3,e6,R,hC.sE [0,1,2,5,3,4],hbK2⟩
 clear hb hC hl2
 rintro E139 w138 ⟨J,B,e1,e2,e3,e6,R,hC,hb⟩
 subst hf97
 refine hK95 _ _<|Wc.seq fun _ hK140=>rg<|lp (.pointer (some ((⟨g4,0,none⟩:Addr).add 0))) (qal (sz:=1) underlying60 rfl sizeOf22 (by decide) rfl e1)<|lv (.slice o d.length p) (qar (hC.bx (i:=0) rfl) isAgg22 rfl rfl)<|lp (iv (d.length:Int)) (qan (A:=o) (n:=d.length) (m:=p) underlying22 rfl)<|lex.op (hC.mkimap underlying111 rfl) ?_
 rintro _ w142 ⟨g141,rfl,hC,-⟩
 refine lp (.map (some g141)) (qab rfl)<|ln (hK140 _ _ ?_)
 refine Wc.seq fun _ hK144=>rg<|lp (.pointer (some ((⟨g4,0,none⟩:Addr).add 1))) (qal (sz:=1) underlying60 rfl sizeOf22 (by decide) rfl e1)<|lv (.slice u c.length l) (qar (hC.bx (i:=1) rfl) isAgg22 rfl rfl)<|lp (iv (c.length:Int)) (qan (A:=u) (n:=c.length) (m:=l) underlying22 rfl) ?_
 obtain ⟨u145,h146,hb⟩:=bd hb
 refine lex.op (hC.make (s:=si) (n:=(c.length:Int)) underlying22 type3 rfl rfl rfl rfl rfl (qae h146).1 (qae h146).2 (by decide)) ?_
 rintro _ w151 ⟨A147,c148,rfl,hl149,hc150,hC,-,-⟩
 refine lp (.slice A147 (((rZ c.length)).length) c148) (qab rfl)<|ln (hK144 _ _ ?_)
 refine Wc.fresh fun E153 hE=>?_
 have e2:=cg hE 2 e2
 have e3:=cg hE 3 e3
 have e6:=cg hE 6 e6
 have e10:E153 10=.map (some g141):=cg hE 10 rfl
 have e11:E153 11=.slice A147 (((rZ c.length)).length) c148:=cg hE 11 rfl
 clear hE
 refine Wc.seq fun _ hK154=>?_
 refine Wc.seq fun _ hK155=>rg<|lp _ (qaa e11)<|lp (iv (((rZ c.length)).length:Int)) (qan (A:=A147) (n:=((rZ c.length)).length) (m:=c148) underlying22 rfl)<|lp (iv 0) (qaa rfl)<|ln (hK155 _ _ ?_)
 obtain ⟨o156,hl3,f156,hf156,hb⟩:=bn hb
 refine Wc.cut (fun E wv=> ∃(y:Int) (M:List Int) (x:List (Int×Int)) (D:List Int),E 2=.slice none 0 0∧E 3=iv 0∧E 10=.map (some g141)∧E 11=.slice A147 (((rZ c.length)).length) c148∧I64 y∧Cx (fun _=>False) O0 w wv [.obj g141 (imobj x),.own 3 si (.slice A147 (((rZ c.length)).length) c148) D]∧f156 (y,M,x,D)=some r) (fun _ hK157=>?_) ?_
 refine Wc.block ?_
 refine Wc.loop (fun m E wv=> ∃(y:Int) (M:List Int) (x:List (Int×Int)) (D:List Int),E 2=.slice none 0 0∧E 3=iv 0∧E 6=pg g47∧E 10=.map (some g141)∧E 11=.slice A147 (((rZ c.length)).length) c148∧E 76=iv (((rZ c.length)).length:Int)∧E 77=iv y∧I64 y∧Cx (fun _=>False) O0 w wv [.rbox g47 76 [.func (.func 70) #[] #[pg g16,pg g47]],.rbox g16 22 [.slice A10 (((rZ c.length)).length) c11],.own 3 si (.slice A10 (((rZ c.length)).length) c11) M,.obj g141 (imobj x),.own 3 si (.slice A147 (((rZ c.length)).length) c148) D]∧loopN m (F.qec n c) (y,M,x,D)=some o156) n ⟨0,B,([]:List (Int×Int)),(rZ c.length),e2,e3,e6,e10,e11,rfl,rfl,(show I64 0 from by unfold I64; omega),hC.sE [5,6,7,1,0],hl3⟩ ?_
 have hbK3:=hb
 clear hb hC hl3
 rintro m159 E161 w160 ⟨y,M,x,D,e2,e3,e6,e10,e11,e76,e77,Q,hC,hl3⟩ K158 hK158
 obtain ⟨m159',o162,rfl,hb,hl3⟩:=qam hl3
 unfold F.qec at hb
 refine Wc.seq fun _ hK163=>rg<|lp _ (qau e77 e76)<|ln (hK163 _ _ ?_)
 refine Wc.seq fun _ hK164=>?_
 refine Wc.cond (t:=(decide (y<(((rZ c.length)).length:Int)))) (rfl) (fun hq165=>?_) (fun hq165=>?_)
 replace hb:=tt hq165 hb
 refine Wc.skip (hK164 _ _ ?_)
 refine Wc.seq fun _ hK166=>?_
 refine Wc.block<|Wc.seq fun _ hK167=>rg<|lp _ (qaa e77)<|lp (iv y) (qab rfl)<|ln (hK167 _ _ ?_)
 refine Wc.seq fun _ hK168=>rg<|lv (.func (.func 70) #[] #[pg g16,pg g47]) (qah isAgg76 e6 ((hC.rbx (i:=0) rfl).cell (j:=0) rfl))<|lp (iv y) (qaa rfl) ?_
 replace hC:Cx (fun _=>False) O0 w w160 ([.own 3 si (.slice A10 (((rZ c.length)).length) c11) M]++[.rbox g47 76 [.func (.func 70) #[] #[pg g16,pg g47]],.rbox g16 22 [.slice A10 (((rZ c.length)).length) c11],.obj g141 (imobj x),.own 3 si (.slice A147 (((rZ c.length)).length) c148) D]):=hC.sE [2,0,1,3,4]
 obtain ⟨y169,h170,hb⟩:=bd hb
 refine lex.cl (⟨_,_,qcf (vs:=[iv y,pg g16,pg g47]) (ca:=#[pg g16,pg g47]) call70 rfl rfl rfl,qdq n hC.lt Q (hC.rb (i:=2) rfl) (hC.rb (i:=1) rfl) hC.give h170⟩) ?_
 rintro _ w172 ⟨rfl,hr171,hK⟩
 replace hC:=hC.back hK
 clear hK
 refine lp (iv y169.1) (qab rfl)<|ln (hK168 _ _ ?_)
 refine Wc.seq fun _ hK173=>?_
 refine Wc.seq fun _ hK174=>rg<|lp _ (qaa e10)<|lp (iv y169.1) (qaa rfl) ?_
 obtain ⟨z175,h176,hb⟩:=bd hb
 refine lv (.tuple #[iv z175,.bool ((imget x y169.1).isSome)]) (by have h9:=(qfn h176).1; first | (rw [h9]; exact ilk (k:=y169.1) (hC.ob (i:=3) rfl) underlying111 zeroValue3 underlying3 rfl rfl) | (rw [←h9]; exact ilk (k:=y169.1) (hC.ob (i:=3) rfl) underlying111 zeroValue3 underlying3 rfl rfl))<|lp (.tuple #[iv z175,.bool ((imget x y169.1).isSome)]) (qaa rfl)<|lp (iv z175) (qaz rfl rfl)<|lp (.bool ((imget x y169.1).isSome)) (qaz rfl rfl)<|lp (iv z175) (qab rfl)<|lp (.bool ((imget x y169.1).isSome)) (qab rfl)<|ln (hK174 _ _ ?_)
 refine Wc.fresh fun E177 hE=>?_
 have e2:=cg hE 2 e2
 have e3:=cg hE 3 e3
 have e6:=cg hE 6 e6
 have e10:=cg hE 10 e10
 have e11:=cg hE 11 e11
 have e12:E177 12=iv y:=cg hE 12 rfl
 have e13:E177 13=iv y169.1:=cg hE 13 rfl
 have e15:E177 15=.bool ((imget x y169.1).isSome):=cg hE 15 rfl
 have e76:=cg hE 76 e76
 have e77:=cg hE 77 e77
 have e78:E177 78=.bool (decide (y<(((rZ c.length)).length:Int))):=cg hE 78 rfl
 clear hE
 refine Wc.seq fun _ hK178=>rg<|lp _ (qaa e15)<|lp (.bool (!(imget x y169.1).isSome)) (qcd (q:=(imget x y169.1).isSome) rfl)<|ln (hK178 _ _ ?_)
 refine Wc.cond (t:=(!(imget x y169.1).isSome)) (rfl) (fun hq179=>?_) (fun hq179=>?_)
 replace hb:=tt hq179 hb
 refine rg<|lp _ (qaa e10)<|lp _ (qaa e13)<|lp _ (qaa e10) ?_
 obtain ⟨z180,h181,hb⟩:=bd hb
 refine lv (iv z180) (by have h9:=(qfn h181).1; first | (rw [h9]; exact ilen (hC.ob (i:=3) rfl) underlying111 rfl) | (rw [←h9]; exact ilen (hC.ob (i:=3) rfl) underlying111 rfl)) ?_
 obtain ⟨u182,h183,hb⟩:=bd hb
 refine lex.sk (hC.iput (i:=3) (k:=y169.1) (v:=z180) rfl (nok_some h183) underlying111 underlying3 rfl rfl rfl) ?_
 rintro w184 ⟨hC,-⟩
 refine ln (hK173 _ _ ?_)
 refine rg<|lp _ (qaa e11)<|lp _ (qaa e12)<|lp _ (qaa e10)<|lp _ (qaa e13) ?_
 obtain ⟨z185,h186,hb⟩:=bd hb
 refine lv (iv z185) (by have h9:=(qfn h186).1; first | (rw [h9]; exact ilk1 (k:=y169.1) (hC.ob (i:=3) rfl) underlying111 zeroValue3 underlying3 rfl rfl) | (rw [←h9]; exact ilk1 (k:=y169.1) (hC.ob (i:=3) rfl) underlying111 zeroValue3 underlying3 rfl rfl)) ?_
 obtain ⟨x187,h188,hb⟩:=bd hb
 obtain ⟨ad189,cs190,hA,hc191,hr192⟩:=hC.elo (i:=4) rfl (qac h188).2
 subst hA
 refine lp (.pointer (some (ad189.add (y.toNat*1)))) (qag (a:=y) underlying22 sizeOf3 rfl rfl (by rw [(hC.ow (i:=4) rfl).qaf.1]; exact (qac h188).1))<|lex.sk (hC.put (i:=4) rfl rfl sizeOf3 (k:=y.toNat) (a:=z185) (by have:=(qac h188).1; simp at this⊢; omega) (⟨rfl,I64.wr (qai h186)⟩) rfl rfl rfl) ?_
 rintro w193 ⟨hC,hF⟩
 refine ln (hK166 _ _ ?_)
 refine rg ?_
 obtain ⟨z194,h195,hb⟩:=bd hb
 refine lp (iv z194) (qak (a:=y) (b:=1) e77 rfl h195)<|lp (iv z194) (qaa rfl)<|ln ?_
 obtain rfl:=os hb
 exact hK158 m159' _ _ (Nat.lt_succ_self _) ⟨z194,y169.2,(x++[(y169.1,z180)]),(D.set y.toNat z185),e2,e3,e6,e10,e11,e76,rfl,(qai h195),hC.sE [1,2,0,3,4],lN hl3⟩
 replace hb:=tf hq179 hb
 refine Wc.skip (hK173 _ _ ?_)
 refine rg<|lp _ (qaa e11)<|lp _ (qaa e12)<|lp _ (qaa e10)<|lp _ (qaa e13) ?_
 obtain ⟨z196,h197,hb⟩:=bd hb
 refine lv (iv z196) (by have h9:=(qfn h197).1; first | (rw [h9]; exact ilk1 (k:=y169.1) (hC.ob (i:=3) rfl) underlying111 zeroValue3 underlying3 rfl rfl) | (rw [←h9]; exact ilk1 (k:=y169.1) (hC.ob (i:=3) rfl) underlying111 zeroValue3 underlying3 rfl rfl)) ?_
 obtain ⟨x198,h199,hb⟩:=bd hb
 obtain ⟨ad200,cs201,hA,hc202,hr203⟩:=hC.elo (i:=4) rfl (qac h199).2
 subst hA
 refine lp (.pointer (some (ad200.add (y.toNat*1)))) (qag (a:=y) underlying22 sizeOf3 rfl rfl (by rw [(hC.ow (i:=4) rfl).qaf.1]; exact (qac h199).1))<|lex.sk (hC.put (i:=4) rfl rfl sizeOf3 (k:=y.toNat) (a:=z196) (by have:=(qac h199).1; simp at this⊢; omega) (⟨rfl,I64.wr (qai h197)⟩) rfl rfl rfl) ?_
 rintro w204 ⟨hC,hF⟩
 refine ln (hK166 _ _ ?_)
 refine rg ?_
 obtain ⟨z205,h206,hb⟩:=bd hb
 refine lp (iv z205) (qak (a:=y) (b:=1) e77 rfl h206)<|lp (iv z205) (qaa rfl)<|ln ?_
 obtain rfl:=os hb
 exact hK158 m159' _ _ (Nat.lt_succ_self _) ⟨z205,y169.2,x,(D.set y.toNat z196),e2,e3,e6,e10,e11,e76,rfl,(qai h206),hC.sE [1,2,0,3,4],lN hl3⟩
 replace hb:=tf hq165 hb
 refine Wc.exit rfl ?_
 obtain rfl:=os hb
 obtain rfl:=(lX hl3).symm
 exact hK157 _ _ ⟨y,M,x,D,e2,e3,e10,e11,Q,hC.sE [3,4],hbK3⟩
 clear hb hC hl3
 rintro E208 w207 ⟨y,M,x,D,e2,e3,e10,e11,Q,hC,hb⟩
 subst hf156
 refine hK154 _ _<|Wc.seq fun _ hK209=>rg<|lp _ (qaa e11)<|lp _ (qaa e10) ?_
 obtain ⟨z210,h211,hb⟩:=bd hb
 refine lv (iv z210) (by have h9:=(qfn h211).1; first | (rw [h9]; exact ilen (hC.ob (i:=0) rfl) underlying111 rfl) | (rw [←h9]; exact ilen (hC.ob (i:=0) rfl) underlying111 rfl))<|lp (.slice A147 (((rZ c.length)).length) c148) (qab rfl)<|lp (iv z210) (qab rfl)<|ln (hK209 _ _ ?_)
 obtain rfl:=os hb
 refine Wc.ret (hKR _ _ ?_)
 refine ⟨_,res2 results52 (tV (.slice A147 (((rZ c.length)).length) c148) rfl) (tV (iv z210) rfl),_,rfl,A147,((rZ c.length)).length,c148,rfl,(qai h211),hC.sE [1]⟩
