import Derived.Test.YtpnppjlnfhlmpaaS
import Derived.Test.YtpnppjlnfhlmpaaG0
set_option linter.all false
namespace Go.Proofs.Ytpnppjlnfhlmpaa
open Ev Try
set_option maxRecDepth 100000
set_option maxHeartbeats 4000000
theorem qdm (n:Nat) {w:World} {O0:List Nat} (hO: ∀k∈O0,k<w.heap.size) {j:Option Addr} {z l:Nat} {c:List Int} (B:Rep O0 w (.sl si) [.slice j z l] c) {o:Option Addr} {C h:Nat} {d:List Int} (D:Rep O0 w (.sl si) [.slice o C h] d) {g:Int} (x:I64 g) {r:Bool} (hb:F.qcs n c d g=some r):
    Calls prog 11 #[.agg #[.slice j z l,.slice o C h,iv g]] w fun e w'=> ∃v,e=.returned v∧v=.bool r∧Cx (fun _=>False) O0 w w' []:=by
 unfold F.qcs at hb
 have hC:=Cx.start hO
 replace hC:=hC.arg rfl B
 replace hC:=hC.arg rfl D
 clear hO
 obtain ⟨rfl,G,H⟩:=B.qae
 obtain ⟨rfl,J,K⟩:=D.qae
 refine qao func11 rfl (by rw [ntmps11]; exact nb rfl) fun KR hKR=>?_
 refine Wc.seq fun _ hK3=>rg<|lex.op (hC.box (cs:=[.slice j c.length l,.slice o d.length h,iv g]) rfl rfl) ?_
 rintro _ w5 ⟨g4,rfl,hC,hF,-⟩
 refine lp (.bool false) (qab rfl)<|ln (hK3 _ _ ?_)
 refine Wc.seq fun _ hK7=>rg<|lp (.pointer (some ((⟨g4,0,none⟩:Addr).add 0))) (qaf (sz:=1) underlying32 rfl sizeOf22 (by decide) rfl rfl)<|lv (.slice j c.length l) (qal (hC.bx (i:=0) rfl) isAgg22 rfl rfl)<|lp (iv (c.length:Int)) (qay (A:=j) (n:=c.length) (m:=l) underlying22 rfl)<|lp (iv (c.length:Int)) (qab rfl)<|ln (hK7 _ _ ?_)
 refine Wc.seq fun _ hK8=>?_
 refine Wc.seq fun _ hK9=>rg<|lp (iv (c.length:Int)) (qaa rfl)<|lp (.bool (decide (64<(c.length:Int)))) (qfq (k:=.i64) (a:=(c.length:Int)) (b:=64) rfl rfl)<|lp (.bool (decide (64<(c.length:Int)))) (qaa rfl) ?_
 rcases bS (decide (64<(c.length:Int))) with hq10 | hq10
 replace hb:=tt hq10 hb
 refine gs rfl rfl (decide (64<(c.length:Int))) rfl hq10<|gs rfl rfl (decide (64<(c.length:Int))) rfl hq10<|gs rfl rfl (decide (64<(c.length:Int))) rfl hq10<|gs rfl rfl (decide (64<(c.length:Int))) rfl hq10<|gs rfl rfl (decide (64<(c.length:Int))) rfl hq10<|gs rfl rfl (decide (64<(c.length:Int))) rfl hq10<|lp (.bool true) (qap (q:=(decide (64<(c.length:Int)))) rfl hq10 rfl)<|lp (.bool true) (qaa rfl)<|gs rfl rfl true rfl rfl<|gs rfl rfl true rfl rfl<|gs rfl rfl true rfl rfl<|lp (.bool true) (qap (q:=true) rfl rfl rfl)<|lp (.bool true) (qaa rfl)<|gs rfl rfl true rfl rfl<|gs rfl rfl true rfl rfl<|gs rfl rfl true rfl rfl<|lp (.bool true) (qap (q:=true) rfl rfl rfl)<|ln (hK9 _ _ ?_)
 refine Wc.cond_true (rfl) ?_
 refine Wc.seq fun _ hK11=>rg<|lp (.bool false) (qab rfl)<|ln (hK11 _ _ ?_)
 obtain rfl:=os hb
 refine Wc.ret (hKR _ _ ?_)
 refine ⟨_,res1 results11 (tV (.bool false) rfl),_,rfl,rfl,hC.sE []⟩
 replace hb:=tf hq10 hb
 refine gp rfl rfl (decide (64<(c.length:Int))) rfl hq10 (.pointer (some ((⟨g4,0,none⟩:Addr).add 1))) (qaf (sz:=1) underlying32 rfl sizeOf22 (by decide) rfl rfl)<|gv rfl rfl (decide (64<(c.length:Int))) rfl hq10 (.slice o d.length h) (qal (hC.bx (i:=0) rfl) isAgg22 rfl rfl)<|gp rfl rfl (decide (64<(c.length:Int))) rfl hq10 (iv (d.length:Int)) (qay (A:=o) (n:=d.length) (m:=h) underlying22 rfl)<|gp rfl rfl (decide (64<(c.length:Int))) rfl hq10 (iv (c.length:Int)) (qaa rfl) ?_
 obtain ⟨z12,h13,hb⟩:=bd hb
 refine gp rfl rfl (decide (64<(c.length:Int))) rfl hq10 (iv z12) (qfx (a:=4) (b:=(c.length:Int)) rfl rfl h13)<|gp rfl rfl (decide (64<(c.length:Int))) rfl hq10 (.bool (!(decide ((d.length:Int)=z12)))) (pu_neq (k:=.i64) (a:=(d.length:Int)) (b:=z12) rfl rfl)<|lp (.bool (!(decide ((d.length:Int)=z12)))) (qak (q:=(decide (64<(c.length:Int)))) rfl hq10 rfl)<|lp (.bool (!(decide ((d.length:Int)=z12)))) (qaa rfl) ?_
 rcases bS (!(decide ((d.length:Int)=z12))) with hq14 | hq14
 replace hb:=tt hq14 hb
 refine gs rfl rfl (!(decide ((d.length:Int)=z12))) rfl hq14<|gs rfl rfl (!(decide ((d.length:Int)=z12))) rfl hq14<|gs rfl rfl (!(decide ((d.length:Int)=z12))) rfl hq14<|lp (.bool true) (qap (q:=(!(decide ((d.length:Int)=z12)))) rfl hq14 rfl)<|lp (.bool true) (qaa rfl)<|gs rfl rfl true rfl rfl<|gs rfl rfl true rfl rfl<|gs rfl rfl true rfl rfl<|lp (.bool true) (qap (q:=true) rfl rfl rfl)<|ln (hK9 _ _ ?_)
 refine Wc.cond_true (rfl) ?_
 refine Wc.seq fun _ hK15=>rg<|lp (.bool false) (qab rfl)<|ln (hK15 _ _ ?_)
 obtain rfl:=os hb
 refine Wc.ret (hKR _ _ ?_)
 refine ⟨_,res1 results11 (tV (.bool false) rfl),_,rfl,rfl,hC.sE []⟩
 replace hb:=tf hq14 hb
 refine gp rfl rfl (!(decide ((d.length:Int)=z12))) rfl hq14 (.pointer (some ((⟨g4,0,none⟩:Addr).add 2))) (qaf (sz:=1) underlying32 rfl sizeOf3 (by decide) rfl rfl)<|gv rfl rfl (!(decide ((d.length:Int)=z12))) rfl hq14 (iv g) (qal (hC.bx (i:=0) rfl) isAgg3 rfl rfl)<|gp rfl rfl (!(decide ((d.length:Int)=z12))) rfl hq14 (.bool (decide (g<0))) (qbj (k:=.i64) (a:=g) (b:=0) rfl rfl)<|lp (.bool (decide (g<0))) (qak (q:=(!(decide ((d.length:Int)=z12)))) rfl hq14 rfl)<|lp (.bool (decide (g<0))) (qaa rfl) ?_
 rcases bS (decide (g<0)) with hq16 | hq16
 replace hb:=tt hq16 hb
 refine gs rfl rfl (decide (g<0)) rfl hq16<|gs rfl rfl (decide (g<0)) rfl hq16<|gs rfl rfl (decide (g<0)) rfl hq16<|lp (.bool true) (qap (q:=(decide (g<0))) rfl hq16 rfl)<|ln (hK9 _ _ ?_)
 refine Wc.cond_true (rfl) ?_
 refine Wc.seq fun _ hK17=>rg<|lp (.bool false) (qab rfl)<|ln (hK17 _ _ ?_)
 obtain rfl:=os hb
 refine Wc.ret (hKR _ _ ?_)
 refine ⟨_,res1 results11 (tV (.bool false) rfl),_,rfl,rfl,hC.sE []⟩
 replace hb:=tf hq16 hb
 refine gp rfl rfl (decide (g<0)) rfl hq16 (.pointer (some ((⟨g4,0,none⟩:Addr).add 2))) (qaf (sz:=1) underlying32 rfl sizeOf3 (by decide) rfl rfl)<|gv rfl rfl (decide (g<0)) rfl hq16 (iv g) (qal (hC.bx (i:=0) rfl) isAgg3 rfl rfl)<|gp rfl rfl (decide (g<0)) rfl hq16 (.bool (decide (64<g))) (qfq (k:=.i64) (a:=g) (b:=64) rfl rfl)<|lp (.bool (decide (64<g))) (qak (q:=(decide (g<0))) rfl hq16 rfl)<|ln (hK9 _ _ ?_)
 refine Wc.cond (t:=(decide (64<g))) (rfl) (fun hq18=>?_) (fun hq18=>?_)
 replace hb:=tt hq18 hb
 refine Wc.seq fun _ hK19=>rg<|lp (.bool false) (qab rfl)<|ln (hK19 _ _ ?_)
 obtain rfl:=os hb
 refine Wc.ret (hKR _ _ ?_)
 refine ⟨_,res1 results11 (tV (.bool false) rfl),_,rfl,rfl,hC.sE []⟩
 replace hb:=tf hq18 hb
 refine Wc.skip (hK8 _ _ ?_)
 refine Wc.fresh fun E20 hE=>?_
 have e1:E20 1=pg g4:=cg hE 1 rfl
 have e2:E20 2=.bool false:=cg hE 2 rfl
 have e3:E20 3=iv (c.length:Int):=cg hE 3 rfl
 clear hE
 refine Wc.seq fun _ hK21=>?_
 refine Wc.seq fun _ hK22=>rg<|lp (.pointer (some ((⟨g4,0,none⟩:Addr).add 0))) (qaf (sz:=1) underlying32 rfl sizeOf22 (by decide) rfl e1)<|lv (.slice j c.length l) (qal (hC.bx (i:=0) rfl) isAgg22 rfl rfl)<|lp (iv (c.length:Int)) (qay (A:=j) (n:=c.length) (m:=l) underlying22 rfl)<|lp (iv 0) (qaa rfl)<|ln (hK22 _ _ ?_)
 obtain ⟨o23,hl0,hb⟩:=bd hb
 refine Wc.cut (fun E wv=> ∃(s:Int),E 1=pg g4∧E 2=.bool false∧E 3=iv (c.length:Int)∧I64 s∧Cx (fun _=>False) O0 w wv [.box g4 32 [.slice j c.length l,.slice o d.length h,iv g],.ro (.sl si) [.slice j c.length l] c,.ro (.sl si) [.slice o d.length h] d]∧(((loopN n (F.qej n c d g) 0).bind fun o53=>match o53 with | (.inl f)=>(F.qdv n c d g).bind fun y106=>some y106 | (.inr q)=>some q):Option (Bool))=some r) (fun _ hK24=>?_) ?_
 refine Wc.block ?_
 refine Wc.loop (fun m E wv=> ∃(s:Int),E 1=pg g4∧E 2=.bool false∧E 3=iv (c.length:Int)∧E 32=.slice j c.length l∧E 33=iv (c.length:Int)∧E 34=iv s∧I64 s∧Cx (fun _=>False) O0 w wv [.box g4 32 [.slice j c.length l,.slice o d.length h,iv g],.ro (.sl si) [.slice j c.length l] c,.ro (.sl si) [.slice o d.length h] d]∧loopN m (F.qdk n c) s=some o23) n ⟨0,e1,e2,e3,rfl,rfl,rfl,(show I64 0 from by unfold I64; omega),hC.sE [0,2,1],hl0⟩ ?_
 have hbK0:=hb
 clear hb hC hl0
 rintro m26 E28 w27 ⟨s,e1,e2,e3,e32,e33,e34,y,hC,hl0⟩ K25 hK25
 obtain ⟨m26',o29,rfl,hb,hl0⟩:=qax hl0
 unfold F.qdk at hb
 refine Wc.seq fun _ hK30=>rg<|lp _ (qbj e34 e33)<|ln (hK30 _ _ ?_)
 refine Wc.seq fun _ hK31=>?_
 refine Wc.cond (t:=(decide (s<(c.length:Int)))) (rfl) (fun hq32=>?_) (fun hq32=>?_)
 replace hb:=tt hq32 hb
 refine Wc.skip (hK31 _ _ ?_)
 refine Wc.seq fun _ hK33=>?_
 refine Wc.block<|Wc.seq fun _ hK34=>rg ?_
 obtain ⟨x35,h36,hb⟩:=bd hb
 obtain ⟨ad37,cs38,hA,hc39,hr40⟩:=hC.elr (i:=1) rfl (qad h36).2
 subst hA
 refine lp (.pointer (some (ad37.add (s.toNat*1)))) (qar (a:=s) underlying22 sizeOf3 e32 e34 (qad h36).1) ?_
 obtain ⟨rfl,hr40'⟩:=hr40
 refine lv (iv x35) (qaw isAgg3 rfl (hc39 0 _ rfl))<|lp (iv x35) (qab rfl)<|ln (hK34 _ _ ?_)
 refine Wc.seq fun _ hK41=>rg<|lp (iv x35) (qaa rfl)<|lp (.bool (!(decide (x35=1)))) (pu_neq (k:=.i64) (a:=x35) (b:=1) rfl rfl)<|lp (.bool (!(decide (x35=1)))) (qaa rfl) ?_
 rcases bS (!(decide (x35=1))) with hq42 | hq42
 replace hb:=tt hq42 hb
 refine gp rfl rfl (!(decide (x35=1))) rfl hq42 (iv x35) (qaa rfl)<|gp rfl rfl (!(decide (x35=1))) rfl hq42 (.bool (!(decide (x35=(-1))))) (pu_neq (k:=.i64) (a:=x35) (b:=(-1)) rfl rfl)<|lp (.bool (!(decide (x35=(-1))))) (qap (q:=(!(decide (x35=1)))) rfl hq42 rfl)<|ln (hK41 _ _ ?_)
 refine Wc.cond (t:=(!(decide (x35=(-1))))) (rfl) (fun hq43=>?_) (fun hq43=>?_)
 replace hb:=tt hq43 hb
 refine Wc.seq fun _ hK44=>rg<|lp (.bool false) (qab rfl)<|ln (hK44 _ _ ?_)
 obtain rfl:=os hb
 obtain rfl:=(lX hl0).symm
 replace hb:=hbK0
 obtain rfl:=os hb
 refine Wc.ret (hKR _ _ ?_)
 refine ⟨_,res1 results11 (tV (.bool false) rfl),_,rfl,rfl,hC.sE []⟩
 replace hb:=tf hq43 hb
 refine Wc.skip (hK33 _ _ ?_)
 refine rg ?_
 obtain ⟨z45,h46,hb⟩:=bd hb
 refine lp (iv z45) (qau (a:=s) (b:=1) e34 rfl h46)<|lp (iv z45) (qaa rfl)<|ln ?_
 obtain rfl:=os hb
 exact hK25 m26' _ _ (Nat.lt_succ_self _) ⟨z45,e1,e2,e3,e32,e33,rfl,(qah h46),hC.sE [0,1,2],lN hl0⟩
 replace hb:=tf hq42 hb
 refine gs rfl rfl (!(decide (x35=1))) rfl hq42<|gs rfl rfl (!(decide (x35=1))) rfl hq42<|lp (.bool false) (qak (q:=(!(decide (x35=1)))) rfl hq42 rfl)<|ln (hK41 _ _ ?_)
 refine Wc.cond_false (rfl) ?_
 refine Wc.skip (hK33 _ _ ?_)
 refine rg ?_
 obtain ⟨z47,h48,hb⟩:=bd hb
 refine lp (iv z47) (qau (a:=s) (b:=1) e34 rfl h48)<|lp (iv z47) (qaa rfl)<|ln ?_
 obtain rfl:=os hb
 exact hK25 m26' _ _ (Nat.lt_succ_self _) ⟨z47,e1,e2,e3,e32,e33,rfl,(qah h48),hC.sE [0,1,2],lN hl0⟩
 replace hb:=tf hq32 hb
 refine Wc.exit rfl ?_
 obtain rfl:=os hb
 obtain rfl:=(lX hl0).symm
 exact hK24 _ _ ⟨s,e1,e2,e3,y,hC.sE [0,1,2],hbK0⟩
 clear hb hC hl0
 rintro E50 w49 ⟨s,e1,e2,e3,y,hC,hb⟩
 refine hK21 _ _ ?_
 refine Wc.seq fun _ hK51=>?_
 refine Wc.seq fun _ hK52=>rg<|lp (.pointer (some ((⟨g4,0,none⟩:Addr).add 1))) (qaf (sz:=1) underlying32 rfl sizeOf22 (by decide) rfl e1)<|lv (.slice o d.length h) (qal (hC.bx (i:=0) rfl) isAgg22 rfl rfl)<|lp (iv (d.length:Int)) (qay (A:=o) (n:=d.length) (m:=h) underlying22 rfl)<|lp (iv 0) (qaa rfl)<|ln (hK52 _ _ ?_)
 obtain ⟨o53,hl1,hb⟩:=bd hb
 refine Wc.cut (fun E wv=> ∃(f:Int),E 1=pg g4∧E 2=.bool false∧I64 f∧Cx (fun _=>False) O0 w wv [.box g4 32 [.slice j c.length l,.slice o d.length h,iv g],.ro (.sl si) [.slice j c.length l] c,.ro (.sl si) [.slice o d.length h] d]∧((F.qdv n c d g).bind fun y106=>some y106:Option (Bool))=some r) (fun _ hK54=>?_) ?_
 refine Wc.block ?_
 refine Wc.loop (fun m E wv=> ∃(f:Int),E 1=pg g4∧E 2=.bool false∧E 3=iv (c.length:Int)∧E 46=.slice o d.length h∧E 47=iv (d.length:Int)∧E 48=iv f∧I64 f∧Cx (fun _=>False) O0 w wv [.box g4 32 [.slice j c.length l,.slice o d.length h,iv g],.ro (.sl si) [.slice j c.length l] c,.ro (.sl si) [.slice o d.length h] d]∧loopN m (F.qej n c d g) f=some o53) n ⟨0,e1,e2,e3,rfl,rfl,rfl,(show I64 0 from by unfold I64; omega),hC.sE [0,1,2],hl1⟩ ?_
 have hbK1:=hb
 clear hb hC hl1
 rintro m56 E58 w57 ⟨f,e1,e2,e3,e46,e47,e48,u,hC,hl1⟩ K55 hK55
 obtain ⟨m56',o59,rfl,hb,hl1⟩:=qax hl1
 unfold F.qej at hb
 refine Wc.seq fun _ hK60=>rg<|lp _ (qbj e48 e47)<|ln (hK60 _ _ ?_)
 refine Wc.seq fun _ hK61=>?_
 refine Wc.cond (t:=(decide (f<(d.length:Int)))) (rfl) (fun hq62=>?_) (fun hq62=>?_)
 replace hb:=tt hq62 hb
 refine Wc.skip (hK61 _ _ ?_)
 refine Wc.seq fun _ hK63=>?_
 refine Wc.block<|Wc.seq fun _ hK64=>rg<|lp _ (qaa e48) ?_
 obtain ⟨x65,h66,hb⟩:=bd hb
 obtain ⟨ad67,cs68,hA,hc69,hr70⟩:=hC.elr (i:=2) rfl (qad h66).2
 subst hA
 refine lp (.pointer (some (ad67.add (f.toNat*1)))) (qar (a:=f) underlying22 sizeOf3 e46 e48 (qad h66).1) ?_
 obtain ⟨rfl,hr70'⟩:=hr70
 refine lv (iv x65) (qaw isAgg3 rfl (hc69 0 _ rfl))<|lp (iv f) (qab rfl)<|lp (iv x65) (qab rfl)<|ln (hK64 _ _ ?_)
 refine Wc.seq fun _ hK71=>?_
 refine Wc.seq fun _ hK72=>rg<|lp (iv x65) (qaa rfl)<|lp (.bool (decide (x65<0))) (qbj (k:=.i64) (a:=x65) (b:=0) rfl rfl)<|lp (.bool (decide (x65<0))) (qaa rfl) ?_
 rcases bS (decide (x65<0)) with hq73 | hq73
 replace hb:=tt hq73 hb
 refine gs rfl rfl (decide (x65<0)) rfl hq73<|gs rfl rfl (decide (x65<0)) rfl hq73<|gs rfl rfl (decide (x65<0)) rfl hq73<|gs rfl rfl (decide (x65<0)) rfl hq73<|lp (.bool true) (qap (q:=(decide (x65<0))) rfl hq73 rfl)<|lp (.bool true) (qaa rfl)<|gs rfl rfl true rfl rfl<|gs rfl rfl true rfl rfl<|gs rfl rfl true rfl rfl<|lp (.bool true) (qap (q:=true) rfl rfl rfl)<|lp (.bool true) (qaa rfl)<|gs rfl rfl true rfl rfl<|gs rfl rfl true rfl rfl<|gs rfl rfl true rfl rfl<|gs rfl rfl true rfl rfl<|gs rfl rfl true rfl rfl<|gs rfl rfl true rfl rfl<|gs rfl rfl true rfl rfl<|lp (.bool true) (qap (q:=true) rfl rfl rfl)<|ln (hK72 _ _ ?_)
 refine Wc.cond_true (rfl) ?_
 refine Wc.seq fun _ hK74=>rg<|lp (.bool false) (qab rfl)<|ln (hK74 _ _ ?_)
 obtain rfl:=os hb
 obtain rfl:=(lX hl1).symm
 replace hb:=hbK1
 obtain rfl:=os hb
 refine Wc.ret (hKR _ _ ?_)
 refine ⟨_,res1 results11 (tV (.bool false) rfl),_,rfl,rfl,hC.sE []⟩
 replace hb:=tf hq73 hb
 refine gp rfl rfl (decide (x65<0)) rfl hq73 (iv x65) (qaa rfl)<|gp rfl rfl (decide (x65<0)) rfl hq73 (iv (c.length:Int)) (qaa e3) ?_
 obtain ⟨z75,h76,hb⟩:=bd hb
 refine gp rfl rfl (decide (x65<0)) rfl hq73 (iv z75) (qfx (a:=4) (b:=(c.length:Int)) rfl rfl h76)<|gp rfl rfl (decide (x65<0)) rfl hq73 (.bool (decide (z75≤x65))) (pu_geq (k:=.i64) (a:=x65) (b:=z75) rfl rfl)<|lp (.bool (decide (z75≤x65))) (qak (q:=(decide (x65<0))) rfl hq73 rfl)<|lp (.bool (decide (z75≤x65))) (qaa rfl) ?_
 rcases bS (decide (z75≤x65)) with hq77 | hq77
 replace hb:=tt hq77 hb
 refine gs rfl rfl (decide (z75≤x65)) rfl hq77<|gs rfl rfl (decide (z75≤x65)) rfl hq77<|gs rfl rfl (decide (z75≤x65)) rfl hq77<|lp (.bool true) (qap (q:=(decide (z75≤x65))) rfl hq77 rfl)<|lp (.bool true) (qaa rfl)<|gs rfl rfl true rfl rfl<|gs rfl rfl true rfl rfl<|gs rfl rfl true rfl rfl<|gs rfl rfl true rfl rfl<|gs rfl rfl true rfl rfl<|gs rfl rfl true rfl rfl<|gs rfl rfl true rfl rfl<|lp (.bool true) (qap (q:=true) rfl rfl rfl)<|ln (hK72 _ _ ?_)
 refine Wc.cond_true (rfl) ?_
 refine Wc.seq fun _ hK78=>rg<|lp (.bool false) (qab rfl)<|ln (hK78 _ _ ?_)
 obtain rfl:=os hb
 obtain rfl:=(lX hl1).symm
 replace hb:=hbK1
 obtain rfl:=os hb
 refine Wc.ret (hKR _ _ ?_)
 refine ⟨_,res1 results11 (tV (.bool false) rfl),_,rfl,rfl,hC.sE []⟩
 replace hb:=tf hq77 hb
 refine gp rfl rfl (decide (z75≤x65)) rfl hq77 (iv x65) (qaa rfl)<|gp rfl rfl (decide (z75≤x65)) rfl hq77 (iv f) (qaa rfl)<|gp rfl rfl (decide (z75≤x65)) rfl hq77 (.bool (decide (x65=f))) (qbl (k:=.i64) (a:=x65) (b:=f) rfl rfl)<|lp (.bool (decide (x65=f))) (qak (q:=(decide (z75≤x65))) rfl hq77 rfl)<|lp (.bool (decide (x65=f))) (qaa rfl) ?_
 rcases bS (decide (x65=f)) with hq79 | hq79
 replace hb:=tt hq79 hb
 refine gs rfl rfl (decide (x65=f)) rfl hq79<|gs rfl rfl (decide (x65=f)) rfl hq79<|gs rfl rfl (decide (x65=f)) rfl hq79<|gs rfl rfl (decide (x65=f)) rfl hq79<|gs rfl rfl (decide (x65=f)) rfl hq79<|gs rfl rfl (decide (x65=f)) rfl hq79<|gs rfl rfl (decide (x65=f)) rfl hq79<|lp (.bool true) (qap (q:=(decide (x65=f))) rfl hq79 rfl)<|ln (hK72 _ _ ?_)
 refine Wc.cond_true (rfl) ?_
 refine Wc.seq fun _ hK80=>rg<|lp (.bool false) (qab rfl)<|ln (hK80 _ _ ?_)
 obtain rfl:=os hb
 obtain rfl:=(lX hl1).symm
 replace hb:=hbK1
 obtain rfl:=os hb
 refine Wc.ret (hKR _ _ ?_)
 refine ⟨_,res1 results11 (tV (.bool false) rfl),_,rfl,rfl,hC.sE []⟩
 replace hb:=tf hq79 hb
 refine gp rfl rfl (decide (x65=f)) rfl hq79 (.pointer (some ((⟨g4,0,none⟩:Addr).add 1))) (qaf (sz:=1) underlying32 rfl sizeOf22 (by decide) rfl e1)<|gv rfl rfl (decide (x65=f)) rfl hq79 (.slice (some ad67) d.length h) (qal (hC.bx (i:=0) rfl) isAgg22 rfl rfl)<|gp rfl rfl (decide (x65=f)) rfl hq79 (iv x65) (qaa rfl) ?_
 obtain ⟨x81,h82,hb⟩:=bd hb
 obtain ⟨ad83,cs84,hA,hc85,hr86⟩:=hC.elr (i:=2) rfl (qad h82).2
 obtain rfl:=Option.some.inj hA
 refine gp rfl rfl (decide (x65=f)) rfl hq79 (.pointer (some (ad67.add (x65.toNat*1)))) (qar (a:=x65) underlying22 sizeOf3 rfl rfl (qad h82).1) ?_
 obtain ⟨rfl,hr86'⟩:=hr86
 refine gv rfl rfl (decide (x65=f)) rfl hq79 (iv x81) (qaw isAgg3 rfl (hc85 0 _ rfl))<|gp rfl rfl (decide (x65=f)) rfl hq79 (iv f) (qaa rfl)<|gp rfl rfl (decide (x65=f)) rfl hq79 (.bool (!(decide (x81=f)))) (pu_neq (k:=.i64) (a:=x81) (b:=f) rfl rfl)<|lp (.bool (!(decide (x81=f)))) (qak (q:=(decide (x65=f))) rfl hq79 rfl)<|ln (hK72 _ _ ?_)
 refine Wc.cond (t:=(!(decide (x81=f)))) (rfl) (fun hq87=>?_) (fun hq87=>?_)
 replace hb:=tt hq87 hb
 refine Wc.seq fun _ hK88=>rg<|lp (.bool false) (qab rfl)<|ln (hK88 _ _ ?_)
 obtain rfl:=os hb
 obtain rfl:=(lX hl1).symm
 replace hb:=hbK1
 obtain rfl:=os hb
 refine Wc.ret (hKR _ _ ?_)
 refine ⟨_,res1 results11 (tV (.bool false) rfl),_,rfl,rfl,hC.sE []⟩
 replace hb:=tf hq87 hb
 refine Wc.skip (hK71 _ _ ?_)
 refine Wc.fresh fun E89 hE=>?_
 have e1:=cg hE 1 e1
 have e2:=cg hE 2 e2
 have e3:=cg hE 3 e3
 have e6:E89 6=iv f:=cg hE 6 rfl
 have e7:E89 7=iv x65:=cg hE 7 rfl
 have e46:=cg hE 46 e46
 have e47:=cg hE 47 e47
 have e48:=cg hE 48 e48
 have e49:E89 49=.bool (decide (f<(d.length:Int))):=cg hE 49 rfl
 have e74:E89 74=.bool (!(decide (x81=f))):=cg hE 74 rfl
 clear hE
 refine Wc.seq fun _ hK90=>?_
 refine Wc.regionMix [] (frm [] ([]:List Fact) ([]:List Fact)) (fun _=>rfl) mixed (by decide+kernel) (by decide+kernel) fun w92 hw91=>?_
 replace hC:=hC.step (Fr.qcx hw91)
 have hM:=Fr.refl (fun k=>k∈blocks ([]:List Fact)) w92
 clear hw91
 have hS:=hC
 refine mixE.load hM (v:=.agg #[.slice j c.length l,.slice (some ad67) d.length h,iv g]) (fun _ hF=>qaq (hS.bx2 (i:=0) rfl [] (by decide) hF) isAgg32 sizeOf32 e1)<|mp (iv f) (qaa e6) ?_
 obtain ⟨y93,h94,hb⟩:=bd hb
 refine mixE.cl hM (⟨_,_,qam (vs:=[.agg #[.slice j c.length l,.slice (some ad67) d.length h,iv g],iv f]) call27 rfl rfl rfl,qhi n hC.lt (hC.rd (i:=1) rfl) (hC.rd (i:=2) rfl) x u h94⟩) ?_
 rintro _ w95 ⟨rfl,hK⟩
 replace hM:=hM.none hK.fr
 refine ⟨hM,?_⟩
 replace hC:=hC.merge hK
 clear hK
 refine mixE.load hM (v:=.agg #[.slice j c.length l,.slice (some ad67) d.length h,iv g]) (fun _ hF=>qaq (hS.bx2 (i:=0) rfl [] (by decide) hF) isAgg32 sizeOf32 e1)<|mp (iv x65) (qaa e7) ?_
 obtain ⟨y96,h97,hb⟩:=bd hb
 refine mixE.cl hM (⟨_,_,qam (vs:=[.agg #[.slice j c.length l,.slice (some ad67) d.length h,iv g],iv x65]) call27 rfl rfl rfl,qhi n hC.lt (hC.rd (i:=1) rfl) (hC.rd (i:=2) rfl) x (qbi hr70') h97⟩) ?_
 rintro _ w98 ⟨rfl,hK⟩
 replace hM:=hM.none hK.fr
 refine ⟨hM,?_⟩
 replace hC:=hC.merge hK
 clear hK
 refine mp (.bool (y93 == y96)) (pu_eqlb (p:=y93) (q:=y96) underlying4 rfl rfl)<|mixE.nil ?_
 clear hS hM
 refine hK90 _ _<|Wc.cond (t:=(y93 == y96)) (rfl) (fun hq99=>?_) (fun hq99=>?_)
 replace hb:=tt hq99 hb
 refine Wc.seq fun _ hK100=>rg<|lp (.bool false) (qab rfl)<|ln (hK100 _ _ ?_)
 obtain rfl:=os hb
 obtain rfl:=(lX hl1).symm
 replace hb:=hbK1
 obtain rfl:=os hb
 refine Wc.ret (hKR _ _ ?_)
 refine ⟨_,res1 results11 (tV (.bool false) rfl),_,rfl,rfl,hC.sE []⟩
 replace hb:=tf hq99 hb
 refine Wc.skip (hK63 _ _ ?_)
 refine rg ?_
 obtain ⟨z101,h102,hb⟩:=bd hb
 refine lp (iv z101) (qau (a:=f) (b:=1) e48 rfl h102)<|lp (iv z101) (qaa rfl)<|ln ?_
 obtain rfl:=os hb
 exact hK55 m56' _ _ (Nat.lt_succ_self _) ⟨z101,e1,e2,e3,e46,e47,rfl,(qah h102),hC.sE [0,1,2],lN hl1⟩
 replace hb:=tf hq62 hb
 refine Wc.exit rfl ?_
 obtain rfl:=os hb
 obtain rfl:=(lX hl1).symm
 exact hK54 _ _ ⟨f,e1,e2,u,hC.sE [0,1,2],hbK1⟩
 clear hb hC hl1
 rintro E104 w103 ⟨f,e1,e2,u,hC,hb⟩
 refine hK51 _ _<|Wc.seq fun _ hK105=>rg<|lv (.agg #[.slice j c.length l,.slice o d.length h,iv g]) (qaq (hC.bx (i:=0) rfl) isAgg32 sizeOf32 e1) ?_
 obtain ⟨y106,h107,hb⟩:=bd hb
 refine lex.cl (⟨_,_,qam (vs:=[.agg #[.slice j c.length l,.slice o d.length h,iv g]]) call28 rfl rfl rfl,diagram_spherical_ok n hC.lt (hC.rd (i:=1) rfl) (hC.rd (i:=2) rfl) x h107⟩) ?_
 rintro _ w108 ⟨rfl,hK⟩
 replace hC:=hC.merge hK
 clear hK
 refine lp (.bool y106) (qab rfl)<|ln (hK105 _ _ ?_)
 obtain rfl:=os hb
 refine Wc.ret (hKR _ _ ?_)
 refine ⟨_,res1 results11 (tV (.bool y106) rfl),_,rfl,rfl,hC.sE []⟩

theorem diagram_Strands_c1_ok (n:Nat) {w:World} {O0:List Nat} (hO: ∀k∈O0,k<w.heap.size) {o:Int} (t:I64 o) {m:Nat} {a:Option Addr} {j b:Nat} {g:List Int} (p:Rep O0 w (.sl si) [.slice a j b] g) {c:Option Addr} {l d:Nat} {h:List Int} (q:Rep O0 w (.sl si) [.slice c l d] h) {f:Int} (s:I64 f) (hio:Tk O0 w [.box m 32 [.slice a j b,.slice c l d,iv f]]) {r:Bool} (hb:F.qft n o g h f=some r):
    Calls prog 44 #[iv o,pg m] w fun e w'=> ∃v,e=.returned v∧v=.bool r∧Cx (fun k=>k∈blocks [.box m 32 [.slice a j b,.slice c l d,iv f]]) O0 w w' [.box m 32 [.slice a j b,.slice c l d,iv f]]:=by
 unfold F.qft at hb
 have hC:=Cx.startTk hO hio
 have hsub:=hio.2.2
 replace hC:=hC.argTk (by first | exact hsub | exact fun k hk=>hsub k (by simpa [blocks,Fact.blk] using hk)) p
 replace hC:=hC.argTk (by first | exact hsub | exact fun k hk=>hsub k (by simpa [blocks,Fact.blk] using hk)) q
 clear hO
 obtain ⟨rfl,u,x⟩:=p.qae
 obtain ⟨rfl,y,z⟩:=q.qae
 clear hio hsub
 obtain ⟨I,hI,hC⟩: ∃I:Nat→Prop,I=(fun k=>k∈blocks [.box m 32 [.slice a g.length b,.slice c h.length d,iv f]])∧Cx I O0 w w ([.ro (.sl si) [.slice c h.length d] h,.ro (.sl si) [.slice a g.length b] g,.box m 32 [.slice a g.length b,.slice c h.length d,iv f]]):=⟨_,rfl,hC⟩
 refine qao func44 rfl (by rw [ntmps44]; exact nb rfl) fun KR hKR=>?_
 refine Wc.seq fun _ hK4=>rg<|lp (.bool false) (qab rfl)<|ln (hK4 _ _ ?_)
 refine Wc.seq fun _ hK5=>rg<|lv (.agg #[.slice a g.length b,.slice c h.length d,iv f]) (qaq (hC.bx (i:=2) rfl) isAgg32 sizeOf32 rfl)<|lp (iv o) (qaa rfl) ?_
 obtain ⟨y6,h7,hb⟩:=bd hb
 refine lex.cl (⟨_,_,qam (vs:=[.agg #[.slice a g.length b,.slice c h.length d,iv f],iv o]) call27 rfl rfl rfl,qhi n hC.lt (hC.rd (i:=1) rfl) (hC.rd (i:=0) rfl) s t h7⟩) ?_
 rintro _ w8 ⟨rfl,hK⟩
 replace hC:=hC.merge hK
 clear hK
 refine lp (.bool y6) (qab rfl)<|ln (hK5 _ _ ?_)
 obtain rfl:=os hb
 subst hI
 refine Wc.ret (hKR _ _ ?_)
 refine ⟨_,res1 results44 (tV (.bool y6) rfl),_,rfl,rfl,hC.sE [2]⟩

theorem diagram_Opposite_ok (n:Nat) {w:World} {O0:List Nat} (hO: ∀k∈O0,k<w.heap.size) {a:Int} (b:I64 a) {r:Int} (hb:F.qhb n a=some r):
    Calls prog 46 #[iv a] w fun e w'=> ∃v,e=.returned v∧v=iv r∧I64 r∧Cx (fun _=>False) O0 w w' []:=by
 unfold F.qhb at hb
 have hC:=Cx.start hO
 clear hO
 refine qao func46 rfl (by rw [ntmps46]; exact nb rfl) fun KR hKR=>?_
 refine Wc.seq fun _ hK1=>rg<|lp (iv 0) (qab rfl)<|ln (hK1 _ _ ?_)
 refine Wc.seq fun _ hK2=>rg<|lp (iv a) (qaa rfl) ?_
 obtain ⟨y3,h4,hb⟩:=bd hb
 refine lex.cl (⟨_,_,qam (vs:=[iv a,iv 2]) call33 rfl rfl rfl,qhj n hC.lt b (show I64 2 from by unfold I64; omega) h4⟩) ?_
 rintro _ w6 ⟨rfl,hr5,hK⟩
 replace hC:=hC.merge hK
 clear hK
 refine lp (iv y3) (qab rfl)<|ln (hK2 _ _ ?_)
 obtain rfl:=os hb
 refine Wc.ret (hKR _ _ ?_)
 refine ⟨_,res1 results46 (tV (iv y3) rfl),_,rfl,rfl,hr5,hC.sE []⟩

theorem qhv (n:Nat) {w:World} {O0:List Nat} (hO: ∀k∈O0,k<w.heap.size) {p:Int} (A:I64 p) {l:Nat} {d:Option Addr} {m f:Nat} {j:List Int} (q:Rep O0 w (.sl si) [.slice d m f] j) {b:Option Addr} {o c:Nat} {g:List Int} (s:Rep O0 w (.sl si) [.slice b o c] g) {h:Int} (z:I64 h) (hio:Tk O0 w [.box l 32 [.slice d m f,.slice b o c,iv h]]) {r:Int} (hb:F.qep n p j g h=some r):
    Calls prog 45 #[iv p,pg l] w fun e w'=> ∃v,e=.returned v∧v=iv r∧I64 r∧Cx (fun k=>k∈blocks [.box l 32 [.slice d m f,.slice b o c,iv h]]) O0 w w' [.box l 32 [.slice d m f,.slice b o c,iv h]]:=by
 unfold F.qep at hb
 have hC:=Cx.startTk hO hio
 have hsub:=hio.2.2
 replace hC:=hC.argTk (by first | exact hsub | exact fun k hk=>hsub k (by simpa [blocks,Fact.blk] using hk)) q
 replace hC:=hC.argTk (by first | exact hsub | exact fun k hk=>hsub k (by simpa [blocks,Fact.blk] using hk)) s
 clear hO
 obtain ⟨rfl,t,u⟩:=q.qae
 obtain ⟨rfl,x,y⟩:=s.qae
 clear hio hsub
 obtain ⟨I,hI,hC⟩: ∃I:Nat→Prop,I=(fun k=>k∈blocks [.box l 32 [.slice d j.length f,.slice b g.length c,iv h]])∧Cx I O0 w w ([.ro (.sl si) [.slice b g.length c] g,.ro (.sl si) [.slice d j.length f] j,.box l 32 [.slice d j.length f,.slice b g.length c,iv h]]):=⟨_,rfl,hC⟩
 refine qao func45 rfl (by rw [ntmps45]; exact nb rfl) fun KR hKR=>?_
 refine Wc.seq fun _ hK4=>rg<|lp (iv 0) (qab rfl)<|ln (hK4 _ _ ?_)
 refine Wc.seq fun _ hK5=>rg<|lp (.pointer (some ((⟨l,0,none⟩:Addr).add 1))) (qaf (sz:=1) underlying32 rfl sizeOf22 (by decide) rfl rfl)<|lv (.slice b g.length c) (qal (hC.bx (i:=2) rfl) isAgg22 rfl rfl)<|lp (iv p) (qaa rfl) ?_
 obtain ⟨x6,h7,hb⟩:=bd hb
 obtain ⟨ad8,cs9,hA,hc10,hr11⟩:=hC.elr (i:=0) rfl (qad h7).2
 subst hA
 refine lp (.pointer (some (ad8.add (p.toNat*1)))) (qar (a:=p) underlying22 sizeOf3 rfl rfl (qad h7).1) ?_
 obtain ⟨rfl,hr11'⟩:=hr11
 refine lv (iv x6) (qaw isAgg3 rfl (hc10 0 _ rfl)) ?_
 obtain ⟨y12,h13,hb⟩:=bd hb
 refine lex.cl (⟨_,_,qam (vs:=[iv x6]) call46 rfl rfl rfl,diagram_Opposite_ok n hC.lt (qbi hr11') h13⟩) ?_
 rintro _ w15 ⟨rfl,hr14,hK⟩
 replace hC:=hC.merge hK
 clear hK
 refine lp (iv y12) (qab rfl)<|ln (hK5 _ _ ?_)
 obtain rfl:=os hb
 subst hI
 refine Wc.ret (hKR _ _ ?_)
 refine ⟨_,res1 results45 (tV (iv y12) rfl),_,rfl,rfl,hr14,hC.sE [2]⟩

theorem qhm (n:Nat) {w:World} {O0:List Nat} (hO: ∀k∈O0,k<w.heap.size) {o:Int} (J:I64 o) {l:Nat} {f:Option Addr} {z g:Nat} {c:List Int} (C:Rep O0 w (.sl si) [.slice f z g] c) {h:Option Addr} {A j:Nat} {d:List Int} (D:Rep O0 w (.sl si) [.slice h A j] d) {p:Int} (G:I64 p) (hio:Tk O0 w [.box l 32 [.slice f z g,.slice h A j,iv p]]) {r:(List Int)} (hb:F.qcl n o c d p=some r):
    Calls prog 47 #[iv o,.func (.func 45) #[] #[pg l]] w fun e w'=> ∃v,e=.returned v∧∃(A0:Option Addr) (m0 c0:Nat),v=.slice A0 m0 c0∧Cx (fun k=>k∈blocks [.box l 32 [.slice f z g,.slice h A j,iv p]]) O0 w w' [.own 3 si (.slice A0 m0 c0) r,.box l 32 [.slice f z g,.slice h A j,iv p]]:=by
 unfold F.qcl at hb
 have hC:=Cx.startTk hO hio
 have hsub:=hio.2.2
 replace hC:=hC.argTk (by first | exact hsub | exact fun k hk=>hsub k (by simpa [blocks,Fact.blk] using hk)) C
 replace hC:=hC.argTk (by first | exact hsub | exact fun k hk=>hsub k (by simpa [blocks,Fact.blk] using hk)) D
 clear hO
 obtain ⟨rfl,K,L⟩:=C.qae
 obtain ⟨rfl,M,N⟩:=D.qae
 clear hio hsub
 obtain ⟨I,hI,hC⟩: ∃I:Nat→Prop,I=(fun k=>k∈blocks [.box l 32 [.slice f c.length g,.slice h d.length j,iv p]])∧Cx I O0 w w ([.ro (.sl si) [.slice h d.length j] d,.ro (.sl si) [.slice f c.length g] c,.box l 32 [.slice f c.length g,.slice h d.length j,iv p]]):=⟨_,rfl,hC⟩
 refine qao func47 rfl (by rw [ntmps47]; exact nb rfl) fun KR hKR=>?_
 refine Wc.seq fun _ hK4=>rg<|lp (.slice none 0 0) (qab rfl)<|ln (hK4 _ _ ?_)
 refine Wc.seq fun _ hK5=>rg<|lp (iv o) (qaa rfl)<|lex.op (hC.lit (s:=si) (vs:=[iv o]) (xs:=[o]) underlying22 type3 rfl rfl (nb rfl) rfl rfl (by simp [Value.cells,Sh.n]) rfl (show Elems _ _ si ([iv o]++([])) ([o]:List Int) from Elems.cons (⟨rfl,I64.wr J⟩) (Elems.nil _ _ _))) ?_
 rintro _ w10 ⟨A6,c7,rfl,hl8,hc9,hC,-,-⟩
 refine lp (.slice A6 ((([o]:List Int)).length) c7) (qab rfl)<|ln (hK5 _ _ ?_)
 refine Wc.seq fun _ hK12=>?_
 refine Wc.seq fun _ hK13=>rg<|lp (.func (.func 45) #[] #[pg l]) (qaa rfl)<|lp (iv o) (qaa rfl) ?_
 replace hC:Cx I O0 w w10 ([.box l 32 [.slice f c.length g,.slice h d.length j,iv p]]++[.own 3 si (.slice A6 ((([o]:List Int)).length) c7) ([o]:List Int),.ro (.sl si) [.slice h d.length j] d,.ro (.sl si) [.slice f c.length g] c]):=hC.sE [3,0,1,2]
 obtain ⟨y14,h15,hb⟩:=bd hb
 refine lex.cl (⟨_,_,qco (vs:=[iv o,pg l]) (ca:=#[pg l]) call45 rfl rfl rfl,qhv n hC.lt J (hC.rd (i:=3) rfl) (hC.rd (i:=2) rfl) G hC.give h15⟩) ?_
 rintro _ w17 ⟨rfl,hr16,hK⟩
 replace hC:=hC.back hK
 clear hK
 refine lp (iv y14) (qab rfl)<|ln (hK13 _ _ ?_)
 obtain ⟨o18,hl0,f18,hf18,hb⟩:=bn hb
 refine Wc.cut (fun E wv=> ∃(u:List Int) (q:Int) (x:Option Addr) (B y:Nat),E 4=.slice none 0 0∧E 5=.slice x B y∧I64 q∧Cx I O0 w wv [.own 3 si (.slice x B y) u,.box l 32 [.slice f c.length g,.slice h d.length j,iv p],.ro (.sl si) [.slice f c.length g] c,.ro (.sl si) [.slice h d.length j] d]∧f18 (u,q)=some r) (fun _ hK19=>?_) ?_
 refine Wc.block ?_
 refine Wc.loop (fun m E wv=> ∃(u:List Int) (q:Int) (x:Option Addr) (B y:Nat),E 0=iv o∧E 1=.func (.func 45) #[] #[pg l]∧E 4=.slice none 0 0∧E 5=.slice x B y∧E 6=iv q∧I64 q∧Cx I O0 w wv [.box l 32 [.slice f c.length g,.slice h d.length j,iv p],.ro (.sl si) [.slice f c.length g] c,.ro (.sl si) [.slice h d.length j] d,.own 3 si (.slice x B y) u]∧loopN m (F.qbv n o c d p) (u,q)=some o18) n ⟨([o]:List Int),y14,A6,(([o]:List Int)).length,c7,rfl,rfl,rfl,rfl,rfl,hr16,hC.sE [0,3,2,1],hl0⟩ ?_
 have hbK0:=hb
 clear hb hC hl0
 rintro m21 E23 w22 ⟨u,q,x,B,y,e0,e1,e4,e5,e6,H,hC,hl0⟩ K20 hK20
 obtain ⟨m21',o24,rfl,hb,hl0⟩:=qax hl0
 unfold F.qbv at hb
 obtain ⟨rfl,P,Q⟩:=(hC.ow (i:=3) rfl).qae
 refine Wc.seq fun _ hK25=>?_
 refine Wc.seq fun _ hK26=>rg<|lp _ (qaa e6)<|lp _ (qaa e0)<|lp (.bool (!(decide (q=o)))) (pu_neq (k:=.i64) (a:=q) (b:=o) rfl rfl)<|ln (hK26 _ _ ?_)
 refine Wc.cond (t:=(!(decide (q=o)))) (rfl) (fun hq27=>?_) (fun hq27=>?_)
 replace hb:=tt hq27 hb
 refine Wc.skip (hK25 _ _ ?_)
 refine Wc.seq fun _ hK28=>?_
 refine Wc.block<|rg<|lp _ (qaa e5)<|lp _ (qaa e6)<|lex.op (hC.lit (s:=si) (vs:=[iv q]) (xs:=[q]) underlying22 type3 rfl rfl (nb rfl) rfl rfl (by simp [Value.cells,Sh.n]) rfl (show Elems _ _ si ([iv q]++([])) ([q]:List Int) from Elems.cons (⟨rfl,I64.wr H⟩) (Elems.nil _ _ _))) ?_
 rintro _ w33 ⟨A29,c30,rfl,hl31,hc32,hC,-,-⟩
 obtain ⟨u35,h36,hb⟩:=bd hb
 refine lex.op (hC.app (i:=4) (s:=si) (xs:=u) (ys:=([q]:List Int)) (m:=((([q]:List Int)).length)) rfl underlying22 underlying22 type3 rfl rfl rfl (hC.srco (i:=0) rfl) rfl rfl (by have:=qew h36; simp at this⊢ <;>omega) (by decide)) ?_
 rintro _ w41 ⟨A37,c38,rfl,hl39,hc40,hC,-,-⟩
 refine lp (.slice A37 ((u++([q]:List Int)).length) c38) (qab rfl)<|ln (hK28 _ _ ?_)
 refine rg<|lp _ (qaa e1)<|lp _ (qaa e6) ?_
 replace hC:Cx I O0 w w41 ([.box l 32 [.slice f c.length g,.slice h d.length j,iv p]]++[.own 3 si (.slice A29 ((([q]:List Int)).length) c30) ([q]:List Int),.ro (.sl si) [.slice f c.length g] c,.ro (.sl si) [.slice h d.length j] d,.own 3 si (.slice A37 ((u++([q]:List Int)).length) c38) (u++([q]:List Int))]):=hC.sE [1,0,2,3,4]
 obtain ⟨y42,h43,hb⟩:=bd hb
 refine lex.cl (⟨_,_,qco (vs:=[iv q,pg l]) (ca:=#[pg l]) call45 rfl rfl rfl,qhv n hC.lt H (hC.rd (i:=2) rfl) (hC.rd (i:=3) rfl) G hC.give h43⟩) ?_
 rintro _ w45 ⟨rfl,hr44,hK⟩
 replace hC:=hC.back hK
 clear hK
 refine lp (iv y42) (qab rfl)<|ln ?_
 obtain rfl:=os hb
 exact hK20 m21' _ _ (Nat.lt_succ_self _) ⟨(u++([q]:List Int)),y42,A37,(u++([q]:List Int)).length,c38,e0,e1,e4,rfl,rfl,hr44,hC.sE [0,2,3,4],lN hl0⟩
 replace hb:=tf hq27 hb
 refine Wc.exit rfl ?_
 obtain rfl:=os hb
 obtain rfl:=(lX hl0).symm
 exact hK19 _ _ ⟨u,q,x,u.length,y,e4,e5,H,hC.sE [3,0,1,2],hbK0⟩
 clear hb hC hl0
 rintro E47 w46 ⟨u,q,x,B,y,e4,e5,H,hC,hb⟩
 subst hf18
 obtain ⟨rfl,P,Q⟩:=(hC.ow (i:=0) rfl).qae
 refine hK12 _ _<|Wc.seq fun _ hK48=>rg<|lp _ (qaa e5)<|lp (.slice x u.length y) (qab rfl)<|ln (hK48 _ _ ?_)
 obtain rfl:=os hb
 subst hI
 refine Wc.ret (hKR _ _ ?_)
 refine ⟨_,res1 results47 (tV (.slice x u.length y) rfl),_,rfl,x,u.length,y,rfl,hC.sE [0,1]⟩
