import Derived.Test.YteajmbanlohncaaS
import Derived.Test.YteajmbanlohncaaG23
set_option linter.unusedVariables false
set_option linter.unusedSimpArgs false
namespace Go.Proofs.Yteajmbanlohncaa
open Ev Try
set_option maxRecDepth 100000
set_option maxHeartbeats 4000000
theorem diagram_Valid_ok (n:Nat) {w:World} {O0:List Nat} (hO: ∀k∈O0,k<w.heap.size) {j:Option Addr} {z l:Nat} {c:List Int} (B:Rep O0 w (.sl si) [.slice j z l] c) {o:Option Addr} {C h:Nat} {d:List Int} (D:Rep O0 w (.sl si) [.slice o C h] d) {g:Int} (x:I64 g) {r:Bool} (hb:F.diagram_Valid n c d g=some r):
    Calls prog 27 #[.agg #[.slice j z l,.slice o C h,iv g]] w fun e w'=> ∃v,e=.returned v∧v=.bool r∧Cx (fun _=>False) O0 w w' []:=by
 unfold F.diagram_Valid at hb
 have hC:=Cx.start hO
 replace hC:=hC.arg rfl B
 replace hC:=hC.arg rfl D
 clear hO
 obtain ⟨rfl,G,H⟩:=B.sl_len
 obtain ⟨rfl,J,K⟩:=D.sl_len
 refine calls_of_Wc func27 rfl (by rw [ntmps27]; exact nb rfl) fun KR hKR=>?_
 refine Wc.seq fun _ hK3=>rg<|lex.op (hC.box (cs:=[.slice j c.length l,.slice o d.length h,iv g]) rfl rfl) ?_
 rintro _ w5 ⟨g4,rfl,hC,hF,-⟩
 refine lp (.bool false) (pu_assign rfl)<|ln (hK3 _ _ ?_)
 refine Wc.seq fun _ hK7=>rg<|lp (.pointer (some ((⟨g4,0,none⟩:Addr).add 0))) (pu_field (sz:=1) underlying32 rfl sizeOf30 (by decide) rfl rfl)<|lv (.slice j c.length l) (ld_fld (hC.bx (i:=0) rfl) isAgg30 rfl rfl)<|lp (iv (c.length:Int)) (pu_len (A:=j) (n:=c.length) (m:=l) underlying30 rfl)<|lp (iv (c.length:Int)) (pu_assign rfl)<|ln (hK7 _ _ ?_)
 refine Wc.seq fun _ hK8=>?_
 refine Wc.seq fun _ hK9=>rg<|lp (iv (c.length:Int)) (pu_move rfl)<|lp (.bool (decide (64<(c.length:Int)))) (pu_gtr (k:=.i64) (a:=(c.length:Int)) (b:=64) rfl rfl)<|lp (.bool (decide (64<(c.length:Int)))) (pu_move rfl) ?_
 rcases bS (decide (64<(c.length:Int))) with hq10 | hq10
 replace hb:=tt hq10 hb
 refine gs rfl rfl (decide (64<(c.length:Int))) rfl hq10<|gs rfl rfl (decide (64<(c.length:Int))) rfl hq10<|gs rfl rfl (decide (64<(c.length:Int))) rfl hq10<|gs rfl rfl (decide (64<(c.length:Int))) rfl hq10<|gs rfl rfl (decide (64<(c.length:Int))) rfl hq10<|gs rfl rfl (decide (64<(c.length:Int))) rfl hq10<|lp (.bool true) (pu_pickT (q:=(decide (64<(c.length:Int)))) rfl hq10 rfl)<|lp (.bool true) (pu_move rfl)<|gs rfl rfl true rfl rfl<|gs rfl rfl true rfl rfl<|gs rfl rfl true rfl rfl<|lp (.bool true) (pu_pickT (q:=true) rfl rfl rfl)<|lp (.bool true) (pu_move rfl)<|gs rfl rfl true rfl rfl<|gs rfl rfl true rfl rfl<|gs rfl rfl true rfl rfl<|lp (.bool true) (pu_pickT (q:=true) rfl rfl rfl)<|ln (hK9 _ _ ?_)
 refine Wc.cond_true (rfl) ?_
 refine Wc.seq fun _ hK11=>rg<|lp (.bool false) (pu_assign rfl)<|ln (hK11 _ _ ?_)
 obtain rfl:=os hb
 refine Wc.ret (hKR _ _ ?_)
 refine ⟨_,res1 results27 (tV (.bool false) rfl),_,rfl,rfl,hC.sE []⟩
 replace hb:=tf hq10 hb
 refine gp rfl rfl (decide (64<(c.length:Int))) rfl hq10 (.pointer (some ((⟨g4,0,none⟩:Addr).add 1))) (pu_field (sz:=1) underlying32 rfl sizeOf30 (by decide) rfl rfl)<|gv rfl rfl (decide (64<(c.length:Int))) rfl hq10 (.slice o d.length h) (ld_fld (hC.bx (i:=0) rfl) isAgg30 rfl rfl)<|gp rfl rfl (decide (64<(c.length:Int))) rfl hq10 (iv (d.length:Int)) (pu_len (A:=o) (n:=d.length) (m:=h) underlying30 rfl)<|gp rfl rfl (decide (64<(c.length:Int))) rfl hq10 (iv (c.length:Int)) (pu_move rfl) ?_
 obtain ⟨z12,h13,hb⟩:=bd hb
 refine gp rfl rfl (decide (64<(c.length:Int))) rfl hq10 (iv z12) (pu_mulc (a:=4) (b:=(c.length:Int)) rfl rfl h13)<|gp rfl rfl (decide (64<(c.length:Int))) rfl hq10 (.bool (!(decide ((d.length:Int)=z12)))) (pu_neq (k:=.i64) (a:=(d.length:Int)) (b:=z12) rfl rfl)<|lp (.bool (!(decide ((d.length:Int)=z12)))) (pu_pickF (q:=(decide (64<(c.length:Int)))) rfl hq10 rfl)<|lp (.bool (!(decide ((d.length:Int)=z12)))) (pu_move rfl) ?_
 rcases bS (!(decide ((d.length:Int)=z12))) with hq14 | hq14
 replace hb:=tt hq14 hb
 refine gs rfl rfl (!(decide ((d.length:Int)=z12))) rfl hq14<|gs rfl rfl (!(decide ((d.length:Int)=z12))) rfl hq14<|gs rfl rfl (!(decide ((d.length:Int)=z12))) rfl hq14<|lp (.bool true) (pu_pickT (q:=(!(decide ((d.length:Int)=z12)))) rfl hq14 rfl)<|lp (.bool true) (pu_move rfl)<|gs rfl rfl true rfl rfl<|gs rfl rfl true rfl rfl<|gs rfl rfl true rfl rfl<|lp (.bool true) (pu_pickT (q:=true) rfl rfl rfl)<|ln (hK9 _ _ ?_)
 refine Wc.cond_true (rfl) ?_
 refine Wc.seq fun _ hK15=>rg<|lp (.bool false) (pu_assign rfl)<|ln (hK15 _ _ ?_)
 obtain rfl:=os hb
 refine Wc.ret (hKR _ _ ?_)
 refine ⟨_,res1 results27 (tV (.bool false) rfl),_,rfl,rfl,hC.sE []⟩
 replace hb:=tf hq14 hb
 refine gp rfl rfl (!(decide ((d.length:Int)=z12))) rfl hq14 (.pointer (some ((⟨g4,0,none⟩:Addr).add 2))) (pu_field (sz:=1) underlying32 rfl sizeOf3 (by decide) rfl rfl)<|gv rfl rfl (!(decide ((d.length:Int)=z12))) rfl hq14 (iv g) (ld_fld (hC.bx (i:=0) rfl) isAgg3 rfl rfl)<|gp rfl rfl (!(decide ((d.length:Int)=z12))) rfl hq14 (.bool (decide (g<0))) (pu_lss (k:=.i64) (a:=g) (b:=0) rfl rfl)<|lp (.bool (decide (g<0))) (pu_pickF (q:=(!(decide ((d.length:Int)=z12)))) rfl hq14 rfl)<|lp (.bool (decide (g<0))) (pu_move rfl) ?_
 rcases bS (decide (g<0)) with hq16 | hq16
 replace hb:=tt hq16 hb
 refine gs rfl rfl (decide (g<0)) rfl hq16<|gs rfl rfl (decide (g<0)) rfl hq16<|gs rfl rfl (decide (g<0)) rfl hq16<|lp (.bool true) (pu_pickT (q:=(decide (g<0))) rfl hq16 rfl)<|ln (hK9 _ _ ?_)
 refine Wc.cond_true (rfl) ?_
 refine Wc.seq fun _ hK17=>rg<|lp (.bool false) (pu_assign rfl)<|ln (hK17 _ _ ?_)
 obtain rfl:=os hb
 refine Wc.ret (hKR _ _ ?_)
 refine ⟨_,res1 results27 (tV (.bool false) rfl),_,rfl,rfl,hC.sE []⟩
 replace hb:=tf hq16 hb
 refine gp rfl rfl (decide (g<0)) rfl hq16 (.pointer (some ((⟨g4,0,none⟩:Addr).add 2))) (pu_field (sz:=1) underlying32 rfl sizeOf3 (by decide) rfl rfl)<|gv rfl rfl (decide (g<0)) rfl hq16 (iv g) (ld_fld (hC.bx (i:=0) rfl) isAgg3 rfl rfl)<|gp rfl rfl (decide (g<0)) rfl hq16 (.bool (decide (64<g))) (pu_gtr (k:=.i64) (a:=g) (b:=64) rfl rfl)<|lp (.bool (decide (64<g))) (pu_pickF (q:=(decide (g<0))) rfl hq16 rfl)<|ln (hK9 _ _ ?_)
 refine Wc.cond (t:=(decide (64<g))) (rfl) (fun hq18=>?_) (fun hq18=>?_)
 replace hb:=tt hq18 hb
 refine Wc.seq fun _ hK19=>rg<|lp (.bool false) (pu_assign rfl)<|ln (hK19 _ _ ?_)
 obtain rfl:=os hb
 refine Wc.ret (hKR _ _ ?_)
 refine ⟨_,res1 results27 (tV (.bool false) rfl),_,rfl,rfl,hC.sE []⟩
 replace hb:=tf hq18 hb
 refine Wc.skip (hK8 _ _ ?_)
 refine Wc.fresh fun E20 hE=>?_
 have e1:E20 1=pg g4:=cg hE 1 rfl
 have e2:E20 2=.bool false:=cg hE 2 rfl
 have e3:E20 3=iv (c.length:Int):=cg hE 3 rfl
 clear hE
 refine Wc.seq fun _ hK21=>?_
 refine Wc.seq fun _ hK22=>rg<|lp (.pointer (some ((⟨g4,0,none⟩:Addr).add 0))) (pu_field (sz:=1) underlying32 rfl sizeOf30 (by decide) rfl e1)<|lv (.slice j c.length l) (ld_fld (hC.bx (i:=0) rfl) isAgg30 rfl rfl)<|lp (iv (c.length:Int)) (pu_len (A:=j) (n:=c.length) (m:=l) underlying30 rfl)<|lp (iv 0) (pu_move rfl)<|ln (hK22 _ _ ?_)
 obtain ⟨o23,hl0,hb⟩:=bd hb
 refine Wc.cut (fun E wv=> ∃(s:Int),E 1=pg g4∧E 2=.bool false∧E 3=iv (c.length:Int)∧I64 s∧Cx (fun _=>False) O0 w wv [.box g4 32 [.slice j c.length l,.slice o d.length h,iv g],.ro (.sl si) [.slice j c.length l] c,.ro (.sl si) [.slice o d.length h] d]∧(((loopN n (F.diagram_Valid_b1 n c d g) 0).bind fun o53=>match o53 with | (.inl f)=>(F.diagram_spherical n c d g).bind fun y106=>some y106 | (.inr q)=>some q):Option (Bool))=some r) (fun _ hK24=>?_) ?_
 refine Wc.block ?_
 refine Wc.loop (fun m E wv=> ∃(s:Int),E 1=pg g4∧E 2=.bool false∧E 3=iv (c.length:Int)∧E 32=.slice j c.length l∧E 33=iv (c.length:Int)∧E 34=iv s∧I64 s∧Cx (fun _=>False) O0 w wv [.box g4 32 [.slice j c.length l,.slice o d.length h,iv g],.ro (.sl si) [.slice j c.length l] c,.ro (.sl si) [.slice o d.length h] d]∧loopN m (F.diagram_Valid_b0 n c) s=some o23) n ⟨0,e1,e2,e3,rfl,rfl,rfl,(show I64 0 from by unfold I64; omega),hC.sE [0,2,1],hl0⟩ ?_
 have hbK0:=hb
 clear hb hC hl0
 rintro m26 E28 w27 ⟨s,e1,e2,e3,e32,e33,e34,y,hC,hl0⟩ K25 hK25
 obtain ⟨m26',o29,rfl,hb,hl0⟩:=loopN_some hl0
 unfold F.diagram_Valid_b0 at hb
 refine Wc.seq fun _ hK30=>rg<|lp _ (pu_lss e34 e33)<|ln (hK30 _ _ ?_)
 refine Wc.seq fun _ hK31=>?_
 refine Wc.cond (t:=(decide (s<(c.length:Int)))) (rfl) (fun hq32=>?_) (fun hq32=>?_)
 replace hb:=tt hq32 hb
 refine Wc.skip (hK31 _ _ ?_)
 refine Wc.seq fun _ hK33=>?_
 refine Wc.block<|Wc.seq fun _ hK34=>rg ?_
 obtain ⟨x35,h36,hb⟩:=bd hb
 obtain ⟨ad37,cs38,hA,hc39,hr40⟩:=hC.elr (i:=1) rfl (get_some h36).2
 subst hA
 refine lp (.pointer (some (ad37.add (s.toNat*1)))) (pu_index (a:=s) underlying30 sizeOf3 e32 e34 (get_some h36).1) ?_
 obtain ⟨rfl,hr40'⟩:=hr40
 refine lv (iv x35) (ld_one isAgg3 rfl (hc39 0 _ rfl))<|lp (iv x35) (pu_assign rfl)<|ln (hK34 _ _ ?_)
 refine Wc.seq fun _ hK41=>rg<|lp (iv x35) (pu_move rfl)<|lp (.bool (!(decide (x35=1)))) (pu_neq (k:=.i64) (a:=x35) (b:=1) rfl rfl)<|lp (.bool (!(decide (x35=1)))) (pu_move rfl) ?_
 rcases bS (!(decide (x35=1))) with hq42 | hq42
 replace hb:=tt hq42 hb
 refine gp rfl rfl (!(decide (x35=1))) rfl hq42 (iv x35) (pu_move rfl)<|gp rfl rfl (!(decide (x35=1))) rfl hq42 (.bool (!(decide (x35=(-1))))) (pu_neq (k:=.i64) (a:=x35) (b:=(-1)) rfl rfl)<|lp (.bool (!(decide (x35=(-1))))) (pu_pickT (q:=(!(decide (x35=1)))) rfl hq42 rfl)<|ln (hK41 _ _ ?_)
 refine Wc.cond (t:=(!(decide (x35=(-1))))) (rfl) (fun hq43=>?_) (fun hq43=>?_)
 replace hb:=tt hq43 hb
 refine Wc.seq fun _ hK44=>rg<|lp (.bool false) (pu_assign rfl)<|ln (hK44 _ _ ?_)
 obtain rfl:=os hb
 obtain rfl:=(lX hl0).symm
 replace hb:=hbK0
 obtain rfl:=os hb
 refine Wc.ret (hKR _ _ ?_)
 refine ⟨_,res1 results27 (tV (.bool false) rfl),_,rfl,rfl,hC.sE []⟩
 replace hb:=tf hq43 hb
 refine Wc.skip (hK33 _ _ ?_)
 refine rg ?_
 obtain ⟨z45,h46,hb⟩:=bd hb
 refine lp (iv z45) (pu_addc (a:=s) (b:=1) e34 rfl h46)<|lp (iv z45) (pu_move rfl)<|ln ?_
 obtain rfl:=os hb
 exact hK25 m26' _ _ (Nat.lt_succ_self _) ⟨z45,e1,e2,e3,e32,e33,rfl,(chk_rng h46),hC.sE [0,1,2],lN hl0⟩
 replace hb:=tf hq42 hb
 refine gs rfl rfl (!(decide (x35=1))) rfl hq42<|gs rfl rfl (!(decide (x35=1))) rfl hq42<|lp (.bool false) (pu_pickF (q:=(!(decide (x35=1)))) rfl hq42 rfl)<|ln (hK41 _ _ ?_)
 refine Wc.cond_false (rfl) ?_
 refine Wc.skip (hK33 _ _ ?_)
 refine rg ?_
 obtain ⟨z47,h48,hb⟩:=bd hb
 refine lp (iv z47) (pu_addc (a:=s) (b:=1) e34 rfl h48)<|lp (iv z47) (pu_move rfl)<|ln ?_
 obtain rfl:=os hb
 exact hK25 m26' _ _ (Nat.lt_succ_self _) ⟨z47,e1,e2,e3,e32,e33,rfl,(chk_rng h48),hC.sE [0,1,2],lN hl0⟩
 replace hb:=tf hq32 hb
 refine Wc.exit rfl ?_
 obtain rfl:=os hb
 obtain rfl:=(lX hl0).symm
 exact hK24 _ _ ⟨s,e1,e2,e3,y,hC.sE [0,1,2],hbK0⟩
 clear hb hC hl0
 rintro E50 w49 ⟨s,e1,e2,e3,y,hC,hb⟩
 refine hK21 _ _ ?_
 refine Wc.seq fun _ hK51=>?_
 refine Wc.seq fun _ hK52=>rg<|lp (.pointer (some ((⟨g4,0,none⟩:Addr).add 1))) (pu_field (sz:=1) underlying32 rfl sizeOf30 (by decide) rfl e1)<|lv (.slice o d.length h) (ld_fld (hC.bx (i:=0) rfl) isAgg30 rfl rfl)<|lp (iv (d.length:Int)) (pu_len (A:=o) (n:=d.length) (m:=h) underlying30 rfl)<|lp (iv 0) (pu_move rfl)<|ln (hK52 _ _ ?_)
 obtain ⟨o53,hl1,hb⟩:=bd hb
 refine Wc.cut (fun E wv=> ∃(f:Int),E 1=pg g4∧E 2=.bool false∧I64 f∧Cx (fun _=>False) O0 w wv [.box g4 32 [.slice j c.length l,.slice o d.length h,iv g],.ro (.sl si) [.slice j c.length l] c,.ro (.sl si) [.slice o d.length h] d]∧((F.diagram_spherical n c d g).bind fun y106=>some y106:Option (Bool))=some r) (fun _ hK54=>?_) ?_
 refine Wc.block ?_
 refine Wc.loop (fun m E wv=> ∃(f:Int),E 1=pg g4∧E 2=.bool false∧E 3=iv (c.length:Int)∧E 46=.slice o d.length h∧E 47=iv (d.length:Int)∧E 48=iv f∧I64 f∧Cx (fun _=>False) O0 w wv [.box g4 32 [.slice j c.length l,.slice o d.length h,iv g],.ro (.sl si) [.slice j c.length l] c,.ro (.sl si) [.slice o d.length h] d]∧loopN m (F.diagram_Valid_b1 n c d g) f=some o53) n ⟨0,e1,e2,e3,rfl,rfl,rfl,(show I64 0 from by unfold I64; omega),hC.sE [0,1,2],hl1⟩ ?_
 have hbK1:=hb
 clear hb hC hl1
 rintro m56 E58 w57 ⟨f,e1,e2,e3,e46,e47,e48,u,hC,hl1⟩ K55 hK55
 obtain ⟨m56',o59,rfl,hb,hl1⟩:=loopN_some hl1
 unfold F.diagram_Valid_b1 at hb
 refine Wc.seq fun _ hK60=>rg<|lp _ (pu_lss e48 e47)<|ln (hK60 _ _ ?_)
 refine Wc.seq fun _ hK61=>?_
 refine Wc.cond (t:=(decide (f<(d.length:Int)))) (rfl) (fun hq62=>?_) (fun hq62=>?_)
 replace hb:=tt hq62 hb
 refine Wc.skip (hK61 _ _ ?_)
 refine Wc.seq fun _ hK63=>?_
 refine Wc.block<|Wc.seq fun _ hK64=>rg<|lp _ (pu_move e48) ?_
 obtain ⟨x65,h66,hb⟩:=bd hb
 obtain ⟨ad67,cs68,hA,hc69,hr70⟩:=hC.elr (i:=2) rfl (get_some h66).2
 subst hA
 refine lp (.pointer (some (ad67.add (f.toNat*1)))) (pu_index (a:=f) underlying30 sizeOf3 e46 e48 (get_some h66).1) ?_
 obtain ⟨rfl,hr70'⟩:=hr70
 refine lv (iv x65) (ld_one isAgg3 rfl (hc69 0 _ rfl))<|lp (iv f) (pu_assign rfl)<|lp (iv x65) (pu_assign rfl)<|ln (hK64 _ _ ?_)
 refine Wc.seq fun _ hK71=>?_
 refine Wc.seq fun _ hK72=>rg<|lp (iv x65) (pu_move rfl)<|lp (.bool (decide (x65<0))) (pu_lss (k:=.i64) (a:=x65) (b:=0) rfl rfl)<|lp (.bool (decide (x65<0))) (pu_move rfl) ?_
 rcases bS (decide (x65<0)) with hq73 | hq73
 replace hb:=tt hq73 hb
 refine gs rfl rfl (decide (x65<0)) rfl hq73<|gs rfl rfl (decide (x65<0)) rfl hq73<|gs rfl rfl (decide (x65<0)) rfl hq73<|gs rfl rfl (decide (x65<0)) rfl hq73<|lp (.bool true) (pu_pickT (q:=(decide (x65<0))) rfl hq73 rfl)<|lp (.bool true) (pu_move rfl)<|gs rfl rfl true rfl rfl<|gs rfl rfl true rfl rfl<|gs rfl rfl true rfl rfl<|lp (.bool true) (pu_pickT (q:=true) rfl rfl rfl)<|lp (.bool true) (pu_move rfl)<|gs rfl rfl true rfl rfl<|gs rfl rfl true rfl rfl<|gs rfl rfl true rfl rfl<|gs rfl rfl true rfl rfl<|gs rfl rfl true rfl rfl<|gs rfl rfl true rfl rfl<|gs rfl rfl true rfl rfl<|lp (.bool true) (pu_pickT (q:=true) rfl rfl rfl)<|ln (hK72 _ _ ?_)
 refine Wc.cond_true (rfl) ?_
 refine Wc.seq fun _ hK74=>rg<|lp (.bool false) (pu_assign rfl)<|ln (hK74 _ _ ?_)
 obtain rfl:=os hb
 obtain rfl:=(lX hl1).symm
 replace hb:=hbK1
 obtain rfl:=os hb
 refine Wc.ret (hKR _ _ ?_)
 refine ⟨_,res1 results27 (tV (.bool false) rfl),_,rfl,rfl,hC.sE []⟩
 replace hb:=tf hq73 hb
 refine gp rfl rfl (decide (x65<0)) rfl hq73 (iv x65) (pu_move rfl)<|gp rfl rfl (decide (x65<0)) rfl hq73 (iv (c.length:Int)) (pu_move e3) ?_
 obtain ⟨z75,h76,hb⟩:=bd hb
 refine gp rfl rfl (decide (x65<0)) rfl hq73 (iv z75) (pu_mulc (a:=4) (b:=(c.length:Int)) rfl rfl h76)<|gp rfl rfl (decide (x65<0)) rfl hq73 (.bool (decide (z75≤x65))) (pu_geq (k:=.i64) (a:=x65) (b:=z75) rfl rfl)<|lp (.bool (decide (z75≤x65))) (pu_pickF (q:=(decide (x65<0))) rfl hq73 rfl)<|lp (.bool (decide (z75≤x65))) (pu_move rfl) ?_
 rcases bS (decide (z75≤x65)) with hq77 | hq77
 replace hb:=tt hq77 hb
 refine gs rfl rfl (decide (z75≤x65)) rfl hq77<|gs rfl rfl (decide (z75≤x65)) rfl hq77<|gs rfl rfl (decide (z75≤x65)) rfl hq77<|lp (.bool true) (pu_pickT (q:=(decide (z75≤x65))) rfl hq77 rfl)<|lp (.bool true) (pu_move rfl)<|gs rfl rfl true rfl rfl<|gs rfl rfl true rfl rfl<|gs rfl rfl true rfl rfl<|gs rfl rfl true rfl rfl<|gs rfl rfl true rfl rfl<|gs rfl rfl true rfl rfl<|gs rfl rfl true rfl rfl<|lp (.bool true) (pu_pickT (q:=true) rfl rfl rfl)<|ln (hK72 _ _ ?_)
 refine Wc.cond_true (rfl) ?_
 refine Wc.seq fun _ hK78=>rg<|lp (.bool false) (pu_assign rfl)<|ln (hK78 _ _ ?_)
 obtain rfl:=os hb
 obtain rfl:=(lX hl1).symm
 replace hb:=hbK1
 obtain rfl:=os hb
 refine Wc.ret (hKR _ _ ?_)
 refine ⟨_,res1 results27 (tV (.bool false) rfl),_,rfl,rfl,hC.sE []⟩
 replace hb:=tf hq77 hb
 refine gp rfl rfl (decide (z75≤x65)) rfl hq77 (iv x65) (pu_move rfl)<|gp rfl rfl (decide (z75≤x65)) rfl hq77 (iv f) (pu_move rfl)<|gp rfl rfl (decide (z75≤x65)) rfl hq77 (.bool (decide (x65=f))) (pu_eql (k:=.i64) (a:=x65) (b:=f) rfl rfl)<|lp (.bool (decide (x65=f))) (pu_pickF (q:=(decide (z75≤x65))) rfl hq77 rfl)<|lp (.bool (decide (x65=f))) (pu_move rfl) ?_
 rcases bS (decide (x65=f)) with hq79 | hq79
 replace hb:=tt hq79 hb
 refine gs rfl rfl (decide (x65=f)) rfl hq79<|gs rfl rfl (decide (x65=f)) rfl hq79<|gs rfl rfl (decide (x65=f)) rfl hq79<|gs rfl rfl (decide (x65=f)) rfl hq79<|gs rfl rfl (decide (x65=f)) rfl hq79<|gs rfl rfl (decide (x65=f)) rfl hq79<|gs rfl rfl (decide (x65=f)) rfl hq79<|lp (.bool true) (pu_pickT (q:=(decide (x65=f))) rfl hq79 rfl)<|ln (hK72 _ _ ?_)
 refine Wc.cond_true (rfl) ?_
 refine Wc.seq fun _ hK80=>rg<|lp (.bool false) (pu_assign rfl)<|ln (hK80 _ _ ?_)
 obtain rfl:=os hb
 obtain rfl:=(lX hl1).symm
 replace hb:=hbK1
 obtain rfl:=os hb
 refine Wc.ret (hKR _ _ ?_)
 refine ⟨_,res1 results27 (tV (.bool false) rfl),_,rfl,rfl,hC.sE []⟩
 replace hb:=tf hq79 hb
 refine gp rfl rfl (decide (x65=f)) rfl hq79 (.pointer (some ((⟨g4,0,none⟩:Addr).add 1))) (pu_field (sz:=1) underlying32 rfl sizeOf30 (by decide) rfl e1)<|gv rfl rfl (decide (x65=f)) rfl hq79 (.slice (some ad67) d.length h) (ld_fld (hC.bx (i:=0) rfl) isAgg30 rfl rfl)<|gp rfl rfl (decide (x65=f)) rfl hq79 (iv x65) (pu_move rfl) ?_
 obtain ⟨x81,h82,hb⟩:=bd hb
 obtain ⟨ad83,cs84,hA,hc85,hr86⟩:=hC.elr (i:=2) rfl (get_some h82).2
 obtain rfl:=Option.some.inj hA
 refine gp rfl rfl (decide (x65=f)) rfl hq79 (.pointer (some (ad67.add (x65.toNat*1)))) (pu_index (a:=x65) underlying30 sizeOf3 rfl rfl (get_some h82).1) ?_
 obtain ⟨rfl,hr86'⟩:=hr86
 refine gv rfl rfl (decide (x65=f)) rfl hq79 (iv x81) (ld_one isAgg3 rfl (hc85 0 _ rfl))<|gp rfl rfl (decide (x65=f)) rfl hq79 (iv f) (pu_move rfl)<|gp rfl rfl (decide (x65=f)) rfl hq79 (.bool (!(decide (x81=f)))) (pu_neq (k:=.i64) (a:=x81) (b:=f) rfl rfl)<|lp (.bool (!(decide (x81=f)))) (pu_pickF (q:=(decide (x65=f))) rfl hq79 rfl)<|ln (hK72 _ _ ?_)
 refine Wc.cond (t:=(!(decide (x81=f)))) (rfl) (fun hq87=>?_) (fun hq87=>?_)
 replace hb:=tt hq87 hb
 refine Wc.seq fun _ hK88=>rg<|lp (.bool false) (pu_assign rfl)<|ln (hK88 _ _ ?_)
 obtain rfl:=os hb
 obtain rfl:=(lX hl1).symm
 replace hb:=hbK1
 obtain rfl:=os hb
 refine Wc.ret (hKR _ _ ?_)
 refine ⟨_,res1 results27 (tV (.bool false) rfl),_,rfl,rfl,hC.sE []⟩
 replace hb:=tf hq87 hb
 refine Wc.skip (hK71 _ _ ?_)
 refine Wc.fresh fun E89 hE=>?_
 have e1:=cg hE 1 e1
 have e2:=cg hE 2 e2
 have e3:=cg hE 3 e3
 have e6:E89 6=iv f:=cg hE 6 rfl
 have e7:E89 7=iv x65:=cg hE 7 rfl
 have e46:=cg hE 46 e46
 have e47:=cg hE 47 e47
 have e48:=cg hE 48 e48
 have e49:E89 49=.bool (decide (f<(d.length:Int))):=cg hE 49 rfl
 have e74:E89 74=.bool (!(decide (x81=f))):=cg hE 74 rfl
 clear hE
 refine Wc.seq fun _ hK90=>?_
 refine Wc.regionMix [] (frm [] ([]:List Fact) ([]:List Fact)) (fun _=>rfl) mixed (by decide+kernel) (by decide+kernel) fun w92 hw91=>?_
 replace hC:=hC.step (Fr.of_drew hw91)
 have hM:=Fr.refl (fun k=>k∈blocks ([]:List Fact)) w92
 clear hw91
 have hS:=hC
 refine mixE.load hM (v:=.agg #[.slice j c.length l,.slice (some ad67) d.length h,iv g]) (fun _ hF=>ld_blk (hS.bx2 (i:=0) rfl [] (by decide) hF) isAgg32 sizeOf32 e1)<|mp (iv f) (pu_move e6) ?_
 obtain ⟨y93,h94,hb⟩:=bd hb
 refine mixE.cl hM (⟨_,_,op_call (vs:=[.agg #[.slice j c.length l,.slice (some ad67) d.length h,iv g],iv f]) call65 rfl rfl rfl,diagram_outgoing_ok n hC.lt (hC.rd (i:=1) rfl) (hC.rd (i:=2) rfl) x u h94⟩) ?_
 rintro _ w95 ⟨rfl,hK⟩
 replace hM:=hM.none hK.fr
 refine ⟨hM,?_⟩
 replace hC:=hC.merge hK
 clear hK
 refine mixE.load hM (v:=.agg #[.slice j c.length l,.slice (some ad67) d.length h,iv g]) (fun _ hF=>ld_blk (hS.bx2 (i:=0) rfl [] (by decide) hF) isAgg32 sizeOf32 e1)<|mp (iv x65) (pu_move e7) ?_
 obtain ⟨y96,h97,hb⟩:=bd hb
 refine mixE.cl hM (⟨_,_,op_call (vs:=[.agg #[.slice j c.length l,.slice (some ad67) d.length h,iv g],iv x65]) call65 rfl rfl rfl,diagram_outgoing_ok n hC.lt (hC.rd (i:=1) rfl) (hC.rd (i:=2) rfl) x (wrap_I64 hr70') h97⟩) ?_
 rintro _ w98 ⟨rfl,hK⟩
 replace hM:=hM.none hK.fr
 refine ⟨hM,?_⟩
 replace hC:=hC.merge hK
 clear hK
 refine mp (.bool (y93 == y96)) (pu_eqlb (p:=y93) (q:=y96) underlying4 rfl rfl)<|mixE.nil ?_
 clear hS hM
 refine hK90 _ _<|Wc.cond (t:=(y93 == y96)) (rfl) (fun hq99=>?_) (fun hq99=>?_)
 replace hb:=tt hq99 hb
 refine Wc.seq fun _ hK100=>rg<|lp (.bool false) (pu_assign rfl)<|ln (hK100 _ _ ?_)
 obtain rfl:=os hb
 obtain rfl:=(lX hl1).symm
 replace hb:=hbK1
 obtain rfl:=os hb
 refine Wc.ret (hKR _ _ ?_)
 refine ⟨_,res1 results27 (tV (.bool false) rfl),_,rfl,rfl,hC.sE []⟩
 replace hb:=tf hq99 hb
 refine Wc.skip (hK63 _ _ ?_)
 refine rg ?_
 obtain ⟨z101,h102,hb⟩:=bd hb
 refine lp (iv z101) (pu_addc (a:=f) (b:=1) e48 rfl h102)<|lp (iv z101) (pu_move rfl)<|ln ?_
 obtain rfl:=os hb
 exact hK55 m56' _ _ (Nat.lt_succ_self _) ⟨z101,e1,e2,e3,e46,e47,rfl,(chk_rng h102),hC.sE [0,1,2],lN hl1⟩
 replace hb:=tf hq62 hb
 refine Wc.exit rfl ?_
 obtain rfl:=os hb
 obtain rfl:=(lX hl1).symm
 exact hK54 _ _ ⟨f,e1,e2,u,hC.sE [0,1,2],hbK1⟩
 clear hb hC hl1
 rintro E104 w103 ⟨f,e1,e2,u,hC,hb⟩
 refine hK51 _ _<|Wc.seq fun _ hK105=>rg<|lv (.agg #[.slice j c.length l,.slice o d.length h,iv g]) (ld_blk (hC.bx (i:=0) rfl) isAgg32 sizeOf32 e1) ?_
 obtain ⟨y106,h107,hb⟩:=bd hb
 refine lex.cl (⟨_,_,op_call (vs:=[.agg #[.slice j c.length l,.slice o d.length h,iv g]]) call66 rfl rfl rfl,diagram_spherical_ok n hC.lt (hC.rd (i:=1) rfl) (hC.rd (i:=2) rfl) x h107⟩) ?_
 rintro _ w108 ⟨rfl,hK⟩
 replace hC:=hC.merge hK
 clear hK
 refine lp (.bool y106) (pu_assign rfl)<|ln (hK105 _ _ ?_)
 obtain rfl:=os hb
 refine Wc.ret (hKR _ _ ?_)
 refine ⟨_,res1 results27 (tV (.bool y106) rfl),_,rfl,rfl,hC.sE []⟩
end Go.Proofs.Yteajmbanlohncaa
