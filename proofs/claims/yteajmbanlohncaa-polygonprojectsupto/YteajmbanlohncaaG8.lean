import Derived.Test.YteajmbanlohncaaS
import Derived.Test.YteajmbanlohncaaG7
set_option linter.unusedVariables false
set_option linter.unusedSimpArgs false
namespace Go.Proofs.Yteajmbanlohncaa
open Ev Try
set_option maxRecDepth 100000
set_option maxHeartbeats 4000000
theorem ref46_turn_ok (n:Nat) {w:World} {O0:List Nat} (hO: ∀k∈O0,k<w.heap.size) {c:Int} (p:I64 c) {d:Int} (q:I64 d) {l:Int} (s:I64 l) {f:Int} (t:I64 f) {g:Int} (u:I64 g) {m:Int} (x:I64 m) {h:Int} (y:I64 h) {j:Int} (z:I64 j) {o:Int} (A:I64 o) {r:Int} (hb:F.ref46_turn n c d l f g m h j o=some r):
    Calls prog 49 #[.agg #[iv c,iv d,iv l],.agg #[iv f,iv g,iv m],.agg #[iv h,iv j,iv o]] w fun e w'=> ∃v,e=.returned v∧v=iv r∧I64 r∧Cx (fun _=>False) O0 w w' []:=by
 unfold F.ref46_turn at hb
 have hC:=Cx.start hO
 clear hO
 refine calls_of_Wc func49 rfl (by rw [ntmps49]; exact nb rfl) fun KR hKR=>?_
 refine Wc.seq fun _ hK1=>rg<|lex.op (hC.box (cs:=[iv c,iv d,iv l]) rfl rfl) ?_
 rintro _ w3 ⟨g2,rfl,hC,hF,-⟩
 refine lex.op (hC.box (cs:=[iv f,iv g,iv m]) rfl rfl) ?_
 rintro _ w6 ⟨g5,rfl,hC,hF,-⟩
 refine lex.op (hC.box (cs:=[iv h,iv j,iv o]) rfl rfl) ?_
 rintro _ w9 ⟨g8,rfl,hC,hF,-⟩
 refine lp (iv 0) (pu_assign rfl)<|ln (hK1 _ _ ?_)
 refine Wc.seq fun _ hK11=>rg<|lp (.pointer (some ((⟨g5,0,none⟩:Addr).add 0))) (pu_field (sz:=1) underlying23 rfl sizeOf3 (by decide) rfl rfl)<|lv (iv f) (ld_fld (hC.bx (i:=1) rfl) isAgg3 rfl rfl)<|lp (.pointer (some ((⟨g2,0,none⟩:Addr).add 0))) (pu_field (sz:=1) underlying23 rfl sizeOf3 (by decide) rfl rfl)<|lv (iv c) (ld_fld (hC.bx (i:=2) rfl) isAgg3 rfl rfl) ?_
 obtain ⟨z12,h13,hb⟩:=bd hb
 refine lp (iv z12) (pu_subc (a:=f) (b:=c) rfl rfl h13)<|lp (.pointer (some ((⟨g8,0,none⟩:Addr).add 1))) (pu_field (sz:=1) underlying23 rfl sizeOf3 (by decide) rfl rfl)<|lv (iv j) (ld_fld (hC.bx (i:=0) rfl) isAgg3 rfl rfl)<|lp (.pointer (some ((⟨g2,0,none⟩:Addr).add 1))) (pu_field (sz:=1) underlying23 rfl sizeOf3 (by decide) rfl rfl)<|lv (iv d) (ld_fld (hC.bx (i:=2) rfl) isAgg3 rfl rfl) ?_
 obtain ⟨z14,h15,hb⟩:=bd hb
 refine lp (iv z14) (pu_subc (a:=j) (b:=d) rfl rfl h15) ?_
 obtain ⟨z16,h17,hb⟩:=bd hb
 refine lp (iv z16) (pu_mulc (a:=z12) (b:=z14) rfl rfl h17)<|lp (.pointer (some ((⟨g5,0,none⟩:Addr).add 1))) (pu_field (sz:=1) underlying23 rfl sizeOf3 (by decide) rfl rfl)<|lv (iv g) (ld_fld (hC.bx (i:=1) rfl) isAgg3 rfl rfl)<|lp (.pointer (some ((⟨g2,0,none⟩:Addr).add 1))) (pu_field (sz:=1) underlying23 rfl sizeOf3 (by decide) rfl rfl)<|lv (iv d) (ld_fld (hC.bx (i:=2) rfl) isAgg3 rfl rfl) ?_
 obtain ⟨z18,h19,hb⟩:=bd hb
 refine lp (iv z18) (pu_subc (a:=g) (b:=d) rfl rfl h19)<|lp (.pointer (some ((⟨g8,0,none⟩:Addr).add 0))) (pu_field (sz:=1) underlying23 rfl sizeOf3 (by decide) rfl rfl)<|lv (iv h) (ld_fld (hC.bx (i:=0) rfl) isAgg3 rfl rfl)<|lp (.pointer (some ((⟨g2,0,none⟩:Addr).add 0))) (pu_field (sz:=1) underlying23 rfl sizeOf3 (by decide) rfl rfl)<|lv (iv c) (ld_fld (hC.bx (i:=2) rfl) isAgg3 rfl rfl) ?_
 obtain ⟨z20,h21,hb⟩:=bd hb
 refine lp (iv z20) (pu_subc (a:=h) (b:=c) rfl rfl h21) ?_
 obtain ⟨z22,h23,hb⟩:=bd hb
 refine lp (iv z22) (pu_mulc (a:=z18) (b:=z20) rfl rfl h23) ?_
 obtain ⟨z24,h25,hb⟩:=bd hb
 refine lp (iv z24) (pu_subc (a:=z16) (b:=z22) rfl rfl h25)<|lp (iv z24) (pu_assign rfl)<|ln (hK11 _ _ ?_)
 obtain rfl:=os hb
 refine Wc.ret (hKR _ _ ?_)
 refine ⟨_,res1 results49 (tV (iv z24) rfl),_,rfl,rfl,(chk_rng h25),hC.sE []⟩

theorem ref46_on_ok (n:Nat) {w:World} {O0:List Nat} (hO: ∀k∈O0,k<w.heap.size) {f:Int} (p:I64 f) {j:Int} (s:I64 j) {l:Int} (t:I64 l) {c:Int} (u:I64 c) {g:Int} (x:I64 g) {m:Int} (y:I64 m) {d:Int} (z:I64 d) {h:Int} (A:I64 h) {o:Int} (B:I64 o) {r:Bool} (hb:F.ref46_on n f j l c g m d h o=some r):
    Calls prog 48 #[.agg #[iv f,iv j,iv l],.agg #[iv c,iv g,iv m],.agg #[iv d,iv h,iv o]] w fun e w'=> ∃v,e=.returned v∧v=.bool r∧Cx (fun _=>False) O0 w w' []:=by
 unfold F.ref46_on at hb
 have hC:=Cx.start hO
 clear hO
 refine calls_of_Wc func48 rfl (by rw [ntmps48]; exact nb rfl) fun KR hKR=>?_
 refine Wc.seq fun _ hK1=>rg<|lex.op (hC.box (cs:=[iv f,iv j,iv l]) rfl rfl) ?_
 rintro _ w3 ⟨g2,rfl,hC,hF,-⟩
 refine lex.op (hC.box (cs:=[iv c,iv g,iv m]) rfl rfl) ?_
 rintro _ w6 ⟨g5,rfl,hC,hF,-⟩
 refine lex.op (hC.box (cs:=[iv d,iv h,iv o]) rfl rfl) ?_
 rintro _ w9 ⟨g8,rfl,hC,hF,-⟩
 refine lp (.bool false) (pu_assign rfl)<|ln (hK1 _ _ ?_)
 refine Wc.seq fun _ hK11=>rg<|lv (.agg #[iv c,iv g,iv m]) (ld_blk (hC.bx (i:=1) rfl) isAgg23 sizeOf23 rfl)<|lv (.agg #[iv d,iv h,iv o]) (ld_blk (hC.bx (i:=0) rfl) isAgg23 sizeOf23 rfl)<|lv (.agg #[iv f,iv j,iv l]) (ld_blk (hC.bx (i:=2) rfl) isAgg23 sizeOf23 rfl) ?_
 obtain ⟨y12,h13,hb⟩:=bd hb
 refine lex.cl (⟨_,_,op_call (vs:=[.agg #[iv c,iv g,iv m],.agg #[iv d,iv h,iv o],.agg #[iv f,iv j,iv l]]) call49 rfl rfl rfl,ref46_turn_ok n hC.lt u x y z A B p s t h13⟩) ?_
 rintro _ w15 ⟨rfl,hr14,hK⟩
 replace hC:=hC.merge hK
 clear hK
 refine lp (.bool (decide (y12=0))) (pu_eql (k:=.i64) (a:=y12) (b:=0) rfl rfl)<|lp (.bool (decide (y12=0))) (pu_move rfl) ?_
 rcases bS (decide (y12=0)) with hq16 | hq16
 replace hb:=tt hq16 hb
 refine gp rfl rfl (decide (y12=0)) rfl hq16 (.pointer (some ((⟨g2,0,none⟩:Addr).add 0))) (pu_field (sz:=1) underlying23 rfl sizeOf3 (by decide) rfl rfl)<|gv rfl rfl (decide (y12=0)) rfl hq16 (iv f) (ld_fld (hC.bx (i:=2) rfl) isAgg3 rfl rfl)<|gp rfl rfl (decide (y12=0)) rfl hq16 (.pointer (some ((⟨g5,0,none⟩:Addr).add 0))) (pu_field (sz:=1) underlying23 rfl sizeOf3 (by decide) rfl rfl)<|gv rfl rfl (decide (y12=0)) rfl hq16 (iv c) (ld_fld (hC.bx (i:=1) rfl) isAgg3 rfl rfl)<|gp rfl rfl (decide (y12=0)) rfl hq16 (.pointer (some ((⟨g8,0,none⟩:Addr).add 0))) (pu_field (sz:=1) underlying23 rfl sizeOf3 (by decide) rfl rfl)<|gv rfl rfl (decide (y12=0)) rfl hq16 (iv d) (ld_fld (hC.bx (i:=0) rfl) isAgg3 rfl rfl)<|gp rfl rfl (decide (y12=0)) rfl hq16 (iv (min c d)) (pu_min (a:=c) (b:=d) rfl rfl)<|gp rfl rfl (decide (y12=0)) rfl hq16 (.bool (decide ((min c d)≤f))) (pu_geq (k:=.i64) (a:=f) (b:=(min c d)) rfl rfl)<|lp (.bool (decide ((min c d)≤f))) (pu_pickT (q:=(decide (y12=0))) rfl hq16 rfl)<|lp (.bool (decide ((min c d)≤f))) (pu_move rfl) ?_
 rcases bS (decide ((min c d)≤f)) with hq17 | hq17
 replace hb:=tt hq17 hb
 refine gp rfl rfl (decide ((min c d)≤f)) rfl hq17 (.pointer (some ((⟨g2,0,none⟩:Addr).add 0))) (pu_field (sz:=1) underlying23 rfl sizeOf3 (by decide) rfl rfl)<|gv rfl rfl (decide ((min c d)≤f)) rfl hq17 (iv f) (ld_fld (hC.bx (i:=2) rfl) isAgg3 rfl rfl)<|gp rfl rfl (decide ((min c d)≤f)) rfl hq17 (.pointer (some ((⟨g5,0,none⟩:Addr).add 0))) (pu_field (sz:=1) underlying23 rfl sizeOf3 (by decide) rfl rfl)<|gv rfl rfl (decide ((min c d)≤f)) rfl hq17 (iv c) (ld_fld (hC.bx (i:=1) rfl) isAgg3 rfl rfl)<|gp rfl rfl (decide ((min c d)≤f)) rfl hq17 (.pointer (some ((⟨g8,0,none⟩:Addr).add 0))) (pu_field (sz:=1) underlying23 rfl sizeOf3 (by decide) rfl rfl)<|gv rfl rfl (decide ((min c d)≤f)) rfl hq17 (iv d) (ld_fld (hC.bx (i:=0) rfl) isAgg3 rfl rfl)<|gp rfl rfl (decide ((min c d)≤f)) rfl hq17 (iv (max c d)) (pu_max (a:=c) (b:=d) rfl rfl)<|gp rfl rfl (decide ((min c d)≤f)) rfl hq17 (.bool (decide (f≤(max c d)))) (pu_leq (k:=.i64) (a:=f) (b:=(max c d)) rfl rfl)<|lp (.bool (decide (f≤(max c d)))) (pu_pickT (q:=(decide ((min c d)≤f))) rfl hq17 rfl)<|lp (.bool (decide (f≤(max c d)))) (pu_move rfl) ?_
 rcases bS (decide (f≤(max c d))) with hq18 | hq18
 replace hb:=tt hq18 hb
 refine gp rfl rfl (decide (f≤(max c d))) rfl hq18 (.pointer (some ((⟨g2,0,none⟩:Addr).add 1))) (pu_field (sz:=1) underlying23 rfl sizeOf3 (by decide) rfl rfl)<|gv rfl rfl (decide (f≤(max c d))) rfl hq18 (iv j) (ld_fld (hC.bx (i:=2) rfl) isAgg3 rfl rfl)<|gp rfl rfl (decide (f≤(max c d))) rfl hq18 (.pointer (some ((⟨g5,0,none⟩:Addr).add 1))) (pu_field (sz:=1) underlying23 rfl sizeOf3 (by decide) rfl rfl)<|gv rfl rfl (decide (f≤(max c d))) rfl hq18 (iv g) (ld_fld (hC.bx (i:=1) rfl) isAgg3 rfl rfl)<|gp rfl rfl (decide (f≤(max c d))) rfl hq18 (.pointer (some ((⟨g8,0,none⟩:Addr).add 1))) (pu_field (sz:=1) underlying23 rfl sizeOf3 (by decide) rfl rfl)<|gv rfl rfl (decide (f≤(max c d))) rfl hq18 (iv h) (ld_fld (hC.bx (i:=0) rfl) isAgg3 rfl rfl)<|gp rfl rfl (decide (f≤(max c d))) rfl hq18 (iv (min g h)) (pu_min (a:=g) (b:=h) rfl rfl)<|gp rfl rfl (decide (f≤(max c d))) rfl hq18 (.bool (decide ((min g h)≤j))) (pu_geq (k:=.i64) (a:=j) (b:=(min g h)) rfl rfl)<|lp (.bool (decide ((min g h)≤j))) (pu_pickT (q:=(decide (f≤(max c d)))) rfl hq18 rfl)<|lp (.bool (decide ((min g h)≤j))) (pu_move rfl) ?_
 rcases bS (decide ((min g h)≤j)) with hq19 | hq19
 replace hb:=tt hq19 hb
 refine gp rfl rfl (decide ((min g h)≤j)) rfl hq19 (.pointer (some ((⟨g2,0,none⟩:Addr).add 1))) (pu_field (sz:=1) underlying23 rfl sizeOf3 (by decide) rfl rfl)<|gv rfl rfl (decide ((min g h)≤j)) rfl hq19 (iv j) (ld_fld (hC.bx (i:=2) rfl) isAgg3 rfl rfl)<|gp rfl rfl (decide ((min g h)≤j)) rfl hq19 (.pointer (some ((⟨g5,0,none⟩:Addr).add 1))) (pu_field (sz:=1) underlying23 rfl sizeOf3 (by decide) rfl rfl)<|gv rfl rfl (decide ((min g h)≤j)) rfl hq19 (iv g) (ld_fld (hC.bx (i:=1) rfl) isAgg3 rfl rfl)<|gp rfl rfl (decide ((min g h)≤j)) rfl hq19 (.pointer (some ((⟨g8,0,none⟩:Addr).add 1))) (pu_field (sz:=1) underlying23 rfl sizeOf3 (by decide) rfl rfl)<|gv rfl rfl (decide ((min g h)≤j)) rfl hq19 (iv h) (ld_fld (hC.bx (i:=0) rfl) isAgg3 rfl rfl)<|gp rfl rfl (decide ((min g h)≤j)) rfl hq19 (iv (max g h)) (pu_max (a:=g) (b:=h) rfl rfl)<|gp rfl rfl (decide ((min g h)≤j)) rfl hq19 (.bool (decide (j≤(max g h)))) (pu_leq (k:=.i64) (a:=j) (b:=(max g h)) rfl rfl)<|lp (.bool (decide (j≤(max g h)))) (pu_pickT (q:=(decide ((min g h)≤j))) rfl hq19 rfl)<|lp (.bool (decide (j≤(max g h)))) (pu_assign rfl)<|ln (hK11 _ _ ?_)
 obtain rfl:=os hb
 refine Wc.ret (hKR _ _ ?_)
 refine ⟨_,res1 results48 (tV (.bool (decide (j≤(max g h)))) rfl),_,rfl,rfl,hC.sE []⟩
 replace hb:=tf hq19 hb
 refine gs rfl rfl (decide ((min g h)≤j)) rfl hq19<|gs rfl rfl (decide ((min g h)≤j)) rfl hq19<|gs rfl rfl (decide ((min g h)≤j)) rfl hq19<|gs rfl rfl (decide ((min g h)≤j)) rfl hq19<|gs rfl rfl (decide ((min g h)≤j)) rfl hq19<|gs rfl rfl (decide ((min g h)≤j)) rfl hq19<|gs rfl rfl (decide ((min g h)≤j)) rfl hq19<|gs rfl rfl (decide ((min g h)≤j)) rfl hq19<|lp (.bool false) (pu_pickF (q:=(decide ((min g h)≤j))) rfl hq19 rfl)<|lp (.bool false) (pu_assign rfl)<|ln (hK11 _ _ ?_)
 obtain rfl:=os hb
 refine Wc.ret (hKR _ _ ?_)
 refine ⟨_,res1 results48 (tV (.bool false) rfl),_,rfl,rfl,hC.sE []⟩
 replace hb:=tf hq18 hb
 refine gs rfl rfl (decide (f≤(max c d))) rfl hq18<|gs rfl rfl (decide (f≤(max c d))) rfl hq18<|gs rfl rfl (decide (f≤(max c d))) rfl hq18<|gs rfl rfl (decide (f≤(max c d))) rfl hq18<|gs rfl rfl (decide (f≤(max c d))) rfl hq18<|gs rfl rfl (decide (f≤(max c d))) rfl hq18<|gs rfl rfl (decide (f≤(max c d))) rfl hq18<|gs rfl rfl (decide (f≤(max c d))) rfl hq18<|lp (.bool false) (pu_pickF (q:=(decide (f≤(max c d)))) rfl hq18 rfl)<|lp (.bool false) (pu_move rfl)<|gs rfl rfl false rfl rfl<|gs rfl rfl false rfl rfl<|gs rfl rfl false rfl rfl<|gs rfl rfl false rfl rfl<|gs rfl rfl false rfl rfl<|gs rfl rfl false rfl rfl<|gs rfl rfl false rfl rfl<|gs rfl rfl false rfl rfl<|lp (.bool false) (pu_pickF (q:=false) rfl rfl rfl)<|lp (.bool false) (pu_assign rfl)<|ln (hK11 _ _ ?_)
 obtain rfl:=os hb
 refine Wc.ret (hKR _ _ ?_)
 refine ⟨_,res1 results48 (tV (.bool false) rfl),_,rfl,rfl,hC.sE []⟩
 replace hb:=tf hq17 hb
 refine gs rfl rfl (decide ((min c d)≤f)) rfl hq17<|gs rfl rfl (decide ((min c d)≤f)) rfl hq17<|gs rfl rfl (decide ((min c d)≤f)) rfl hq17<|gs rfl rfl (decide ((min c d)≤f)) rfl hq17<|gs rfl rfl (decide ((min c d)≤f)) rfl hq17<|gs rfl rfl (decide ((min c d)≤f)) rfl hq17<|gs rfl rfl (decide ((min c d)≤f)) rfl hq17<|gs rfl rfl (decide ((min c d)≤f)) rfl hq17<|lp (.bool false) (pu_pickF (q:=(decide ((min c d)≤f))) rfl hq17 rfl)<|lp (.bool false) (pu_move rfl)<|gs rfl rfl false rfl rfl<|gs rfl rfl false rfl rfl<|gs rfl rfl false rfl rfl<|gs rfl rfl false rfl rfl<|gs rfl rfl false rfl rfl<|gs rfl rfl false rfl rfl<|gs rfl rfl false rfl rfl<|gs rfl rfl false rfl rfl<|lp (.bool false) (pu_pickF (q:=false) rfl rfl rfl)<|lp (.bool false) (pu_move rfl)<|gs rfl rfl false rfl rfl<|gs rfl rfl false rfl rfl<|gs rfl rfl false rfl rfl<|gs rfl rfl false rfl rfl<|gs rfl rfl false rfl rfl<|gs rfl rfl false rfl rfl<|gs rfl rfl false rfl rfl<|gs rfl rfl false rfl rfl<|lp (.bool false) (pu_pickF (q:=false) rfl rfl rfl)<|lp (.bool false) (pu_assign rfl)<|ln (hK11 _ _ ?_)
 obtain rfl:=os hb
 refine Wc.ret (hKR _ _ ?_)
 refine ⟨_,res1 results48 (tV (.bool false) rfl),_,rfl,rfl,hC.sE []⟩
 replace hb:=tf hq16 hb
 refine gs rfl rfl (decide (y12=0)) rfl hq16<|gs rfl rfl (decide (y12=0)) rfl hq16<|gs rfl rfl (decide (y12=0)) rfl hq16<|gs rfl rfl (decide (y12=0)) rfl hq16<|gs rfl rfl (decide (y12=0)) rfl hq16<|gs rfl rfl (decide (y12=0)) rfl hq16<|gs rfl rfl (decide (y12=0)) rfl hq16<|gs rfl rfl (decide (y12=0)) rfl hq16<|lp (.bool false) (pu_pickF (q:=(decide (y12=0))) rfl hq16 rfl)<|lp (.bool false) (pu_move rfl)<|gs rfl rfl false rfl rfl<|gs rfl rfl false rfl rfl<|gs rfl rfl false rfl rfl<|gs rfl rfl false rfl rfl<|gs rfl rfl false rfl rfl<|gs rfl rfl false rfl rfl<|gs rfl rfl false rfl rfl<|gs rfl rfl false rfl rfl<|lp (.bool false) (pu_pickF (q:=false) rfl rfl rfl)<|lp (.bool false) (pu_move rfl)<|gs rfl rfl false rfl rfl<|gs rfl rfl false rfl rfl<|gs rfl rfl false rfl rfl<|gs rfl rfl false rfl rfl<|gs rfl rfl false rfl rfl<|gs rfl rfl false rfl rfl<|gs rfl rfl false rfl rfl<|gs rfl rfl false rfl rfl<|lp (.bool false) (pu_pickF (q:=false) rfl rfl rfl)<|lp (.bool false) (pu_move rfl)<|gs rfl rfl false rfl rfl<|gs rfl rfl false rfl rfl<|gs rfl rfl false rfl rfl<|gs rfl rfl false rfl rfl<|gs rfl rfl false rfl rfl<|gs rfl rfl false rfl rfl<|gs rfl rfl false rfl rfl<|gs rfl rfl false rfl rfl<|lp (.bool false) (pu_pickF (q:=false) rfl rfl rfl)<|lp (.bool false) (pu_assign rfl)<|ln (hK11 _ _ ?_)
 obtain rfl:=os hb
 refine Wc.ret (hKR _ _ ?_)
 refine ⟨_,res1 results48 (tV (.bool false) rfl),_,rfl,rfl,hC.sE []⟩

theorem ref46_opposite_ok (n:Nat) {w:World} {O0:List Nat} (hO: ∀k∈O0,k<w.heap.size) {c:Int} (f:I64 c) {d:Int} (g:I64 d) {r:Bool} (hb:F.ref46_opposite n c d=some r):
    Calls prog 50 #[iv c,iv d] w fun e w'=> ∃v,e=.returned v∧v=.bool r∧Cx (fun _=>False) O0 w w' []:=by
 unfold F.ref46_opposite at hb
 have hC:=Cx.start hO
 clear hO
 refine calls_of_Wc func50 rfl (by rw [ntmps50]; exact nb rfl) fun KR hKR=>?_
 refine Wc.seq fun _ hK1=>rg<|lp (.bool false) (pu_assign rfl)<|ln (hK1 _ _ ?_)
 refine Wc.seq fun _ hK2=>rg<|lp (iv c) (pu_move rfl)<|lp (.bool (decide (c<0))) (pu_lss (k:=.i64) (a:=c) (b:=0) rfl rfl)<|lp (.bool (decide (c<0))) (pu_move rfl) ?_
 rcases bS (decide (c<0)) with hq3 | hq3
 replace hb:=tt hq3 hb
 refine gp rfl rfl (decide (c<0)) rfl hq3 (iv d) (pu_move rfl)<|gp rfl rfl (decide (c<0)) rfl hq3 (.bool (decide (0<d))) (pu_gtr (k:=.i64) (a:=d) (b:=0) rfl rfl)<|lp (.bool (decide (0<d))) (pu_pickT (q:=(decide (c<0))) rfl hq3 rfl)<|lp (.bool (decide (0<d))) (pu_move rfl) ?_
 rcases bS (decide (0<d)) with hq4 | hq4
 replace hb:=tt hq4 hb
 refine gs rfl rfl (decide (0<d)) rfl hq4<|gs rfl rfl (decide (0<d)) rfl hq4<|gs rfl rfl (decide (0<d)) rfl hq4 ?_
 refine lex.gskip (want_n rfl rfl rfl) ?_
 refine lex.gskip (want_n rfl rfl rfl) ?_
 refine gs rfl rfl (decide (0<d)) rfl hq4<|lp (.bool true) (pu_pickT (q:=(decide (0<d))) rfl hq4 rfl)<|lp (.bool true) (pu_assign rfl)<|ln (hK2 _ _ ?_)
 obtain rfl:=os hb
 refine Wc.ret (hKR _ _ ?_)
 refine ⟨_,res1 results50 (tV (.bool true) rfl),_,rfl,rfl,hC.sE []⟩
 replace hb:=tf hq4 hb
 refine gp rfl rfl (decide (0<d)) rfl hq4 (iv c) (pu_move rfl)<|gp rfl rfl (decide (0<d)) rfl hq4 (.bool (decide (0<c))) (pu_gtr (k:=.i64) (a:=c) (b:=0) rfl rfl)<|gp rfl rfl (decide (0<d)) rfl hq4 (.bool (decide (0<c))) (pu_move rfl) ?_
 rcases bS (decide (0<c)) with hq5 | hq5
 replace hb:=tt hq5 hb
 refine gp rfl rfl (decide (0<c)) rfl hq5 (iv d) (pu_move rfl)<|gp rfl rfl (decide (0<c)) rfl hq5 (.bool (decide (d<0))) (pu_lss (k:=.i64) (a:=d) (b:=0) rfl rfl)<|gp rfl rfl (decide (0<d)) rfl hq4 (.bool (decide (d<0))) (pu_pickT (q:=(decide (0<c))) rfl hq5 rfl)<|lp (.bool (decide (d<0))) (pu_pickF (q:=(decide (0<d))) rfl hq4 rfl)<|lp (.bool (decide (d<0))) (pu_assign rfl)<|ln (hK2 _ _ ?_)
 obtain rfl:=os hb
 refine Wc.ret (hKR _ _ ?_)
 refine ⟨_,res1 results50 (tV (.bool (decide (d<0))) rfl),_,rfl,rfl,hC.sE []⟩
 replace hb:=tf hq5 hb
 refine gs rfl rfl (decide (0<c)) rfl hq5<|gs rfl rfl (decide (0<c)) rfl hq5<|gp rfl rfl (decide (0<d)) rfl hq4 (.bool false) (pu_pickF (q:=(decide (0<c))) rfl hq5 rfl)<|lp (.bool false) (pu_pickF (q:=(decide (0<d))) rfl hq4 rfl)<|lp (.bool false) (pu_assign rfl)<|ln (hK2 _ _ ?_)
 obtain rfl:=os hb
 refine Wc.ret (hKR _ _ ?_)
 refine ⟨_,res1 results50 (tV (.bool false) rfl),_,rfl,rfl,hC.sE []⟩
 replace hb:=tf hq3 hb
 refine gs rfl rfl (decide (c<0)) rfl hq3<|gs rfl rfl (decide (c<0)) rfl hq3<|lp (.bool false) (pu_pickF (q:=(decide (c<0))) rfl hq3 rfl)<|lp (.bool false) (pu_move rfl)<|gp rfl rfl false rfl rfl (iv c) (pu_move rfl)<|gp rfl rfl false rfl rfl (.bool (decide (0<c))) (pu_gtr (k:=.i64) (a:=c) (b:=0) rfl rfl)<|gp rfl rfl false rfl rfl (.bool (decide (0<c))) (pu_move rfl) ?_
 rcases bS (decide (0<c)) with hq6 | hq6
 replace hb:=tt hq6 hb
 refine gp rfl rfl (decide (0<c)) rfl hq6 (iv d) (pu_move rfl)<|gp rfl rfl (decide (0<c)) rfl hq6 (.bool (decide (d<0))) (pu_lss (k:=.i64) (a:=d) (b:=0) rfl rfl)<|gp rfl rfl false rfl rfl (.bool (decide (d<0))) (pu_pickT (q:=(decide (0<c))) rfl hq6 rfl)<|lp (.bool (decide (d<0))) (pu_pickF (q:=false) rfl rfl rfl)<|lp (.bool (decide (d<0))) (pu_assign rfl)<|ln (hK2 _ _ ?_)
 obtain rfl:=os hb
 refine Wc.ret (hKR _ _ ?_)
 refine ⟨_,res1 results50 (tV (.bool (decide (d<0))) rfl),_,rfl,rfl,hC.sE []⟩
 replace hb:=tf hq6 hb
 refine gs rfl rfl (decide (0<c)) rfl hq6<|gs rfl rfl (decide (0<c)) rfl hq6<|gp rfl rfl false rfl rfl (.bool false) (pu_pickF (q:=(decide (0<c))) rfl hq6 rfl)<|lp (.bool false) (pu_pickF (q:=false) rfl rfl rfl)<|lp (.bool false) (pu_assign rfl)<|ln (hK2 _ _ ?_)
 obtain rfl:=os hb
 refine Wc.ret (hKR _ _ ?_)
 refine ⟨_,res1 results50 (tV (.bool false) rfl),_,rfl,rfl,hC.sE []⟩

theorem ref46_Cross_ok (n:Nat) {w:World} {O0:List Nat} (hO: ∀k∈O0,k<w.heap.size) {h:Int} (A:I64 h) {j:Int} (B:I64 j) {c:Int} (C:I64 c) {l:Int} (D:I64 l) {m:Int} (G:I64 m) {f:Int} (H:I64 f) {o:Int} (J:I64 o) {s:Int} (K:I64 s) {d:Int} (L:I64 d) {u:Int} (M:I64 u) {x:Int} (N:I64 x) {g:Int} (P:I64 g) {r:Int×Bool} (hb:F.ref46_Cross n h j c l m f o s d u x g=some r):
    Calls prog 13 #[.agg #[iv h,iv j,iv c],.agg #[iv l,iv m,iv f],.agg #[iv o,iv s,iv d],.agg #[iv u,iv x,iv g]] w fun e w'=> ∃v,e=.returned v∧v=.tuple #[iv r.1,.bool r.2]∧I64 r.1∧Cx (fun _=>False) O0 w w' []:=by
 unfold F.ref46_Cross at hb
 have hC:=Cx.start hO
 clear hO
 refine calls_of_Wc func13 rfl (by rw [ntmps13]; exact nb rfl) fun KR hKR=>?_
 refine Wc.seq fun _ hK1=>rg<|lex.op (hC.box (cs:=[iv h,iv j,iv c]) rfl rfl) ?_
 rintro _ w3 ⟨g2,rfl,hC,hF,-⟩
 refine lex.op (hC.box (cs:=[iv l,iv m,iv f]) rfl rfl) ?_
 rintro _ w6 ⟨g5,rfl,hC,hF,-⟩
 refine lex.op (hC.box (cs:=[iv o,iv s,iv d]) rfl rfl) ?_
 rintro _ w9 ⟨g8,rfl,hC,hF,-⟩
 refine lex.op (hC.box (cs:=[iv u,iv x,iv g]) rfl rfl) ?_
 rintro _ w12 ⟨g11,rfl,hC,hF,-⟩
 refine lp (iv 0) (pu_assign rfl)<|lp (.bool false) (pu_assign rfl)<|ln (hK1 _ _ ?_)
 refine Wc.seq fun _ hK14=>?_
 refine Wc.seq fun _ hK15=>rg<|lv (.agg #[iv h,iv j,iv c]) (ld_blk (hC.bx (i:=3) rfl) isAgg23 sizeOf23 rfl) ?_
 obtain ⟨y16,h17,hb⟩:=bd hb
 refine lex.cl (⟨_,_,op_call (vs:=[.agg #[iv h,iv j,iv c]]) call47 rfl rfl rfl,ref46_fits_ok n hC.lt A B C h17⟩) ?_
 rintro _ w18 ⟨rfl,hK⟩
 replace hC:=hC.merge hK
 clear hK
 refine lp (.bool (!y16)) (pu_not (q:=y16) rfl)<|lp (.bool (!y16)) (pu_move rfl) ?_
 rcases bS (!y16) with hq19 | hq19
 replace hb:=tt hq19 hb
 refine gs rfl rfl (!y16) rfl hq19<|gs rfl rfl (!y16) rfl hq19<|gs rfl rfl (!y16) rfl hq19<|lp (.bool true) (pu_pickT (q:=(!y16)) rfl hq19 rfl)<|lp (.bool true) (pu_move rfl)<|gs rfl rfl true rfl rfl<|gs rfl rfl true rfl rfl<|gs rfl rfl true rfl rfl<|lp (.bool true) (pu_pickT (q:=true) rfl rfl rfl)<|lp (.bool true) (pu_move rfl)<|gs rfl rfl true rfl rfl<|gs rfl rfl true rfl rfl<|gs rfl rfl true rfl rfl<|lp (.bool true) (pu_pickT (q:=true) rfl rfl rfl)<|ln (hK15 _ _ ?_)
 refine Wc.fresh fun E20 hE=>?_
 have e4:E20 4=pg g2:=cg hE 4 rfl
 have e5:E20 5=pg g5:=cg hE 5 rfl
 have e6:E20 6=pg g8:=cg hE 6 rfl
 have e7:E20 7=pg g11:=cg hE 7 rfl
 have e8:E20 8=iv 0:=cg hE 8 rfl
 have e9:E20 9=.bool false:=cg hE 9 rfl
 have e33:E20 33=.bool true:=cg hE 33 rfl
 clear hE
 refine Wc.cond_true (e33) ?_
 refine Wc.seq fun _ hK21=>rg<|lp (iv 2) (pu_assign rfl)<|lp (.bool false) (pu_assign rfl)<|ln (hK21 _ _ ?_)
 obtain rfl:=os hb
 refine Wc.ret (hKR _ _ ?_)
 refine ⟨_,res2 results13 (tV (iv 2) rfl) (tV (.bool false) rfl),_,rfl,rfl,(show I64 2 from by unfold I64; omega),hC.sE []⟩
 replace hb:=tf hq19 hb
 refine gv rfl rfl (!y16) rfl hq19 (.agg #[iv l,iv m,iv f]) (ld_blk (hC.bx (i:=2) rfl) isAgg23 sizeOf23 rfl) ?_
 obtain ⟨y22,h23,hb⟩:=bd hb
 refine lex.gcl (want_t rfl rfl (show _=Value.bool (!y16) from rfl) hq19) (⟨_,_,op_call (vs:=[.agg #[iv l,iv m,iv f]]) call47 rfl rfl rfl,ref46_fits_ok n hC.lt D G H h23⟩) ?_
 rintro _ w24 ⟨rfl,hK⟩
 replace hC:=hC.merge hK
 clear hK
 refine gp rfl rfl (!y16) rfl hq19 (.bool (!y22)) (pu_not (q:=y22) rfl)<|lp (.bool (!y22)) (pu_pickF (q:=(!y16)) rfl hq19 rfl)<|lp (.bool (!y22)) (pu_move rfl) ?_
 rcases bS (!y22) with hq25 | hq25
 replace hb:=tt hq25 hb
 refine gs rfl rfl (!y22) rfl hq25<|gs rfl rfl (!y22) rfl hq25<|gs rfl rfl (!y22) rfl hq25<|lp (.bool true) (pu_pickT (q:=(!y22)) rfl hq25 rfl)<|lp (.bool true) (pu_move rfl)<|gs rfl rfl true rfl rfl<|gs rfl rfl true rfl rfl<|gs rfl rfl true rfl rfl<|lp (.bool true) (pu_pickT (q:=true) rfl rfl rfl)<|ln (hK15 _ _ ?_)
 refine Wc.fresh fun E26 hE=>?_
 have e4:E26 4=pg g2:=cg hE 4 rfl
 have e5:E26 5=pg g5:=cg hE 5 rfl
 have e6:E26 6=pg g8:=cg hE 6 rfl
 have e7:E26 7=pg g11:=cg hE 7 rfl
 have e8:E26 8=iv 0:=cg hE 8 rfl
 have e9:E26 9=.bool false:=cg hE 9 rfl
 have e33:E26 33=.bool true:=cg hE 33 rfl
 clear hE
 refine Wc.cond_true (e33) ?_
 refine Wc.seq fun _ hK27=>rg<|lp (iv 2) (pu_assign rfl)<|lp (.bool false) (pu_assign rfl)<|ln (hK27 _ _ ?_)
 obtain rfl:=os hb
 refine Wc.ret (hKR _ _ ?_)
 refine ⟨_,res2 results13 (tV (iv 2) rfl) (tV (.bool false) rfl),_,rfl,rfl,(show I64 2 from by unfold I64; omega),hC.sE []⟩
 replace hb:=tf hq25 hb
 refine gv rfl rfl (!y22) rfl hq25 (.agg #[iv o,iv s,iv d]) (ld_blk (hC.bx (i:=1) rfl) isAgg23 sizeOf23 rfl) ?_
 obtain ⟨y28,h29,hb⟩:=bd hb
 refine lex.gcl (want_t rfl rfl (show _=Value.bool (!y22) from rfl) hq25) (⟨_,_,op_call (vs:=[.agg #[iv o,iv s,iv d]]) call47 rfl rfl rfl,ref46_fits_ok n hC.lt J K L h29⟩) ?_
 rintro _ w30 ⟨rfl,hK⟩
 replace hC:=hC.merge hK
 clear hK
 refine gp rfl rfl (!y22) rfl hq25 (.bool (!y28)) (pu_not (q:=y28) rfl)<|lp (.bool (!y28)) (pu_pickF (q:=(!y22)) rfl hq25 rfl)<|lp (.bool (!y28)) (pu_move rfl) ?_
 rcases bS (!y28) with hq31 | hq31
 replace hb:=tt hq31 hb
 refine gs rfl rfl (!y28) rfl hq31<|gs rfl rfl (!y28) rfl hq31<|gs rfl rfl (!y28) rfl hq31<|lp (.bool true) (pu_pickT (q:=(!y28)) rfl hq31 rfl)<|ln (hK15 _ _ ?_)
 refine Wc.fresh fun E32 hE=>?_
 have e4:E32 4=pg g2:=cg hE 4 rfl
 have e5:E32 5=pg g5:=cg hE 5 rfl
 have e6:E32 6=pg g8:=cg hE 6 rfl
 have e7:E32 7=pg g11:=cg hE 7 rfl
 have e8:E32 8=iv 0:=cg hE 8 rfl
 have e9:E32 9=.bool false:=cg hE 9 rfl
 have e33:E32 33=.bool true:=cg hE 33 rfl
 clear hE
 refine Wc.cond_true (e33) ?_
 refine Wc.seq fun _ hK33=>rg<|lp (iv 2) (pu_assign rfl)<|lp (.bool false) (pu_assign rfl)<|ln (hK33 _ _ ?_)
 obtain rfl:=os hb
 refine Wc.ret (hKR _ _ ?_)
 refine ⟨_,res2 results13 (tV (iv 2) rfl) (tV (.bool false) rfl),_,rfl,rfl,(show I64 2 from by unfold I64; omega),hC.sE []⟩
 replace hb:=tf hq31 hb
 refine gv rfl rfl (!y28) rfl hq31 (.agg #[iv u,iv x,iv g]) (ld_blk (hC.bx (i:=0) rfl) isAgg23 sizeOf23 rfl) ?_
 obtain ⟨y34,h35,hb⟩:=bd hb
 refine lex.gcl (want_t rfl rfl (show _=Value.bool (!y28) from rfl) hq31) (⟨_,_,op_call (vs:=[.agg #[iv u,iv x,iv g]]) call47 rfl rfl rfl,ref46_fits_ok n hC.lt M N P h35⟩) ?_
 rintro _ w36 ⟨rfl,hK⟩
 replace hC:=hC.merge hK
 clear hK
 refine gp rfl rfl (!y28) rfl hq31 (.bool (!y34)) (pu_not (q:=y34) rfl)<|lp (.bool (!y34)) (pu_pickF (q:=(!y28)) rfl hq31 rfl)<|ln (hK15 _ _ ?_)
 refine Wc.fresh fun E37 hE=>?_
 have e4:E37 4=pg g2:=cg hE 4 rfl
 have e5:E37 5=pg g5:=cg hE 5 rfl
 have e6:E37 6=pg g8:=cg hE 6 rfl
 have e7:E37 7=pg g11:=cg hE 7 rfl
 have e8:E37 8=iv 0:=cg hE 8 rfl
 have e9:E37 9=.bool false:=cg hE 9 rfl
 have e33:E37 33=.bool (!y34):=cg hE 33 rfl
 clear hE
 refine Wc.cond (t:=(!y34)) (e33) (fun hq38=>?_) (fun hq38=>?_)
 replace hb:=tt hq38 hb
 refine Wc.seq fun _ hK39=>rg<|lp (iv 2) (pu_assign rfl)<|lp (.bool false) (pu_assign rfl)<|ln (hK39 _ _ ?_)
 obtain rfl:=os hb
 refine Wc.ret (hKR _ _ ?_)
 refine ⟨_,res2 results13 (tV (iv 2) rfl) (tV (.bool false) rfl),_,rfl,rfl,(show I64 2 from by unfold I64; omega),hC.sE []⟩
 replace hb:=tf hq38 hb
 refine Wc.skip (hK14 _ _ ?_)
 refine Wc.seq fun _ hK40=>?_
 refine Wc.seq fun _ hK41=>rg<|lv (.agg #[iv h,iv j,iv c]) (ld_blk (hC.bx (i:=3) rfl) isAgg23 sizeOf23 e4)<|lv (.agg #[iv o,iv s,iv d]) (ld_blk (hC.bx (i:=1) rfl) isAgg23 sizeOf23 e6)<|lv (.agg #[iv u,iv x,iv g]) (ld_blk (hC.bx (i:=0) rfl) isAgg23 sizeOf23 e7) ?_
 obtain ⟨y42,h43,hb⟩:=bd hb
 refine lex.cl (⟨_,_,op_call (vs:=[.agg #[iv h,iv j,iv c],.agg #[iv o,iv s,iv d],.agg #[iv u,iv x,iv g]]) call48 rfl rfl rfl,ref46_on_ok n hC.lt A B C J K L M N P h43⟩) ?_
 rintro _ w44 ⟨rfl,hK⟩
 replace hC:=hC.merge hK
 clear hK
 refine lp (.bool y42) (pu_move rfl) ?_
 rcases bS y42 with hq45 | hq45
 replace hb:=tt hq45 hb
 refine gs rfl rfl y42 rfl hq45<|gs rfl rfl y42 rfl hq45<|gs rfl rfl y42 rfl hq45<|gs rfl rfl y42 rfl hq45<|lp (.bool true) (pu_pickT (q:=y42) rfl hq45 rfl)<|lp (.bool true) (pu_move rfl)<|gs rfl rfl true rfl rfl<|gs rfl rfl true rfl rfl<|gs rfl rfl true rfl rfl<|gs rfl rfl true rfl rfl<|lp (.bool true) (pu_pickT (q:=true) rfl rfl rfl)<|lp (.bool true) (pu_move rfl)<|gs rfl rfl true rfl rfl<|gs rfl rfl true rfl rfl<|gs rfl rfl true rfl rfl<|gs rfl rfl true rfl rfl<|lp (.bool true) (pu_pickT (q:=true) rfl rfl rfl)<|ln (hK41 _ _ ?_)
 refine Wc.fresh fun E46 hE=>?_
 have e4:=cg hE 4 e4
 have e5:=cg hE 5 e5
 have e6:=cg hE 6 e6
 have e7:=cg hE 7 e7
 have e8:=cg hE 8 e8
 have e9:=cg hE 9 e9
 have e55:E46 55=.bool true:=cg hE 55 rfl
 clear hE
 refine Wc.cond_true (e55) ?_
 refine Wc.seq fun _ hK47=>rg<|lp (iv 2) (pu_assign rfl)<|lp (.bool false) (pu_assign rfl)<|ln (hK47 _ _ ?_)
 obtain rfl:=os hb
 refine Wc.ret (hKR _ _ ?_)
 refine ⟨_,res2 results13 (tV (iv 2) rfl) (tV (.bool false) rfl),_,rfl,rfl,(show I64 2 from by unfold I64; omega),hC.sE []⟩
 replace hb:=tf hq45 hb
 refine gv rfl rfl y42 rfl hq45 (.agg #[iv l,iv m,iv f]) (ld_blk (hC.bx (i:=2) rfl) isAgg23 sizeOf23 e5)<|gv rfl rfl y42 rfl hq45 (.agg #[iv o,iv s,iv d]) (ld_blk (hC.bx (i:=1) rfl) isAgg23 sizeOf23 e6)<|gv rfl rfl y42 rfl hq45 (.agg #[iv u,iv x,iv g]) (ld_blk (hC.bx (i:=0) rfl) isAgg23 sizeOf23 e7) ?_
 obtain ⟨y48,h49,hb⟩:=bd hb
 refine lex.gcl (want_t rfl rfl (show _=Value.bool y42 from rfl) hq45) (⟨_,_,op_call (vs:=[.agg #[iv l,iv m,iv f],.agg #[iv o,iv s,iv d],.agg #[iv u,iv x,iv g]]) call48 rfl rfl rfl,ref46_on_ok n hC.lt D G H J K L M N P h49⟩) ?_
 rintro _ w50 ⟨rfl,hK⟩
 replace hC:=hC.merge hK
 clear hK
 refine lp (.bool y48) (pu_pickF (q:=y42) rfl hq45 rfl)<|lp (.bool y48) (pu_move rfl) ?_
 rcases bS y48 with hq51 | hq51
 replace hb:=tt hq51 hb
 refine gs rfl rfl y48 rfl hq51<|gs rfl rfl y48 rfl hq51<|gs rfl rfl y48 rfl hq51<|gs rfl rfl y48 rfl hq51<|lp (.bool true) (pu_pickT (q:=y48) rfl hq51 rfl)<|lp (.bool true) (pu_move rfl)<|gs rfl rfl true rfl rfl<|gs rfl rfl true rfl rfl<|gs rfl rfl true rfl rfl<|gs rfl rfl true rfl rfl<|lp (.bool true) (pu_pickT (q:=true) rfl rfl rfl)<|ln (hK41 _ _ ?_)
 refine Wc.fresh fun E52 hE=>?_
 have e4:=cg hE 4 e4
 have e5:=cg hE 5 e5
 have e6:=cg hE 6 e6
 have e7:=cg hE 7 e7
 have e8:=cg hE 8 e8
 have e9:=cg hE 9 e9
 have e55:E52 55=.bool true:=cg hE 55 rfl
 clear hE
 refine Wc.cond_true (e55) ?_
 refine Wc.seq fun _ hK53=>rg<|lp (iv 2) (pu_assign rfl)<|lp (.bool false) (pu_assign rfl)<|ln (hK53 _ _ ?_)
 obtain rfl:=os hb
 refine Wc.ret (hKR _ _ ?_)
 refine ⟨_,res2 results13 (tV (iv 2) rfl) (tV (.bool false) rfl),_,rfl,rfl,(show I64 2 from by unfold I64; omega),hC.sE []⟩
 replace hb:=tf hq51 hb
 refine gv rfl rfl y48 rfl hq51 (.agg #[iv o,iv s,iv d]) (ld_blk (hC.bx (i:=1) rfl) isAgg23 sizeOf23 e6)<|gv rfl rfl y48 rfl hq51 (.agg #[iv h,iv j,iv c]) (ld_blk (hC.bx (i:=3) rfl) isAgg23 sizeOf23 e4)<|gv rfl rfl y48 rfl hq51 (.agg #[iv l,iv m,iv f]) (ld_blk (hC.bx (i:=2) rfl) isAgg23 sizeOf23 e5) ?_
 obtain ⟨y54,h55,hb⟩:=bd hb
 refine lex.gcl (want_t rfl rfl (show _=Value.bool y48 from rfl) hq51) (⟨_,_,op_call (vs:=[.agg #[iv o,iv s,iv d],.agg #[iv h,iv j,iv c],.agg #[iv l,iv m,iv f]]) call48 rfl rfl rfl,ref46_on_ok n hC.lt J K L A B C D G H h55⟩) ?_
 rintro _ w56 ⟨rfl,hK⟩
 replace hC:=hC.merge hK
 clear hK
 refine lp (.bool y54) (pu_pickF (q:=y48) rfl hq51 rfl)<|lp (.bool y54) (pu_move rfl) ?_
 rcases bS y54 with hq57 | hq57
 replace hb:=tt hq57 hb
 refine gs rfl rfl y54 rfl hq57<|gs rfl rfl y54 rfl hq57<|gs rfl rfl y54 rfl hq57<|gs rfl rfl y54 rfl hq57<|lp (.bool true) (pu_pickT (q:=y54) rfl hq57 rfl)<|ln (hK41 _ _ ?_)
 refine Wc.fresh fun E58 hE=>?_
 have e4:=cg hE 4 e4
 have e5:=cg hE 5 e5
 have e6:=cg hE 6 e6
 have e7:=cg hE 7 e7
 have e8:=cg hE 8 e8
 have e9:=cg hE 9 e9
 have e55:E58 55=.bool true:=cg hE 55 rfl
 clear hE
 refine Wc.cond_true (e55) ?_
 refine Wc.seq fun _ hK59=>rg<|lp (iv 2) (pu_assign rfl)<|lp (.bool false) (pu_assign rfl)<|ln (hK59 _ _ ?_)
 obtain rfl:=os hb
 refine Wc.ret (hKR _ _ ?_)
 refine ⟨_,res2 results13 (tV (iv 2) rfl) (tV (.bool false) rfl),_,rfl,rfl,(show I64 2 from by unfold I64; omega),hC.sE []⟩
 replace hb:=tf hq57 hb
 refine gv rfl rfl y54 rfl hq57 (.agg #[iv u,iv x,iv g]) (ld_blk (hC.bx (i:=0) rfl) isAgg23 sizeOf23 e7)<|gv rfl rfl y54 rfl hq57 (.agg #[iv h,iv j,iv c]) (ld_blk (hC.bx (i:=3) rfl) isAgg23 sizeOf23 e4)<|gv rfl rfl y54 rfl hq57 (.agg #[iv l,iv m,iv f]) (ld_blk (hC.bx (i:=2) rfl) isAgg23 sizeOf23 e5) ?_
 obtain ⟨y60,h61,hb⟩:=bd hb
 refine lex.gcl (want_t rfl rfl (show _=Value.bool y54 from rfl) hq57) (⟨_,_,op_call (vs:=[.agg #[iv u,iv x,iv g],.agg #[iv h,iv j,iv c],.agg #[iv l,iv m,iv f]]) call48 rfl rfl rfl,ref46_on_ok n hC.lt M N P A B C D G H h61⟩) ?_
 rintro _ w62 ⟨rfl,hK⟩
 replace hC:=hC.merge hK
 clear hK
 refine lp (.bool y60) (pu_pickF (q:=y54) rfl hq57 rfl)<|ln (hK41 _ _ ?_)
 refine Wc.fresh fun E63 hE=>?_
 have e4:=cg hE 4 e4
 have e5:=cg hE 5 e5
 have e6:=cg hE 6 e6
 have e7:=cg hE 7 e7
 have e8:=cg hE 8 e8
 have e9:=cg hE 9 e9
 have e55:E63 55=.bool y60:=cg hE 55 rfl
 clear hE
 refine Wc.cond (t:=y60) (e55) (fun hq64=>?_) (fun hq64=>?_)
 replace hb:=tt hq64 hb
 refine Wc.seq fun _ hK65=>rg<|lp (iv 2) (pu_assign rfl)<|lp (.bool false) (pu_assign rfl)<|ln (hK65 _ _ ?_)
 obtain rfl:=os hb
 refine Wc.ret (hKR _ _ ?_)
 refine ⟨_,res2 results13 (tV (iv 2) rfl) (tV (.bool false) rfl),_,rfl,rfl,(show I64 2 from by unfold I64; omega),hC.sE []⟩
 replace hb:=tf hq64 hb
 refine Wc.skip (hK40 _ _ ?_)
 refine Wc.seq fun _ hK66=>?_
 refine Wc.regionMix [] (frm [] ([]:List Fact) ([]:List Fact)) (fun _=>rfl) mixed (by decide+kernel) (by decide+kernel) fun w68 hw67=>?_
 replace hC:=hC.step (Fr.of_drew hw67)
 have hM:=Fr.refl (fun k=>k∈blocks ([]:List Fact)) w68
 clear hw67
 have hS:=hC
 refine mixE.load hM (v:=.agg #[iv h,iv j,iv c]) (fun _ hF=>ld_blk (hS.bx2 (i:=3) rfl [] (by decide) hF) isAgg23 sizeOf23 e4)<|mixE.load hM (v:=.agg #[iv l,iv m,iv f]) (fun _ hF=>ld_blk (hS.bx2 (i:=2) rfl [] (by decide) hF) isAgg23 sizeOf23 e5)<|mixE.load hM (v:=.agg #[iv o,iv s,iv d]) (fun _ hF=>ld_blk (hS.bx2 (i:=1) rfl [] (by decide) hF) isAgg23 sizeOf23 e6) ?_
 obtain ⟨y69,h70,hb⟩:=bd hb
 refine mixE.cl hM (⟨_,_,op_call (vs:=[.agg #[iv h,iv j,iv c],.agg #[iv l,iv m,iv f],.agg #[iv o,iv s,iv d]]) call49 rfl rfl rfl,ref46_turn_ok n hC.lt A B C D G H J K L h70⟩) ?_
 rintro _ w72 ⟨rfl,hr71,hK⟩
 replace hM:=hM.none hK.fr
 refine ⟨hM,?_⟩
 replace hC:=hC.merge hK
 clear hK
 refine mixE.load hM (v:=.agg #[iv h,iv j,iv c]) (fun _ hF=>ld_blk (hS.bx2 (i:=3) rfl [] (by decide) hF) isAgg23 sizeOf23 e4)<|mixE.load hM (v:=.agg #[iv l,iv m,iv f]) (fun _ hF=>ld_blk (hS.bx2 (i:=2) rfl [] (by decide) hF) isAgg23 sizeOf23 e5)<|mixE.load hM (v:=.agg #[iv u,iv x,iv g]) (fun _ hF=>ld_blk (hS.bx2 (i:=0) rfl [] (by decide) hF) isAgg23 sizeOf23 e7) ?_
 obtain ⟨y73,h74,hb⟩:=bd hb
 refine mixE.cl hM (⟨_,_,op_call (vs:=[.agg #[iv h,iv j,iv c],.agg #[iv l,iv m,iv f],.agg #[iv u,iv x,iv g]]) call49 rfl rfl rfl,ref46_turn_ok n hC.lt A B C D G H M N P h74⟩) ?_
 rintro _ w76 ⟨rfl,hr75,hK⟩
 replace hM:=hM.none hK.fr
 refine ⟨hM,?_⟩
 replace hC:=hC.merge hK
 clear hK
 refine mixE.load hM (v:=.agg #[iv o,iv s,iv d]) (fun _ hF=>ld_blk (hS.bx2 (i:=1) rfl [] (by decide) hF) isAgg23 sizeOf23 e6)<|mixE.load hM (v:=.agg #[iv u,iv x,iv g]) (fun _ hF=>ld_blk (hS.bx2 (i:=0) rfl [] (by decide) hF) isAgg23 sizeOf23 e7)<|mixE.load hM (v:=.agg #[iv h,iv j,iv c]) (fun _ hF=>ld_blk (hS.bx2 (i:=3) rfl [] (by decide) hF) isAgg23 sizeOf23 e4) ?_
 obtain ⟨y77,h78,hb⟩:=bd hb
 refine mixE.cl hM (⟨_,_,op_call (vs:=[.agg #[iv o,iv s,iv d],.agg #[iv u,iv x,iv g],.agg #[iv h,iv j,iv c]]) call49 rfl rfl rfl,ref46_turn_ok n hC.lt J K L M N P A B C h78⟩) ?_
 rintro _ w80 ⟨rfl,hr79,hK⟩
 replace hM:=hM.none hK.fr
 refine ⟨hM,?_⟩
 replace hC:=hC.merge hK
 clear hK
 refine mixE.load hM (v:=.agg #[iv o,iv s,iv d]) (fun _ hF=>ld_blk (hS.bx2 (i:=1) rfl [] (by decide) hF) isAgg23 sizeOf23 e6)<|mixE.load hM (v:=.agg #[iv u,iv x,iv g]) (fun _ hF=>ld_blk (hS.bx2 (i:=0) rfl [] (by decide) hF) isAgg23 sizeOf23 e7)<|mixE.load hM (v:=.agg #[iv l,iv m,iv f]) (fun _ hF=>ld_blk (hS.bx2 (i:=2) rfl [] (by decide) hF) isAgg23 sizeOf23 e5) ?_
 obtain ⟨y81,h82,hb⟩:=bd hb
 refine mixE.cl hM (⟨_,_,op_call (vs:=[.agg #[iv o,iv s,iv d],.agg #[iv u,iv x,iv g],.agg #[iv l,iv m,iv f]]) call49 rfl rfl rfl,ref46_turn_ok n hC.lt J K L M N P D G H h82⟩) ?_
 rintro _ w84 ⟨rfl,hr83,hK⟩
 replace hM:=hM.none hK.fr
 refine ⟨hM,?_⟩
 replace hC:=hC.merge hK
 clear hK
 refine mp (iv y69) (pu_assign rfl)<|mp (iv y73) (pu_assign rfl)<|mp (iv y77) (pu_assign rfl)<|mp (iv y81) (pu_assign rfl)<|mixE.nil ?_
 clear hS hM
 refine hK66 _ _<|Wc.fresh fun E85 hE=>?_
 have e4:=cg hE 4 e4
 have e5:=cg hE 5 e5
 have e6:=cg hE 6 e6
 have e7:=cg hE 7 e7
 have e8:=cg hE 8 e8
 have e9:=cg hE 9 e9
 have e10:E85 10=iv y69:=cg hE 10 rfl
 have e11:E85 11=iv y73:=cg hE 11 rfl
 have e12:E85 12=iv y77:=cg hE 12 rfl
 have e13:E85 13=iv y81:=cg hE 13 rfl
 clear hE
 refine Wc.seq fun _ hK86=>?_
 refine Wc.seq fun _ hK87=>rg<|lp _ (pu_move e10)<|lp _ (pu_move e11) ?_
 obtain ⟨y88,h89,hb⟩:=bd hb
 refine lex.cl (⟨_,_,op_call (vs:=[iv y69,iv y73]) call50 rfl rfl rfl,ref46_opposite_ok n hC.lt hr71 hr75 h89⟩) ?_
 rintro _ w90 ⟨rfl,hK⟩
 replace hC:=hC.merge hK
 clear hK
 refine lp (.bool (!y88)) (pu_not (q:=y88) rfl)<|lp (.bool (!y88)) (pu_move rfl) ?_
 rcases bS (!y88) with hq91 | hq91
 replace hb:=tt hq91 hb
 refine gs rfl rfl (!y88) rfl hq91<|gs rfl rfl (!y88) rfl hq91<|gs rfl rfl (!y88) rfl hq91<|gs rfl rfl (!y88) rfl hq91<|lp (.bool true) (pu_pickT (q:=(!y88)) rfl hq91 rfl)<|ln (hK87 _ _ ?_)
 refine Wc.cond_true (rfl) ?_
 refine Wc.seq fun _ hK92=>rg<|lp (iv 0) (pu_assign rfl)<|lp (.bool false) (pu_assign rfl)<|ln (hK92 _ _ ?_)
 obtain rfl:=os hb
 refine Wc.ret (hKR _ _ ?_)
 refine ⟨_,res2 results13 (tV (iv 0) rfl) (tV (.bool false) rfl),_,rfl,rfl,(show I64 0 from by unfold I64; omega),hC.sE []⟩
 replace hb:=tf hq91 hb
 refine gp rfl rfl (!y88) rfl hq91 (iv y77) (pu_move e12)<|gp rfl rfl (!y88) rfl hq91 (iv y81) (pu_move e13) ?_
 obtain ⟨y93,h94,hb⟩:=bd hb
 refine lex.gcl (want_t rfl rfl (show _=Value.bool (!y88) from rfl) hq91) (⟨_,_,op_call (vs:=[iv y77,iv y81]) call50 rfl rfl rfl,ref46_opposite_ok n hC.lt hr79 hr83 h94⟩) ?_
 rintro _ w95 ⟨rfl,hK⟩
 replace hC:=hC.merge hK
 clear hK
 refine gp rfl rfl (!y88) rfl hq91 (.bool (!y93)) (pu_not (q:=y93) rfl)<|lp (.bool (!y93)) (pu_pickF (q:=(!y88)) rfl hq91 rfl)<|ln (hK87 _ _ ?_)
 refine Wc.fresh fun E96 hE=>?_
 have e4:=cg hE 4 e4
 have e5:=cg hE 5 e5
 have e6:=cg hE 6 e6
 have e7:=cg hE 7 e7
 have e8:=cg hE 8 e8
 have e9:=cg hE 9 e9
 have e10:=cg hE 10 e10
 have e11:=cg hE 11 e11
 have e12:=cg hE 12 e12
 have e13:=cg hE 13 e13
 have e81:E96 81=.bool (!y93):=cg hE 81 rfl
 clear hE
 refine Wc.cond (t:=(!y93)) (e81) (fun hq97=>?_) (fun hq97=>?_)
 replace hb:=tt hq97 hb
 refine Wc.seq fun _ hK98=>rg<|lp (iv 0) (pu_assign rfl)<|lp (.bool false) (pu_assign rfl)<|ln (hK98 _ _ ?_)
 obtain rfl:=os hb
 refine Wc.ret (hKR _ _ ?_)
 refine ⟨_,res2 results13 (tV (iv 0) rfl) (tV (.bool false) rfl),_,rfl,rfl,(show I64 0 from by unfold I64; omega),hC.sE []⟩
 replace hb:=tf hq97 hb
 refine Wc.skip (hK86 _ _ ?_)
 refine Wc.seq fun _ hK99=>rg<|lp (.pointer (some ((⟨g2,0,none⟩:Addr).add 2))) (pu_field (sz:=1) underlying23 rfl sizeOf3 (by decide) rfl e4)<|lv (iv c) (ld_fld (hC.bx (i:=3) rfl) isAgg3 rfl rfl)<|lp _ (pu_move e12)<|lp _ (pu_move e13) ?_
 obtain ⟨z100,h101,hb⟩:=bd hb
 refine lp (iv z100) (pu_subc (a:=y77) (b:=y81) rfl rfl h101) ?_
 obtain ⟨z102,h103,hb⟩:=bd hb
 refine lp (iv z102) (pu_mulc (a:=c) (b:=z100) rfl rfl h103)<|lp (.pointer (some ((⟨g5,0,none⟩:Addr).add 2))) (pu_field (sz:=1) underlying23 rfl sizeOf3 (by decide) rfl e5)<|lv (iv f) (ld_fld (hC.bx (i:=2) rfl) isAgg3 rfl rfl)<|lp (.pointer (some ((⟨g2,0,none⟩:Addr).add 2))) (pu_field (sz:=1) underlying23 rfl sizeOf3 (by decide) rfl e4)<|lv (iv c) (ld_fld (hC.bx (i:=3) rfl) isAgg3 rfl rfl) ?_
 obtain ⟨z104,h105,hb⟩:=bd hb
 refine lp (iv z104) (pu_subc (a:=f) (b:=c) rfl rfl h105)<|lp _ (pu_move e12) ?_
 obtain ⟨z106,h107,hb⟩:=bd hb
 refine lp (iv z106) (pu_mulc (a:=z104) (b:=y77) rfl rfl h107) ?_
 obtain ⟨z108,h109,hb⟩:=bd hb
 refine lp (iv z108) (pu_addc (a:=z102) (b:=z106) rfl rfl h109)<|lp _ (pu_move e10)<|lp _ (pu_move e11) ?_
 obtain ⟨z110,h111,hb⟩:=bd hb
 refine lp (iv z110) (pu_subc (a:=y69) (b:=y73) rfl rfl h111) ?_
 obtain ⟨z112,h113,hb⟩:=bd hb
 refine lp (iv z112) (pu_mulc (a:=z108) (b:=z110) rfl rfl h113)<|lp (iv z112) (pu_assign rfl)<|ln (hK99 _ _ ?_)
 refine Wc.fresh fun E114 hE=>?_
 have e6:=cg hE 6 e6
 have e7:=cg hE 7 e7
 have e8:=cg hE 8 e8
 have e9:=cg hE 9 e9
 have e10:=cg hE 10 e10
 have e11:=cg hE 11 e11
 have e12:=cg hE 12 e12
 have e13:=cg hE 13 e13
 have e14:E114 14=iv z112:=cg hE 14 rfl
 clear hE
 refine Wc.seq fun _ hK115=>rg<|lp (.pointer (some ((⟨g8,0,none⟩:Addr).add 2))) (pu_field (sz:=1) underlying23 rfl sizeOf3 (by decide) rfl e6)<|lv (iv d) (ld_fld (hC.bx (i:=1) rfl) isAgg3 rfl rfl)<|lp _ (pu_move e10)<|lp _ (pu_move e11) ?_
 obtain ⟨z116,h117,hb⟩:=bd hb
 refine lp (iv z116) (pu_subc (a:=y69) (b:=y73) rfl rfl h117) ?_
 obtain ⟨z118,h119,hb⟩:=bd hb
 refine lp (iv z118) (pu_mulc (a:=d) (b:=z116) rfl rfl h119)<|lp (.pointer (some ((⟨g11,0,none⟩:Addr).add 2))) (pu_field (sz:=1) underlying23 rfl sizeOf3 (by decide) rfl e7)<|lv (iv g) (ld_fld (hC.bx (i:=0) rfl) isAgg3 rfl rfl)<|lp (.pointer (some ((⟨g8,0,none⟩:Addr).add 2))) (pu_field (sz:=1) underlying23 rfl sizeOf3 (by decide) rfl e6)<|lv (iv d) (ld_fld (hC.bx (i:=1) rfl) isAgg3 rfl rfl) ?_
 obtain ⟨z120,h121,hb⟩:=bd hb
 refine lp (iv z120) (pu_subc (a:=g) (b:=d) rfl rfl h121)<|lp _ (pu_move e10) ?_
 obtain ⟨z122,h123,hb⟩:=bd hb
 refine lp (iv z122) (pu_mulc (a:=z120) (b:=y69) rfl rfl h123) ?_
 obtain ⟨z124,h125,hb⟩:=bd hb
 refine lp (iv z124) (pu_addc (a:=z118) (b:=z122) rfl rfl h125)<|lp _ (pu_move e12)<|lp _ (pu_move e13) ?_
 obtain ⟨z126,h127,hb⟩:=bd hb
 refine lp (iv z126) (pu_subc (a:=y77) (b:=y81) rfl rfl h127) ?_
 obtain ⟨z128,h129,hb⟩:=bd hb
 refine lp (iv z128) (pu_mulc (a:=z124) (b:=z126) rfl rfl h129)<|lp (iv z128) (pu_assign rfl)<|ln (hK115 _ _ ?_)
 refine Wc.fresh fun E130 hE=>?_
 have e8:=cg hE 8 e8
 have e9:=cg hE 9 e9
 have e10:=cg hE 10 e10
 have e11:=cg hE 11 e11
 have e12:=cg hE 12 e12
 have e13:=cg hE 13 e13
 have e14:=cg hE 14 e14
 have e15:E130 15=iv z128:=cg hE 15 rfl
 clear hE
 refine Wc.seqJ (fun E wv=> ∃(y:Int) (z:Int),E 8=iv 0∧E 9=.bool false∧E 14=iv y∧E 15=iv z∧I64 y∧I64 z∧Cx (fun _=>False) O0 w wv []∧F.ref46_Cross_j0 n y z=some r) (fun _ hK131=>?_) ?_
 refine Wc.seq fun _ hK132=>rg<|lp _ (pu_move e12)<|lp _ (pu_move e13) ?_
 obtain ⟨z133,h134,hb⟩:=bd hb
 refine lp (iv z133) (pu_subc (a:=y77) (b:=y81) rfl rfl h134) ?_
 obtain ⟨y135,h136,hb⟩:=bd hb
 refine lex.cl (⟨_,_,op_call (vs:=[iv z133,iv 1]) call50 rfl rfl rfl,ref46_opposite_ok n hC.lt (chk_rng h134) (show I64 1 from by unfold I64; omega) h136⟩) ?_
 rintro _ w137 ⟨rfl,hK⟩
 replace hC:=hC.merge hK
 clear hK
 refine lp _ (pu_move e10)<|lp _ (pu_move e11) ?_
 obtain ⟨z138,h139,hb⟩:=bd hb
 refine lp (iv z138) (pu_subc (a:=y69) (b:=y73) rfl rfl h139) ?_
 obtain ⟨y140,h141,hb⟩:=bd hb
 refine lex.cl (⟨_,_,op_call (vs:=[iv z138,iv 1]) call50 rfl rfl rfl,ref46_opposite_ok n hC.lt (chk_rng h139) (show I64 1 from by unfold I64; omega) h141⟩) ?_
 rintro _ w142 ⟨rfl,hK⟩
 replace hC:=hC.merge hK
 clear hK
 refine lp (.bool (!(y135 == y140))) (pu_neqb (p:=y135) (q:=y140) underlying4 rfl rfl)<|ln (hK132 _ _ ?_)
 refine Wc.cond (t:=(!(y135 == y140))) (rfl) (fun hq143=>?_) (fun hq143=>?_)
 replace hb:=tt hq143 hb
 refine rg<|lp _ (pu_move e14) ?_
 obtain ⟨z144,h145,hb⟩:=bd hb
 refine lp (iv z144) (pu_subc (a:=0) (b:=z112) rfl rfl h145)<|lp _ (pu_move e15) ?_
 obtain ⟨z146,h147,hb⟩:=bd hb
 refine lp (iv z146) (pu_subc (a:=0) (b:=z128) rfl rfl h147)<|lp (iv z144) (pu_assign rfl)<|lp (iv z146) (pu_assign rfl)<|ln ?_
 exact hK131 _ _ ⟨z144,z146,e8,e9,rfl,rfl,(chk_rng h145),(chk_rng h147),hC.sE [],hb⟩
 replace hb:=tf hq143 hb
 refine Wc.skip ?_
 exact hK131 _ _ ⟨z112,z128,e8,e9,e14,e15,(chk_rng h113),(chk_rng h129),hC.sE [],hb⟩
 clear hb hC
 rintro E149 w148 ⟨y,z,e8,e9,e14,e15,Q,R,hC,hb⟩
 unfold F.ref46_Cross_j0 at hb
 refine Wc.seq fun _ hK150=>?_
 refine Wc.seq fun _ hK151=>rg<|lp _ (pu_move e14)<|lp _ (pu_move e15)<|lp (.bool (decide (y=z))) (pu_eql (k:=.i64) (a:=y) (b:=z) rfl rfl)<|ln (hK151 _ _ ?_)
 refine Wc.cond (t:=(decide (y=z))) (rfl) (fun hq152=>?_) (fun hq152=>?_)
 replace hb:=tt hq152 hb
 refine Wc.seq fun _ hK153=>rg<|lp (iv 2) (pu_assign rfl)<|lp (.bool false) (pu_assign rfl)<|ln (hK153 _ _ ?_)
 obtain rfl:=os hb
 refine Wc.ret (hKR _ _ ?_)
 refine ⟨_,res2 results13 (tV (iv 2) rfl) (tV (.bool false) rfl),_,rfl,rfl,(show I64 2 from by unfold I64; omega),hC.sE []⟩
 replace hb:=tf hq152 hb
 refine Wc.skip (hK150 _ _ ?_)
 refine Wc.seq fun _ hK154=>rg<|lp _ (pu_move e14)<|lp _ (pu_move e15)<|lp (.bool (decide (z<y))) (pu_gtr (k:=.i64) (a:=y) (b:=z) rfl rfl)<|lp (iv 1) (pu_assign rfl)<|lp (.bool (decide (z<y))) (pu_assign rfl)<|ln (hK154 _ _ ?_)
 obtain rfl:=os hb
 refine Wc.ret (hKR _ _ ?_)
 refine ⟨_,res2 results13 (tV (iv 1) rfl) (tV (.bool (decide (z<y))) rfl),_,rfl,rfl,(show I64 1 from by unfold I64; omega),hC.sE []⟩
end Go.Proofs.Yteajmbanlohncaa
