import Derived.Test.YteajmbanlohncaaS
set_option linter.unusedVariables false
set_option linter.unusedSimpArgs false
namespace Go.Proofs.Yteajmbanlohncaa
open Ev Try
set_option maxRecDepth 100000
set_option maxHeartbeats 4000000
theorem ref46_abs_ok (n:Nat) {w:World} {O0:List Nat} (hO: ∀k∈O0,k<w.heap.size) {c:Int} (d:I64 c) {r:Int} (hb:F.ref46_abs n c=some r):
    Calls prog 73 #[iv c] w fun e w'=> ∃v,e=.returned v∧v=iv r∧I64 r∧Cx (fun _=>False) O0 w w' []:=by
 unfold F.ref46_abs at hb
 have hC:=Cx.start hO
 clear hO
 refine calls_of_Wc func73 rfl (by rw [ntmps73]; exact nb rfl) fun KR hKR=>?_
 refine Wc.seq fun _ hK1=>rg<|lp (iv 0) (pu_assign rfl)<|ln (hK1 _ _ ?_)
 refine Wc.seq fun _ hK2=>?_
 refine Wc.seq fun _ hK3=>rg<|lp (iv c) (pu_move rfl)<|lp (.bool (decide (c<0))) (pu_lss (k:=.i64) (a:=c) (b:=0) rfl rfl)<|ln (hK3 _ _ ?_)
 refine Wc.cond (t:=(decide (c<0))) (rfl) (fun hq4=>?_) (fun hq4=>?_)
 replace hb:=tt hq4 hb
 refine Wc.seq fun _ hK5=>rg<|lp (iv c) (pu_move rfl) ?_
 obtain ⟨z6,h7,hb⟩:=bd hb
 refine lp (iv z6) (pu_subc (a:=0) (b:=c) rfl rfl h7)<|lp (iv z6) (pu_assign rfl)<|ln (hK5 _ _ ?_)
 obtain rfl:=os hb
 refine Wc.ret (hKR _ _ ?_)
 refine ⟨_,res1 results73 (tV (iv z6) rfl),_,rfl,rfl,(chk_rng h7),hC.sE []⟩
 replace hb:=tf hq4 hb
 refine Wc.skip (hK2 _ _ ?_)
 refine Wc.seq fun _ hK8=>rg<|lp (iv c) (pu_move rfl)<|lp (iv c) (pu_assign rfl)<|ln (hK8 _ _ ?_)
 obtain rfl:=os hb
 refine Wc.ret (hKR _ _ ?_)
 refine ⟨_,res1 results73 (tV (iv c) rfl),_,rfl,rfl,d,hC.sE []⟩

theorem ref46_Even_ok (n:Nat) {w:World} {O0:List Nat} (hO: ∀k∈O0,k<w.heap.size) {c:Int} (l:I64 c) {d:Int} (m:I64 d) {f:Int} (o:I64 f) {g:Int} (p:I64 g) {h:Int} (s:I64 h) {j:Int} (t:I64 j) {r:Bool} (hb:F.ref46_Even n c d f g h j=some r):
    Calls prog 34 #[.agg #[iv c,iv d,iv f],.agg #[iv g,iv h,iv j]] w fun e w'=> ∃v,e=.returned v∧v=.bool r∧Cx (fun _=>False) O0 w w' []:=by
 unfold F.ref46_Even at hb
 have hC:=Cx.start hO
 clear hO
 refine calls_of_Wc func34 rfl (by rw [ntmps34]; exact nb rfl) fun KR hKR=>?_
 refine Wc.seq fun _ hK1=>rg<|lex.op (hC.box (cs:=[iv c,iv d,iv f]) rfl rfl) ?_
 rintro _ w3 ⟨g2,rfl,hC,hF,-⟩
 refine lex.op (hC.box (cs:=[iv g,iv h,iv j]) rfl rfl) ?_
 rintro _ w6 ⟨g5,rfl,hC,hF,-⟩
 refine lp (.bool false) (pu_assign rfl)<|ln (hK1 _ _ ?_)
 refine Wc.seq fun _ hK8=>rg<|lp (.pointer (some ((⟨g2,0,none⟩:Addr).add 0))) (pu_field (sz:=1) underlying23 rfl sizeOf3 (by decide) rfl rfl)<|lv (iv c) (ld_fld (hC.bx (i:=1) rfl) isAgg3 rfl rfl)<|lp (.pointer (some ((⟨g5,0,none⟩:Addr).add 0))) (pu_field (sz:=1) underlying23 rfl sizeOf3 (by decide) rfl rfl)<|lv (iv g) (ld_fld (hC.bx (i:=0) rfl) isAgg3 rfl rfl) ?_
 obtain ⟨z9,h10,hb⟩:=bd hb
 refine lp (iv z9) (pu_addc (a:=c) (b:=g) rfl rfl h10) ?_
 obtain ⟨y11,h12,hb⟩:=bd hb
 refine lex.cl (⟨_,_,op_call (vs:=[iv z9]) call73 rfl rfl rfl,ref46_abs_ok n hC.lt (chk_rng h10) h12⟩) ?_
 rintro _ w14 ⟨rfl,hr13,hK⟩
 replace hC:=hC.merge hK
 clear hK
 obtain ⟨u15,h16,hb⟩:=bd hb
 refine lp (iv (Int.tmod y11 2)) (pu_remc (a:=y11) (b:=2) rfl rfl h16)<|lp (.bool (decide ((Int.tmod y11 2)=0))) (pu_eql (k:=.i64) (a:=(Int.tmod y11 2)) (b:=0) rfl rfl)<|lp (.bool (decide ((Int.tmod y11 2)=0))) (pu_move rfl) ?_
 rcases bS (decide ((Int.tmod y11 2)=0)) with hq17 | hq17
 replace hb:=tt hq17 hb
 refine gp rfl rfl (decide ((Int.tmod y11 2)=0)) rfl hq17 (.pointer (some ((⟨g2,0,none⟩:Addr).add 1))) (pu_field (sz:=1) underlying23 rfl sizeOf3 (by decide) rfl rfl)<|gv rfl rfl (decide ((Int.tmod y11 2)=0)) rfl hq17 (iv d) (ld_fld (hC.bx (i:=1) rfl) isAgg3 rfl rfl)<|gp rfl rfl (decide ((Int.tmod y11 2)=0)) rfl hq17 (.pointer (some ((⟨g5,0,none⟩:Addr).add 1))) (pu_field (sz:=1) underlying23 rfl sizeOf3 (by decide) rfl rfl)<|gv rfl rfl (decide ((Int.tmod y11 2)=0)) rfl hq17 (iv h) (ld_fld (hC.bx (i:=0) rfl) isAgg3 rfl rfl) ?_
 obtain ⟨z18,h19,hb⟩:=bd hb
 refine gp rfl rfl (decide ((Int.tmod y11 2)=0)) rfl hq17 (iv z18) (pu_addc (a:=d) (b:=h) rfl rfl h19) ?_
 obtain ⟨y20,h21,hb⟩:=bd hb
 refine lex.gcl (want_t rfl rfl (show _=Value.bool (decide ((Int.tmod y11 2)=0)) from rfl) hq17) (⟨_,_,op_call (vs:=[iv z18]) call73 rfl rfl rfl,ref46_abs_ok n hC.lt (chk_rng h19) h21⟩) ?_
 rintro _ w23 ⟨rfl,hr22,hK⟩
 replace hC:=hC.merge hK
 clear hK
 obtain ⟨u24,h25,hb⟩:=bd hb
 refine gp rfl rfl (decide ((Int.tmod y11 2)=0)) rfl hq17 (iv (Int.tmod y20 2)) (pu_remc (a:=y20) (b:=2) rfl rfl h25)<|gp rfl rfl (decide ((Int.tmod y11 2)=0)) rfl hq17 (.bool (decide ((Int.tmod y20 2)=0))) (pu_eql (k:=.i64) (a:=(Int.tmod y20 2)) (b:=0) rfl rfl)<|lp (.bool (decide ((Int.tmod y20 2)=0))) (pu_pickT (q:=(decide ((Int.tmod y11 2)=0))) rfl hq17 rfl)<|lp (.bool (decide ((Int.tmod y20 2)=0))) (pu_move rfl) ?_
 rcases bS (decide ((Int.tmod y20 2)=0)) with hq26 | hq26
 replace hb:=tt hq26 hb
 refine gp rfl rfl (decide ((Int.tmod y20 2)=0)) rfl hq26 (.pointer (some ((⟨g2,0,none⟩:Addr).add 2))) (pu_field (sz:=1) underlying23 rfl sizeOf3 (by decide) rfl rfl)<|gv rfl rfl (decide ((Int.tmod y20 2)=0)) rfl hq26 (iv f) (ld_fld (hC.bx (i:=1) rfl) isAgg3 rfl rfl)<|gp rfl rfl (decide ((Int.tmod y20 2)=0)) rfl hq26 (.pointer (some ((⟨g5,0,none⟩:Addr).add 2))) (pu_field (sz:=1) underlying23 rfl sizeOf3 (by decide) rfl rfl)<|gv rfl rfl (decide ((Int.tmod y20 2)=0)) rfl hq26 (iv j) (ld_fld (hC.bx (i:=0) rfl) isAgg3 rfl rfl) ?_
 obtain ⟨z27,h28,hb⟩:=bd hb
 refine gp rfl rfl (decide ((Int.tmod y20 2)=0)) rfl hq26 (iv z27) (pu_addc (a:=f) (b:=j) rfl rfl h28) ?_
 obtain ⟨y29,h30,hb⟩:=bd hb
 refine lex.gcl (want_t rfl rfl (show _=Value.bool (decide ((Int.tmod y20 2)=0)) from rfl) hq26) (⟨_,_,op_call (vs:=[iv z27]) call73 rfl rfl rfl,ref46_abs_ok n hC.lt (chk_rng h28) h30⟩) ?_
 rintro _ w32 ⟨rfl,hr31,hK⟩
 replace hC:=hC.merge hK
 clear hK
 obtain ⟨u33,h34,hb⟩:=bd hb
 refine gp rfl rfl (decide ((Int.tmod y20 2)=0)) rfl hq26 (iv (Int.tmod y29 2)) (pu_remc (a:=y29) (b:=2) rfl rfl h34)<|gp rfl rfl (decide ((Int.tmod y20 2)=0)) rfl hq26 (.bool (decide ((Int.tmod y29 2)=0))) (pu_eql (k:=.i64) (a:=(Int.tmod y29 2)) (b:=0) rfl rfl)<|lp (.bool (decide ((Int.tmod y29 2)=0))) (pu_pickT (q:=(decide ((Int.tmod y20 2)=0))) rfl hq26 rfl)<|lp (.bool (decide ((Int.tmod y29 2)=0))) (pu_assign rfl)<|ln (hK8 _ _ ?_)
 obtain rfl:=os hb
 refine Wc.ret (hKR _ _ ?_)
 refine ⟨_,res1 results34 (tV (.bool (decide ((Int.tmod y29 2)=0))) rfl),_,rfl,rfl,hC.sE []⟩
 replace hb:=tf hq26 hb
 refine gs rfl rfl (decide ((Int.tmod y20 2)=0)) rfl hq26<|gs rfl rfl (decide ((Int.tmod y20 2)=0)) rfl hq26<|gs rfl rfl (decide ((Int.tmod y20 2)=0)) rfl hq26<|gs rfl rfl (decide ((Int.tmod y20 2)=0)) rfl hq26<|gs rfl rfl (decide ((Int.tmod y20 2)=0)) rfl hq26<|gs rfl rfl (decide ((Int.tmod y20 2)=0)) rfl hq26<|gs rfl rfl (decide ((Int.tmod y20 2)=0)) rfl hq26<|gs rfl rfl (decide ((Int.tmod y20 2)=0)) rfl hq26<|lp (.bool false) (pu_pickF (q:=(decide ((Int.tmod y20 2)=0))) rfl hq26 rfl)<|lp (.bool false) (pu_assign rfl)<|ln (hK8 _ _ ?_)
 obtain rfl:=os hb
 refine Wc.ret (hKR _ _ ?_)
 refine ⟨_,res1 results34 (tV (.bool false) rfl),_,rfl,rfl,hC.sE []⟩
 replace hb:=tf hq17 hb
 refine gs rfl rfl (decide ((Int.tmod y11 2)=0)) rfl hq17<|gs rfl rfl (decide ((Int.tmod y11 2)=0)) rfl hq17<|gs rfl rfl (decide ((Int.tmod y11 2)=0)) rfl hq17<|gs rfl rfl (decide ((Int.tmod y11 2)=0)) rfl hq17<|gs rfl rfl (decide ((Int.tmod y11 2)=0)) rfl hq17<|gs rfl rfl (decide ((Int.tmod y11 2)=0)) rfl hq17<|gs rfl rfl (decide ((Int.tmod y11 2)=0)) rfl hq17<|gs rfl rfl (decide ((Int.tmod y11 2)=0)) rfl hq17<|lp (.bool false) (pu_pickF (q:=(decide ((Int.tmod y11 2)=0))) rfl hq17 rfl)<|lp (.bool false) (pu_move rfl)<|gs rfl rfl false rfl rfl<|gs rfl rfl false rfl rfl<|gs rfl rfl false rfl rfl<|gs rfl rfl false rfl rfl<|gs rfl rfl false rfl rfl<|gs rfl rfl false rfl rfl<|gs rfl rfl false rfl rfl<|gs rfl rfl false rfl rfl<|lp (.bool false) (pu_pickF (q:=false) rfl rfl rfl)<|lp (.bool false) (pu_assign rfl)<|ln (hK8 _ _ ?_)
 obtain rfl:=os hb
 refine Wc.ret (hKR _ _ ?_)
 refine ⟨_,res1 results34 (tV (.bool false) rfl),_,rfl,rfl,hC.sE []⟩

theorem ref46_Middle_ok (n:Nat) {w:World} {O0:List Nat} (hO: ∀k∈O0,k<w.heap.size) {c:Int} (l:I64 c) {d:Int} (m:I64 d) {f:Int} (o:I64 f) {g:Int} (p:I64 g) {h:Int} (q:I64 h) {j:Int} (s:I64 j) {r:Int×Int×Int} (hb:F.ref46_Middle n c d f g h j=some r):
    Calls prog 37 #[.agg #[iv c,iv d,iv f],.agg #[iv g,iv h,iv j]] w fun e w'=> ∃v,e=.returned v∧v=.agg #[iv r.1,iv r.2.1,iv r.2.2]∧I64 r.1∧I64 r.2.1∧I64 r.2.2∧Cx (fun _=>False) O0 w w' []:=by
 unfold F.ref46_Middle at hb
 have hC:=Cx.start hO
 clear hO
 refine calls_of_Wc func37 rfl (by rw [ntmps37]; exact nb rfl) fun KR hKR=>?_
 refine Wc.seq fun _ hK1=>rg<|lex.op (hC.box (cs:=[iv c,iv d,iv f]) rfl rfl) ?_
 rintro _ w3 ⟨g2,rfl,hC,hF,-⟩
 refine lex.op (hC.box (cs:=[iv g,iv h,iv j]) rfl rfl) ?_
 rintro _ w6 ⟨g5,rfl,hC,hF,-⟩
 refine lex.op (hC.alloc (cs:=[iv 0,iv 0,iv 0]) zeroValue23 rfl) ?_
 rintro _ w9 ⟨g8,rfl,hC,hF,-⟩
 refine ln (hK1 _ _ ?_)
 refine Wc.seq fun _ hK11=>rg<|lp (.pointer (some ((⟨g2,0,none⟩:Addr).add 0))) (pu_field (sz:=1) underlying23 rfl sizeOf3 (by decide) rfl rfl)<|lv (iv c) (ld_fld (hC.bx (i:=2) rfl) isAgg3 rfl rfl)<|lp (.pointer (some ((⟨g5,0,none⟩:Addr).add 0))) (pu_field (sz:=1) underlying23 rfl sizeOf3 (by decide) rfl rfl)<|lv (iv g) (ld_fld (hC.bx (i:=1) rfl) isAgg3 rfl rfl) ?_
 obtain ⟨z12,h13,hb⟩:=bd hb
 refine lp (iv z12) (pu_addc (a:=c) (b:=g) rfl rfl h13) ?_
 obtain ⟨u14,h15,hb⟩:=bd hb
 obtain ⟨z16,h17,hb⟩:=bd hb
 refine lp (iv z16) (pu_quoc (a:=z12) (b:=2) rfl rfl h15 h17)<|lp (.pointer (some ((⟨g2,0,none⟩:Addr).add 1))) (pu_field (sz:=1) underlying23 rfl sizeOf3 (by decide) rfl rfl)<|lv (iv d) (ld_fld (hC.bx (i:=2) rfl) isAgg3 rfl rfl)<|lp (.pointer (some ((⟨g5,0,none⟩:Addr).add 1))) (pu_field (sz:=1) underlying23 rfl sizeOf3 (by decide) rfl rfl)<|lv (iv h) (ld_fld (hC.bx (i:=1) rfl) isAgg3 rfl rfl) ?_
 obtain ⟨z18,h19,hb⟩:=bd hb
 refine lp (iv z18) (pu_addc (a:=d) (b:=h) rfl rfl h19) ?_
 obtain ⟨u20,h21,hb⟩:=bd hb
 obtain ⟨z22,h23,hb⟩:=bd hb
 refine lp (iv z22) (pu_quoc (a:=z18) (b:=2) rfl rfl h21 h23)<|lp (.pointer (some ((⟨g2,0,none⟩:Addr).add 2))) (pu_field (sz:=1) underlying23 rfl sizeOf3 (by decide) rfl rfl)<|lv (iv f) (ld_fld (hC.bx (i:=2) rfl) isAgg3 rfl rfl)<|lp (.pointer (some ((⟨g5,0,none⟩:Addr).add 2))) (pu_field (sz:=1) underlying23 rfl sizeOf3 (by decide) rfl rfl)<|lv (iv j) (ld_fld (hC.bx (i:=1) rfl) isAgg3 rfl rfl) ?_
 obtain ⟨z24,h25,hb⟩:=bd hb
 refine lp (iv z24) (pu_addc (a:=f) (b:=j) rfl rfl h25) ?_
 obtain ⟨u26,h27,hb⟩:=bd hb
 obtain ⟨z28,h29,hb⟩:=bd hb
 refine lp (iv z28) (pu_quoc (a:=z24) (b:=2) rfl rfl h27 h29)<|lp (.agg #[iv z16,iv z22,iv z28]) (pu_builds (places:=[(0,1),(1,1),(2,1)]) (pv:=[(0,iv z16),(1,iv z22),(2,iv z28)]) type23 underlying23 rfl (mp_cons type3 (mp_cons type3 (mp_cons type3 mp_nil rfl rfl) rfl rfl) rfl rfl) rfl (by simp [Instr.fill,Value.cells]))<|lex.sk (hC.seta (i:=0) (ds:=[iv z16,iv z22,iv z28]) rfl type23 rfl rfl rfl rfl rfl) ?_
 rintro w30 ⟨hC,hF⟩
 refine ln (hK11 _ _ ?_)
 obtain rfl:=os hb
 refine Wc.ret (hKR _ _ ?_)
 refine ⟨_,res1 results37 ⟨_,rfl,loadVar_blk (hC.bx (i:=0) rfl) isAgg23 sizeOf23⟩,_,rfl,rfl,(chk_rng h17),(chk_rng h23),(chk_rng h29),hC.sE []⟩

theorem slices_Insert_Point_Point_ok (n:Nat) {w:World} {O0:List Nat} (hO: ∀k∈O0,k<w.heap.size) {A0:Option Addr} {m0 c0:Nat} {d:List (Int×(Int×Int))} {j:Int} (l:I64 j) {A2:Option Addr} {m2 c2:Nat} {c:List (Int×(Int×Int))} (hio:Tk O0 w [.own 23 (.pr si (.pr si si)) (.slice A0 m0 c0) d,.own 23 (.pr si (.pr si si)) (.slice A2 m2 c2) c]) {r:List (Int×(Int×Int))} (hb:F.slices_Insert_Point_Point n d j c=some r):
    Calls prog 35 #[.slice A0 m0 c0,iv j,.slice A2 m2 c2] w fun e w'=> ∃v,e=.returned v∧∃(A1:Option Addr) (m1 c1:Nat),v=.slice A1 m1 c1∧Cx (fun k=>k∈blocks [.own 23 (.pr si (.pr si si)) (.slice A0 m0 c0) d,.own 23 (.pr si (.pr si si)) (.slice A2 m2 c2) c]) O0 w w' [.own 23 (.pr si (.pr si si)) (.slice A1 m1 c1) r]:=by
  unfold F.slices_Insert_Point_Point insG at hb
  split at hb
  rotate_left
  · cases hb
  rename_i hcond
  obtain ⟨hi0,hi1,hv0,hlen⟩:=hcond
  injection hb with hb
  obtain ⟨i,rfl⟩:=Int.eq_ofNat_of_zero_le hi0
  rw [Int.toNat_natCast] at hb
  have hC:=Cx.startTk hO hio
  have hio2:=hio
  obtain ⟨rfl,hls,hcs⟩:=(hC.ow (i:=0) rfl).sl_len
  obtain ⟨rfl,hlv,hcv⟩:=(hC.ow (i:=1) rfl).sl_len
  refine calls_of_Wc func35 rfl (by rw [ntmps35]; exact nb rfl) fun KR hKR=>?_
  refine Wc.seq fun _ hK1=>Wc.region (by decide+kernel) ?_
  refine lp (.slice none 0 0) (pu_assign rfl) ?_
  refine lex.nil (hK1 _ _ ?_)
  refine Wc.seq fun _ hK2=>Wc.region (by decide+kernel) ?_
  refine lp (.slice A0 d.length c0) (pu_move rfl) ?_
  refine lp (iv (i:Int)) (pu_move rfl) ?_
  refine lex.pure (pu_slice_l (a:=(i:Int)) underlying43 sizeOf23 rfl rfl ⟨by omega,by omega⟩) ?_
  refine lex.nil (hK2 _ _ ?_)
  refine Wc.seq fun _ hK3=>Wc.region (by decide+kernel) ?_
  refine lp (.slice A2 c.length c2) (pu_move rfl) ?_
  refine lp (iv (c.length:Int)) (pu_len (A:=A2) (n:=c.length) (m:=c2) underlying43 rfl) ?_
  refine lp (iv (c.length:Int)) (pu_assign rfl) ?_
  refine lex.nil (hK3 _ _ ?_)
  refine Wc.seq fun _ hK4=>Wc.seq fun _ hK5=>Wc.region (by decide+kernel) ?_
  refine lp (iv (c.length:Int)) (pu_move rfl) ?_
  refine lp (.bool (decide ((c.length:Int)=0))) (pu_eql rfl rfl) ?_
  refine lex.nil (hK5 _ _ ?_)
  refine Wc.cond (t:=decide ((c.length:Int)=0)) rfl (fun hq=>absurd (of_decide_eq_true hq) (by omega)) fun _=>Wc.skip (hK4 _ _ ?_)
  refine Wc.seq fun _ hK6=>Wc.region (by decide+kernel) ?_
  refine lp (.slice A0 d.length c0) (pu_move rfl) ?_
  refine lp (iv (d.length:Int)) (pu_len (A:=A0) (n:=d.length) (m:=c0) underlying43 rfl) ?_
  refine lp (iv (d.length:Int)) (pu_assign rfl) ?_
  refine lex.nil (hK6 _ _ ?_)
  refine Wc.seq fun _ hK7=>Wc.seq fun _ hK8=>Wc.region (by decide+kernel) ?_
  refine lp (iv (i:Int)) (pu_move rfl) ?_
  refine lp (iv (d.length:Int)) (pu_move rfl) ?_
  refine lp (.bool (decide ((i:Int)=(d.length:Int)))) (pu_eql rfl rfl) ?_
  refine lex.nil (hK8 _ _ ?_)
  refine Wc.cond (t:=decide ((i:Int)=(d.length:Int))) rfl (fun hq=>?_) fun hq=>Wc.skip (hK7 _ _ ?_)
  · -- at the end
    have hin:i=d.length:=by have:=of_decide_eq_true hq; omega
    refine Wc.seq fun K9 hK9=>Wc.region (by decide+kernel) ?_
    refine lp (.slice A0 d.length c0) (pu_move rfl) ?_
    refine lp (.slice A2 c.length c2) (pu_move rfl) ?_
    refine lex.op (hC.app (i:=0) (s:=(.pr si (.pr si si))) (xs:=d) (ys:=c) (m:=c.length) rfl underlying43 underlying43 type23 rfl rfl rfl (hC.srco (i:=1) rfl) rfl rfl (by omega) (by decide)) ?_
    rintro _ w1 ⟨A1,c1,rfl,hl1,hc1,hC,hF,hN⟩
    refine lp (.slice A1 ((d++c).length) c1) (pu_assign rfl) ?_
    refine lex.nil (hK9 _ _ ?_)
    refine Wc.ret (hKR _ _ ?_)
    have hr:d++c=r:=by rw [←hb,hin,List.take_length,List.drop_length,List.append_nil]
    rw [←hr]
    exact ⟨_,res1 results35 (tV (.slice A1 ((d++c).length) c1) rfl),_,rfl,A1,_,c1,rfl,hC.sE [0]⟩
  have hin:i<d.length:=by have:=of_decide_eq_false hq; omega
  have hown:Own (O0++blocks [.own 23 (.pr si (.pr si si)) (.slice A0 d.length c0) d,.own 23 (.pr si (.pr si si)) (.slice A2 c.length c2) c]) w 23 (.pr si (.pr si si)) (.slice A0 d.length c0) d (blkOf (.slice A0 d.length c0)):=hC.at_ (i:=0) rfl
  have hown2:Own (O0++blocks [.own 23 (.pr si (.pr si si)) (.slice A0 d.length c0) d,.own 23 (.pr si (.pr si si)) (.slice A2 c.length c2) c]) w 23 (.pr si (.pr si si)) (.slice A2 c.length c2) c (blkOf (.slice A2 c.length c2)):=hC.at_ (i:=1) rfl
  obtain ⟨g,o,rfl⟩: ∃g o,A0=some ⟨g,o,none⟩:=by
    obtain ⟨cs,h1,_⟩:=hown
    rcases h1.2 with ⟨_,h0,_⟩ | ⟨g,o,cap,cur,h0,_⟩
    · omega
    · injection h0 with h0 _ _
      exact ⟨g,o,h0⟩
  obtain ⟨vb,voff,rfl⟩: ∃g o,A2=some ⟨g,o,none⟩:=by
    obtain ⟨cs,h1,_⟩:=hown2
    rcases h1.2 with ⟨_,h0,_⟩ | ⟨g,o,cap,cur,h0,_⟩
    · omega
    · injection h0 with h0 _ _
      exact ⟨g,o,h0⟩
  have hbl:blocks [.own 23 (.pr si (.pr si si)) (.slice (some ⟨g,o,none⟩) d.length c0) d,.own 23 (.pr si (.pr si si)) (.slice (some ⟨vb,voff,none⟩) c.length c2) c]=[g,vb]:=rfl
  have hne:vb≠g:=fun e=>by
    have:=hC.nd
    rw [hbl,e] at this
    simp at this
  have hgw:g<w.heap.size:=hC.lt g (by rw [hbl]; simp)
  rw [hbl] at hown hown2
  have hc63:c0≤9223372036854775807:=by
    obtain ⟨cs,h1,_⟩:=hown
    rcases h1.2 with ⟨h0,_,_⟩ | ⟨_,_,cap,cur,h0,_,_,_,hm,_⟩
    · cases h0
    · cases h0; exact hm
  refine Wc.seq fun K9 hK9=>Wc.seq fun _ hK10=>Wc.region (by decide+kernel) ?_
  refine lp (iv (d.length:Int)) (pu_move rfl) ?_
  refine lp (iv (c.length:Int)) (pu_move rfl) ?_
  refine lp (iv ((d.length:Int)+(c.length:Int))) (pu_add rfl rfl (by unfold I64; omega)) ?_
  refine lp (.slice (some ⟨g,o,none⟩) d.length c0) (pu_move rfl) ?_
  refine lp (iv (c0:Int)) (pu_cap (A:=some ⟨g,o,none⟩) (n:=d.length) (m:=c0) underlying43 rfl) ?_
  refine lp (.bool (decide ((c0:Int)<(d.length:Int)+(c.length:Int)))) (pu_gtr rfl rfl) ?_
  refine lex.nil (hK10 _ _ ?_)
  refine Wc.cond (t:=decide ((c0:Int)<(d.length:Int)+(c.length:Int))) rfl (fun hq2=>?_) fun hq2=>Wc.skip (hK9 _ _ ?_)
  · -- no room
    have hroom:c0<d.length+c.length:=by have:=of_decide_eq_true hq2; omega
    obtain ⟨cap,w1,w2,w4,a1,a2,a3,a4,a5,hfr,how⟩:=insP_grow (P:=prog) (tI:=3) underlying43 underlying3 type23 rfl rfl rfl (by decide) (s:=(.pr si (.pr si si))) (O':=O0++[w.heap.size]) hown hown2 hin hv0 hroom hlen (fun k hk=>by
      rcases List.mem_append.1 hk with hk | hk
      · exact .inl (List.mem_append_left _ hk)
      · exact .inr (by simp at hk; omega))
    refine Wc.seq fun K11 hK11=>Wc.region (by decide+kernel) ?_
    refine lp (.slice (some ⟨g,o,none⟩) d.length c0) (pu_move rfl) ?_
    refine lp (iv (i:Int)) (pu_move rfl) ?_
    refine lp (.slice (some ⟨g,o,none⟩) i c0) (sl_to (by omega) (by omega) underlying43 sizeOf23 rfl rfl) ?_
    refine lp (iv (d.length:Int)) (pu_move rfl) ?_
    refine lp (iv (c.length:Int)) (pu_move rfl) ?_
    refine lp (iv ((d.length:Int)+(c.length:Int))) (pu_add rfl rfl (by unfold I64; omega)) ?_
    refine lp (iv (i:Int)) (pu_move rfl) ?_
    refine lp (iv ((d.length:Int)+(c.length:Int)-(i:Int))) (pu_sub rfl rfl (by unfold I64; omega)) ?_
    refine lex.val (op_append rfl rfl (a1 _)) ?_
    refine lp (.slice (some ⟨w.heap.size,0,none⟩) (d.length+c.length) cap) (pu_assign rfl) ?_
    refine lex.nil (hK11 _ _ ?_)
    refine Wc.seq fun K12 hK12=>Wc.region (by decide+kernel) ?_
    refine lp (.slice (some ⟨w.heap.size,0,none⟩) (d.length+c.length) cap) (pu_move rfl) ?_
    refine lp (iv (i:Int)) (pu_move rfl) ?_
    refine lp (.slice (some ⟨w.heap.size,i*Sh.n (.pr si (.pr si si)),none⟩) (d.length+c.length-i) (cap-i)) (sl_from (by omega) (by omega) underlying43 sizeOf23 rfl rfl (by simp [Sh.n])) ?_
    refine lp (.slice (some ⟨vb,voff,none⟩) c.length c2) (pu_move rfl) ?_
    refine lex.val (op_copy rfl rfl (a4 _ _)) ?_
    refine lex.nil (hK12 _ _ ?_)
    refine Wc.seq fun K13 hK13=>Wc.regionMix [] (fun _=>⟨[],fun _=>True,fun _=>True,fun _ h=>h⟩) (fun _=>rfl) mixed (by decide+kernel) (by decide+kernel) fun w80 hw79=>?_
    subst hw79
    refine mp (.slice (some ⟨w.heap.size,0,none⟩) (d.length+c.length) cap) (pu_move rfl) ?_
    refine mp (iv (i:Int)) (pu_move rfl) ?_
    refine mp (iv (c.length:Int)) (pu_move rfl) ?_
    refine mp (iv ((i:Int)+(c.length:Int))) (pu_add rfl rfl (by unfold I64; omega)) ?_
    refine mp (.slice (some ⟨w.heap.size,(i+c.length)*Sh.n (.pr si (.pr si si)),none⟩) (d.length+c.length-(i+c.length)) (cap-(i+c.length))) (sl_from (a:=i+c.length) (by omega) (by omega) underlying43 sizeOf23 rfl (show _=Value.int .i64 ((i+c.length:Nat):Int) from by rw [Int.natCast_add]; rfl) (by simp [Sh.n])) ?_
    refine mp (.slice (some ⟨g,o,none⟩) d.length c0) (pu_move rfl) ?_
    refine mp (iv (i:Int)) (pu_move rfl) ?_
    refine mp (.slice (some ⟨g,o+i*Sh.n (.pr si (.pr si si)),none⟩) (d.length-i) (c0-i)) (sl_from (by omega) (by omega) underlying43 sizeOf23 rfl rfl (by simp [Sh.n])) ?_
    refine mixE.soft trivial (op_copy rfl rfl (a5 _ _ _)) trivial ?_
    refine mixE.nil (hK13 _ _ ?_)
    refine Wc.seq fun K14 hK14=>Wc.region (by decide+kernel) ?_
    refine lp (.slice (some ⟨w.heap.size,0,none⟩) (d.length+c.length) cap) (pu_move rfl) ?_
    refine lp (.slice (some ⟨w.heap.size,0,none⟩) (d.length+c.length) cap) (pu_assign rfl) ?_
    refine lex.nil (hK14 _ _ ?_)
    refine Wc.ret (hKR _ _ ?_)
    refine ⟨_,res1 results35 (tV (.slice (some ⟨w.heap.size,0,none⟩) (d.length+c.length) cap) rfl),_,rfl,some ⟨w.heap.size,0,none⟩,_,cap,rfl,?_⟩
    rw [hb] at how
    refine ⟨hfr.mono (fun _ _ h=>h.elim),hO,by simp [blocks,Fact.blk,blkOf],fun k hk=>?_,fun f hm=>?_⟩
    · simp [blocks,Fact.blk,blkOf] at hk
      exact .inl (by omega)
    · simp at hm
      subst hm
      exact how
  · -- room
    have hroom:d.length+c.length≤c0:=by have:=of_decide_eq_false hq2; omega
    obtain ⟨w2,w3,⟨tA,kA,tB,kB,b1,b2,b3,b4,b5⟩,a4,a5,hfr,how⟩:=insP_room (P:=prog) (tS:=43) underlying43 type23 rfl (s:=(.pr si (.pr si si))) (O':=O0++[g]) hown hown2 hne (by simp) hin hv0 hroom (fun k hk=>by
      rcases List.mem_append.1 hk with hk | hk
      · exact .inl (List.mem_append_left _ hk)
      · exact .inl (by simp at hk; simp [hk]))
    refine Wc.seq fun K11 hK11=>Wc.region (by decide+kernel) ?_
    refine lp (.slice (some ⟨g,o,none⟩) d.length c0) (pu_move rfl) ?_
    refine lp (iv (d.length:Int)) (pu_move rfl) ?_
    refine lp (iv (c.length:Int)) (pu_move rfl) ?_
    refine lp (iv ((d.length:Int)+(c.length:Int))) (pu_add rfl rfl (by unfold I64; omega)) ?_
    refine lp (.slice (some ⟨g,o,none⟩) (d.length+c.length) c0) (sl_to (b:=d.length+c.length) (by omega) (by omega) underlying43 sizeOf23 rfl (show _=Value.int .i64 ((d.length+c.length:Nat):Int) from by rw [Int.natCast_add]; rfl)) ?_
    refine lp (.slice (some ⟨g,o,none⟩) (d.length+c.length) c0) (pu_assign rfl) ?_
    refine lex.nil (hK11 _ _ ?_)
    refine Wc.seq fun K12 hK12=>Wc.seq fun K13 hK13=>Wc.region (by decide+kernel) ?_
    refine lp (.slice (some ⟨vb,voff,none⟩) c.length c2) (pu_move rfl) ?_
    refine lp (.slice (some ⟨g,o,none⟩) (d.length+c.length) c0) (pu_move rfl) ?_
    refine lp (iv (i:Int)) (pu_move rfl) ?_
    refine lp (iv (c.length:Int)) (pu_move rfl) ?_
    refine lp (iv ((i:Int)+(c.length:Int))) (pu_add rfl rfl (by unfold I64; omega)) ?_
    refine lp (.slice (some ⟨g,o+(i+c.length)*Sh.n (.pr si (.pr si si)),none⟩) (d.length+c.length-(i+c.length)) (c0-(i+c.length))) (sl_from (a:=i+c.length) (by omega) (by omega) underlying43 sizeOf23 rfl (show _=Value.int .i64 ((i+c.length:Nat):Int) from by rw [Int.natCast_add]; rfl) (by simp [Sh.n])) ?_
    refine lex.val (op_extern (f:=74) (vs:=[.slice (some ⟨vb,voff,none⟩) c.length c2,.slice (some ⟨g,o+(i+c.length)*Sh.n (.pr si (.pr si si)),none⟩) (d.length+c.length-(i+c.length)) (c0-(i+c.length))]) (v:=.bool false) (w':=w) (by
      rw [run_callFunc_extern func74 (by kernel_rfl) (by kernel_rfl) (by kernel_rfl) (e:=Extern.SlicesOverlaps.overlaps #[43,43] #[4]) (by kernel_rfl),Lib.run_overlaps_apart w 43 4 23 underlying43 _ sizeOf23 ⟨vb,voff,none⟩ ⟨g,o+(i+c.length)*Sh.n (.pr si (.pr si si)),none⟩ c.length c2 (d.length+c.length-(i+c.length)) (c0-(i+c.length)) hne tA tB kA kB b1 b2 b3 b4 b5]
      rfl) rfl rfl rfl) ?_
    refine lp (.bool true) (pu_not (q:=false) rfl) ?_
    refine lex.nil (hK13 _ _ ?_)
    refine Wc.cond (t:=true) rfl (fun _=>?_) fun h=>by cases h
    refine Wc.seq fun K14 hK14=>Wc.regionMix [] (fun _=>⟨[],fun _=>True,fun _=>True,fun _ h=>h⟩) (fun _=>rfl) mixed (by decide+kernel) (by decide+kernel) fun w80 hw79=>?_
    subst hw79
    refine mp (.slice (some ⟨g,o,none⟩) (d.length+c.length) c0) (pu_move rfl) ?_
    refine mp (iv (i:Int)) (pu_move rfl) ?_
    refine mp (iv (c.length:Int)) (pu_move rfl) ?_
    refine mp (iv ((i:Int)+(c.length:Int))) (pu_add rfl rfl (by unfold I64; omega)) ?_
    refine mp (.slice (some ⟨g,o+(i+c.length)*Sh.n (.pr si (.pr si si)),none⟩) (d.length+c.length-(i+c.length)) (c0-(i+c.length))) (sl_from (a:=i+c.length) (by omega) (by omega) underlying43 sizeOf23 rfl (show _=Value.int .i64 ((i+c.length:Nat):Int) from by rw [Int.natCast_add]; rfl) (by simp [Sh.n])) ?_
    refine mp (.slice (some ⟨g,o,none⟩) (d.length+c.length) c0) (pu_move rfl) ?_
    refine mp (iv (i:Int)) (pu_move rfl) ?_
    refine mp (.slice (some ⟨g,o+i*Sh.n (.pr si (.pr si si)),none⟩) (d.length+c.length-i) (c0-i)) (sl_from (by omega) (by omega) underlying43 sizeOf23 rfl rfl (by simp [Sh.n])) ?_
    refine mixE.soft trivial (op_copy rfl rfl (a4 _ _ _)) trivial ?_
    refine mixE.nil (hK14 _ _ ?_)
    refine Wc.seq fun _ hK15=>Wc.region (by decide+kernel) ?_
    refine lp (.slice (some ⟨g,o,none⟩) (d.length+c.length) c0) (pu_move rfl) ?_
    refine lp (iv (i:Int)) (pu_move rfl) ?_
    refine lp (.slice (some ⟨g,o+i*Sh.n (.pr si (.pr si si)),none⟩) (d.length+c.length-i) (c0-i)) (sl_from (by omega) (by omega) underlying43 sizeOf23 rfl rfl (by simp [Sh.n])) ?_
    refine lp (.slice (some ⟨vb,voff,none⟩) c.length c2) (pu_move rfl) ?_
    refine lex.val (op_copy rfl rfl (a5 _ _)) ?_
    refine lex.nil (hK15 _ _ ?_)
    refine Wc.seq fun _ hK16=>Wc.region (by decide+kernel) ?_
    refine lp (.slice (some ⟨g,o,none⟩) (d.length+c.length) c0) (pu_move rfl) ?_
    refine lp (.slice (some ⟨g,o,none⟩) (d.length+c.length) c0) (pu_assign rfl) ?_
    refine lex.nil (hK16 _ _ ?_)
    refine Wc.ret (hKR _ _ ?_)
    refine ⟨_,res1 results35 (tV (.slice (some ⟨g,o,none⟩) (d.length+c.length) c0) rfl),_,rfl,some ⟨g,o,none⟩,_,c0,rfl,?_⟩
    rw [hb] at how
    refine ⟨hfr.mono (fun k _ h=>by rw [hbl]; simp [h]),hO,by simp [blocks,Fact.blk,blkOf],fun k hk=>?_,fun f hm=>?_⟩
    · simp [blocks,Fact.blk,blkOf] at hk
      exact .inr (by rw [hbl]; simp [hk])
    · simp at hm
      subst hm
      exact how

theorem slices_Equal_Point_Point_ok (n:Nat) {w:World} {O0:List Nat} (hO: ∀k∈O0,k<w.heap.size) {g:Option Addr} {q h:Nat} {d:List (Int×(Int×Int))} (s:Rep O0 w (.sl (.pr si (.pr si si))) [.slice g q h] d) {l:Option Addr} {x o:Nat} {f:List (Int×(Int×Int))} (y:Rep O0 w (.sl (.pr si (.pr si si))) [.slice l x o] f) {r:Bool} (hb:F.slices_Equal_Point_Point n d f=some r):
    Calls prog 38 #[.slice g q h,.slice l x o] w fun e w'=> ∃v,e=.returned v∧v=.bool r∧Cx (fun _=>False) O0 w w' []:=by
 unfold F.slices_Equal_Point_Point at hb
 have hC:=Cx.start hO
 replace hC:=hC.arg rfl s
 replace hC:=hC.arg rfl y
 clear hO
 obtain ⟨rfl,z,B⟩:=s.sl_len
 obtain ⟨rfl,C,D⟩:=y.sl_len
 refine calls_of_Wc func38 rfl (by rw [ntmps38]; exact nb rfl) fun KR hKR=>?_
 refine Wc.seq fun _ hK3=>rg<|lp (.bool false) (pu_assign rfl)<|ln (hK3 _ _ ?_)
 refine Wc.seq fun _ hK4=>?_
 refine Wc.seq fun _ hK5=>rg<|lp (.slice g d.length h) (pu_move rfl)<|lp (iv (d.length:Int)) (pu_len (A:=g) (n:=d.length) (m:=h) underlying43 rfl)<|lp (.slice l f.length o) (pu_move rfl)<|lp (iv (f.length:Int)) (pu_len (A:=l) (n:=f.length) (m:=o) underlying43 rfl)<|lp (.bool (!(decide ((d.length:Int)=(f.length:Int))))) (pu_neq (k:=.i64) (a:=(d.length:Int)) (b:=(f.length:Int)) rfl rfl)<|ln (hK5 _ _ ?_)
 refine Wc.cond (t:=(!(decide ((d.length:Int)=(f.length:Int))))) (rfl) (fun hq6=>?_) (fun hq6=>?_)
 replace hb:=tt hq6 hb
 refine Wc.seq fun _ hK7=>rg<|lp (.bool false) (pu_assign rfl)<|ln (hK7 _ _ ?_)
 obtain rfl:=os hb
 refine Wc.ret (hKR _ _ ?_)
 refine ⟨_,res1 results38 (tV (.bool false) rfl),_,rfl,rfl,hC.sE []⟩
 replace hb:=tf hq6 hb
 refine Wc.skip (hK4 _ _ ?_)
 refine Wc.seq fun _ hK8=>?_
 refine Wc.seq fun _ hK9=>rg<|lp (.slice g d.length h) (pu_move rfl)<|lp (iv (d.length:Int)) (pu_len (A:=g) (n:=d.length) (m:=h) underlying43 rfl)<|lp (iv 0) (pu_move rfl)<|ln (hK9 _ _ ?_)
 obtain ⟨o10,hl0,hb⟩:=bd hb
 refine Wc.cut (fun E wv=> ∃(c:Int),E 4=.bool false∧I64 c∧Cx (fun _=>False) O0 w wv []∧(some true:Option (Bool))=some r) (fun _ hK11=>?_) ?_
 refine Wc.block ?_
 refine Wc.loop (fun m E wv=> ∃(c:Int),E 0=.slice g d.length h∧E 1=.slice l f.length o∧E 4=.bool false∧E 12=iv (d.length:Int)∧E 13=iv c∧I64 c∧Cx (fun _=>False) O0 w wv [.ro (.sl (.pr si (.pr si si))) [.slice g d.length h] d,.ro (.sl (.pr si (.pr si si))) [.slice l f.length o] f]∧loopN m (F.slices_Equal_Point_Point_b0 n d f) c=some o10) n ⟨0,rfl,rfl,rfl,rfl,rfl,(show I64 0 from by unfold I64; omega),hC.sE [1,0],hl0⟩ ?_
 have hbK0:=hb
 clear hb hC hl0
 rintro m13 E15 w14 ⟨c,e0,e1,e4,e12,e13,p,hC,hl0⟩ K12 hK12
 obtain ⟨m13',o16,rfl,hb,hl0⟩:=loopN_some hl0
 unfold F.slices_Equal_Point_Point_b0 at hb
 refine Wc.seq fun _ hK17=>rg<|lp _ (pu_lss e13 e12)<|ln (hK17 _ _ ?_)
 refine Wc.seq fun _ hK18=>?_
 refine Wc.cond (t:=(decide (c<(d.length:Int)))) (rfl) (fun hq19=>?_) (fun hq19=>?_)
 replace hb:=tt hq19 hb
 refine Wc.skip (hK18 _ _ ?_)
 refine Wc.seq fun _ hK20=>?_
 refine Wc.block<|Wc.seq fun _ hK21=>rg<|lp _ (pu_move e13)<|lp (iv c) (pu_assign rfl)<|ln (hK21 _ _ ?_)
 refine Wc.seq fun _ hK22=>?_
 refine Wc.regionMix [] (frm [] ([]:List Fact) ([]:List Fact)) (fun _=>rfl) mixed (by decide+kernel) (by decide+kernel) fun w24 hw23=>?_
 replace hC:=hC.step (Fr.of_drew hw23)
 have hM:=Fr.refl (fun k=>k∈blocks ([]:List Fact)) w24
 clear hw23
 have hS:=hC
 refine mp (.slice g d.length h) (pu_move e0)<|mp (iv c) (pu_move rfl) ?_
 obtain ⟨x25,h26,hb⟩:=bd hb
 obtain ⟨ad27,cs28,hA,ho31,hc29,hr30⟩:=hS.elr2 (i:=0) rfl (get_some h26).2 []
 subst hA
 refine mp (.pointer (some (ad27.add (c.toNat*3)))) (pu_index (a:=c) underlying43 sizeOf23 rfl rfl (get_some h26).1) ?_
 obtain ⟨k32,k33,rfl,hr34,hr35⟩:=hr30
 obtain ⟨rfl,hr34⟩:=hr34
 obtain ⟨k36,k37,rfl,hr38,hr39⟩:=hr35
 obtain ⟨rfl,hr38⟩:=hr38
 obtain ⟨rfl,hr39⟩:=hr39
 refine mixE.load hM (v:=.agg #[iv x25.1,iv x25.2.1,iv x25.2.2]) (fun _ hF=>ld_agg isAgg23 sizeOf23 rfl rfl (fun j u hu=>hF.cell (hc29 j u hu) (off2 ho31)))<|mp (.slice l f.length o) (pu_move e1)<|mp (iv c) (pu_move rfl) ?_
 obtain ⟨x40,h41,hb⟩:=bd hb
 obtain ⟨ad42,cs43,hA,ho46,hc44,hr45⟩:=hS.elr2 (i:=1) rfl (get_some h41).2 []
 subst hA
 refine mp (.pointer (some (ad42.add (c.toNat*3)))) (pu_index (a:=c) underlying43 sizeOf23 rfl rfl (get_some h41).1) ?_
 obtain ⟨k47,k48,rfl,hr49,hr50⟩:=hr45
 obtain ⟨rfl,hr49⟩:=hr49
 obtain ⟨k51,k52,rfl,hr53,hr54⟩:=hr50
 obtain ⟨rfl,hr53⟩:=hr53
 obtain ⟨rfl,hr54⟩:=hr54
 refine mixE.load hM (v:=.agg #[iv x40.1,iv x40.2.1,iv x40.2.2]) (fun _ hF=>ld_agg isAgg23 sizeOf23 rfl rfl (fun j u hu=>hF.cell (hc44 j u hu) (off2 ho46)))<|mp (.bool (!(decide (x25.1=x40.1)&&(decide (x25.2.1=x40.2.1)&&(decide (x25.2.2=x40.2.2)&&true))))) (pu_neqs underlying23 (by kernel_rfl) (by kernel_rfl) rfl rfl (eqF_cons (by decide) underlying3 isAgg3 rfl rfl (eqF_cons (by decide) underlying3 isAgg3 rfl rfl (eqF_cons (by decide) underlying3 isAgg3 rfl rfl eqF_nil))))<|mixE.nil ?_
 clear hS hM
 refine hK22 _ _<|Wc.cond (t:=(!(decide (x25.1=x40.1)&&(decide (x25.2.1=x40.2.1)&&(decide (x25.2.2=x40.2.2)&&true))))) (rfl) (fun hq55=>?_) (fun hq55=>?_)
 replace hb:=tt hq55 hb
 refine Wc.seq fun _ hK56=>rg<|lp (.bool false) (pu_assign rfl)<|ln (hK56 _ _ ?_)
 obtain rfl:=os hb
 obtain rfl:=(lX hl0).symm
 replace hb:=hbK0
 obtain rfl:=os hb
 refine Wc.ret (hKR _ _ ?_)
 refine ⟨_,res1 results38 (tV (.bool false) rfl),_,rfl,rfl,hC.sE []⟩
 replace hb:=tf hq55 hb
 refine Wc.skip (hK20 _ _ ?_)
 refine rg ?_
 obtain ⟨z57,h58,hb⟩:=bd hb
 refine lp (iv z57) (pu_addc (a:=c) (b:=1) e13 rfl h58)<|lp (iv z57) (pu_move rfl)<|ln ?_
 obtain rfl:=os hb
 exact hK12 m13' _ _ (Nat.lt_succ_self _) ⟨z57,e0,e1,e4,e12,rfl,(chk_rng h58),hC.sE [0,1],lN hl0⟩
 replace hb:=tf hq19 hb
 refine Wc.exit rfl ?_
 obtain rfl:=os hb
 obtain rfl:=(lX hl0).symm
 exact hK11 _ _ ⟨c,e4,p,hC.sE [],hbK0⟩
 clear hb hC hl0
 rintro E60 w59 ⟨c,e4,p,hC,hb⟩
 refine hK8 _ _<|Wc.seq fun _ hK61=>rg<|lp (.bool true) (pu_assign rfl)<|ln (hK61 _ _ ?_)
 obtain rfl:=os hb
 refine Wc.ret (hKR _ _ ?_)
 refine ⟨_,res1 results38 (tV (.bool true) rfl),_,rfl,rfl,hC.sE []⟩
end Go.Proofs.Yteajmbanlohncaa
