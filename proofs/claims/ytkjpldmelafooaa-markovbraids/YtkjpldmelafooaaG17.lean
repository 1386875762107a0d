/- The walks: part 17. -/
import Derived.Test.YtkjpldmelafooaaS
import Derived.Test.YtkjpldmelafooaaG0
import Derived.Test.YtkjpldmelafooaaG3
import Derived.Test.YtkjpldmelafooaaG15
import Derived.Test.YtkjpldmelafooaaG16
set_option linter.unusedVariables false
set_option linter.unusedSimpArgs false
namespace Go.Proofs.Ytkjpldmelafooaa
open Ev
set_option maxRecDepth 100000 in
set_option maxHeartbeats 4000000 in
theorem artin_Act_ok (n : Nat) {w : World} {O0 : List Nat} (hO : ∀ k ∈ O0, k < w.heap.size) {b_0_0 : Int} (hb_0_0 : I64 b_0_0) {Ab_0_1 : Option Addr} {mb_0_1 cb_0_1 : Nat} {b_0_1 : List Int} (hb_0_1 : Rep O0 w (.sl (.int .i64)) [.slice Ab_0_1 mb_0_1 cb_0_1] b_0_1) {Awx_1 : Option Addr} {mwx_1 cwx_1 : Nat} {wx_1 : List Int} (hwx_1 : Rep O0 w (.sl (.int .i64)) [.slice Awx_1 mwx_1 cwx_1] wx_1) {r : (List Int) × Int} (hb : F.artin_Act n b_0_0 b_0_1 wx_1 = some r) :
    Calls Try.prog 62 #[.agg #[.int .i64 b_0_0, .slice Ab_0_1 mb_0_1 cb_0_1], .slice Awx_1 mwx_1 cwx_1] w fun e w' => ∃ v, e = .returned v ∧ ∃ (A0 : Option Addr) (m0 c0 : Nat), v = .tuple #[.slice A0 m0 c0, .int .i64 r.2] ∧ I64 r.2 ∧ Cx (fun _ => False) O0 w w' [.own 3 (.int .i64) (.slice A0 m0 c0) r.1] := by
  unfold F.artin_Act at hb
  have hC := Cx.start hO
  replace hC := hC.arg rfl hb_0_1
  replace hC := hC.arg rfl hwx_1
  clear hO
  obtain ⟨rfl, hlb_0_1, hcb_0_1⟩ := hb_0_1.sl_len
  obtain ⟨rfl, hlwx_1, hcwx_1⟩ := hwx_1.sl_len
  refine calls_of_Wc Try.func62 rfl (by rw [Try.ntmps62]; exact Nat.le_of_ble_eq_true rfl) fun KR hKR => ?_
  refine Wc.seq fun K3 hK3 => ?_
  refine Wc.region (by decide +kernel) ?_
  refine lex.op (hC.box (cs := [.int .i64 b_0_0, .slice Ab_0_1 b_0_1.length cb_0_1]) rfl rfl) ?_
  rintro _ w5 ⟨g4, rfl, hC, hF, hG⟩
  clear hG
  refine lex.pure (v := .slice none 0 0) (pu_assign rfl) ?_
  refine lex.pure (v := .int .i64 0) (pu_assign rfl) ?_
  refine lex.nil ?_
  refine hK3 _ _ ?_
  refine Wc.seq fun K7 hK7 => ?_
  refine Wc.seq fun K8 hK8 => ?_
  refine Wc.region (by decide +kernel) ?_
  refine lex.val (v := .agg #[.int .i64 b_0_0, .slice Ab_0_1 b_0_1.length cb_0_1]) (ld_blk (hC.bx (i := 0) rfl) Try.isAgg27 Try.sizeOf27 rfl) ?_
  obtain ⟨y9, h10, hb⟩ := bd hb
  refine lex.cl (⟨_, _, op_call (vs := [.agg #[.int .i64 b_0_0, .slice Ab_0_1 b_0_1.length cb_0_1]]) Try.call15 rfl rfl rfl, braid_Valid_ok n hC.lt hb_0_0 (hC.rd (i := 2) rfl) h10⟩) ?_
  rintro _ w11 ⟨rfl, hK⟩
  replace hC := hC.merge hK
  clear hK
  refine lex.pure (v := .bool (!y9)) (pu_not (q := y9) rfl) ?_
  refine lex.nil ?_
  refine hK8 _ _ ?_
  refine Wc.cond (t := (!y9)) (rfl) (fun hq12 => ?_) (fun hq12 => ?_)
  · replace hb := (cT hq12).symm.trans hb
    refine Wc.seq fun K13 hK13 => ?_
    refine Wc.region (by decide +kernel) ?_
    refine lex.pure (v := .slice none 0 0) (pu_assign rfl) ?_
    refine lex.pure (v := .int .i64 1) (pu_assign rfl) ?_
    refine lex.nil ?_
    refine hK13 _ _ ?_
    replace hC := hC.nil 3 (.int .i64)
    obtain rfl := Option.some.inj hb
    refine Wc.ret ?_
    refine hKR _ _ ?_
    refine ⟨_, res2 Try.results62 (show RV _ _ _ (.tmp _) (.slice none 0 0) from rfl) (show RV _ _ _ (.tmp _) (.int .i64 1) from rfl), _, rfl, none, 0, 0, rfl, (show I64 1 from by unfold I64; omega), hC.sel [0] (by decide)⟩
  · replace hb := (cF hq12).symm.trans hb
    refine Wc.skip ?_
    refine hK7 _ _ ?_
    refine Wc.seq fun K15 hK15 => ?_
    refine Wc.seq fun K16 hK16 => ?_
    refine Wc.region (by decide +kernel) ?_
    refine lex.pure (v := .slice Awx_1 wx_1.length cwx_1) (pu_move rfl) ?_
    refine lex.pure (v := .pointer (some ((⟨g4, 0, none⟩ : Addr).add 0))) (pu_field (sz := 1) Try.underlying27 rfl Try.sizeOf3 (by decide) rfl rfl) ?_
    refine lex.val (v := .int .i64 b_0_0) (ld_fld (hC.bx (i := 0) rfl) Try.isAgg3 rfl rfl) ?_
    obtain ⟨y17, h18, hb⟩ := bd hb
    refine lex.cl (⟨_, _, op_call (vs := [.slice Awx_1 wx_1.length cwx_1, .int .i64 b_0_0]) Try.call78 rfl rfl rfl, word_Valid_ok n hC.lt (hC.rd (i := 1) rfl) hb_0_0 h18⟩) ?_
    rintro _ w19 ⟨rfl, hK⟩
    replace hC := hC.merge hK
    clear hK
    refine lex.pure (v := .bool (!y17)) (pu_not (q := y17) rfl) ?_
    refine lex.nil ?_
    refine hK16 _ _ ?_
    refine Wc.fresh fun E20 hE => ?_
    have e1 : E20 1 = .slice Awx_1 wx_1.length cwx_1 := (congrFun hE 1).trans rfl
    have e2 : E20 2 = .pointer (some ⟨g4, 0, none⟩) := (congrFun hE 2).trans rfl
    have e4 : E20 4 = .slice none 0 0 := (congrFun hE 4).trans rfl
    have e5 : E20 5 = .int .i64 0 := (congrFun hE 5).trans rfl
    have e19 : E20 19 = .bool (!y17) := (congrFun hE 19).trans rfl
    clear hE
    refine Wc.cond (t := (!y17)) (e19) (fun hq21 => ?_) (fun hq21 => ?_)
    · replace hb := (cT hq21).symm.trans hb
      refine Wc.seq fun K22 hK22 => ?_
      refine Wc.region (by decide +kernel) ?_
      refine lex.pure (v := .slice none 0 0) (pu_assign rfl) ?_
      refine lex.pure (v := .int .i64 2) (pu_assign rfl) ?_
      refine lex.nil ?_
      refine hK22 _ _ ?_
      replace hC := hC.nil 3 (.int .i64)
      obtain rfl := Option.some.inj hb
      refine Wc.ret ?_
      refine hKR _ _ ?_
      refine ⟨_, res2 Try.results62 (show RV _ _ _ (.tmp _) (.slice none 0 0) from rfl) (show RV _ _ _ (.tmp _) (.int .i64 2) from rfl), _, rfl, none, 0, 0, rfl, (show I64 2 from by unfold I64; omega), hC.sel [0] (by decide)⟩
    · replace hb := (cF hq21).symm.trans hb
      refine Wc.skip ?_
      refine hK15 _ _ ?_
      refine Wc.seq fun K24 hK24 => ?_
      refine Wc.region (by decide +kernel) ?_
      refine lex.pure (v := .func (.func 79) #[] #[.pointer (some ⟨g4, 0, none⟩)]) (pu_funcc (map_of (m2_cons e2 m2_nil))) ?_
      refine lex.pure (v := .func (.func 79) #[] #[.pointer (some ⟨g4, 0, none⟩)]) (pu_assign rfl) ?_
      refine lex.nil ?_
      refine hK24 _ _ ?_
      refine Wc.seq fun K25 hK25 => ?_
      refine Wc.region (by decide +kernel) ?_
      refine lex.pure (v := .slice Awx_1 wx_1.length cwx_1) (pu_move e1) ?_
      obtain ⟨y26, h27, hb⟩ := bd hb
      refine lex.cl (⟨_, _, op_call (vs := [.slice Awx_1 wx_1.length cwx_1]) Try.call80 rfl rfl rfl, word_Reduce_ok n hC.lt (hC.rd (i := 1) rfl) h27⟩) ?_
      rintro _ w32 ⟨A28, m29, c30, rfl, hK⟩
      replace hC := hC.merge hK
      clear hK
      obtain ⟨rfl, hl33, hc34⟩ := (hC.ow (i := 0) rfl).sl_len
      refine lex.pure (v := .slice A28 y26.length c30) (pu_assign rfl) ?_
      refine lex.nil ?_
      refine hK25 _ _ ?_
      refine Wc.seq fun K35 hK35 => ?_
      refine Wc.seq fun K36 hK36 => ?_
      refine Wc.region (by decide +kernel) ?_
      refine lex.pure (v := .slice A28 y26.length c30) (pu_move rfl) ?_
      refine lex.pure (v := .int .i64 (y26.length : Int)) (pu_len (A := A28) (n := y26.length) (m := c30) Try.underlying82 rfl) ?_
      refine lex.pure (v := .bool (decide (20000 < (y26.length : Int)))) (pu_gtr (k := .i64) (a := (y26.length : Int)) (b := 20000) rfl rfl) ?_
      refine lex.nil ?_
      refine hK36 _ _ ?_
      refine Wc.cond (t := (decide (20000 < (y26.length : Int)))) (rfl) (fun hq37 => ?_) (fun hq37 => ?_)
      · replace hb := (cT hq37).symm.trans hb
        refine Wc.seq fun K38 hK38 => ?_
        refine Wc.region (by decide +kernel) ?_
        refine lex.pure (v := .slice none 0 0) (pu_assign rfl) ?_
        refine lex.pure (v := .int .i64 5) (pu_assign rfl) ?_
        refine lex.nil ?_
        refine hK38 _ _ ?_
        replace hC := hC.nil 3 (.int .i64)
        obtain rfl := Option.some.inj hb
        refine Wc.ret ?_
        refine hKR _ _ ?_
        refine ⟨_, res2 Try.results62 (show RV _ _ _ (.tmp _) (.slice none 0 0) from rfl) (show RV _ _ _ (.tmp _) (.int .i64 5) from rfl), _, rfl, none, 0, 0, rfl, (show I64 5 from by unfold I64; omega), hC.sel [0] (by decide)⟩
      · replace hb := (cF hq37).symm.trans hb
        refine Wc.skip ?_
        refine hK35 _ _ ?_
        refine Wc.seq fun K40 hK40 => ?_
        refine Wc.seq fun K41 hK41 => ?_
        refine Wc.region (by decide +kernel) ?_
        refine lex.pure (v := .pointer (some ((⟨g4, 0, none⟩ : Addr).add 1))) (pu_field (sz := 1) Try.underlying27 rfl Try.sizeOf22 (by decide) rfl e2) ?_
        refine lex.val (v := .slice Ab_0_1 b_0_1.length cb_0_1) (ld_fld (hC.bx (i := 1) rfl) Try.isAgg22 rfl rfl) ?_
        refine lex.pure (v := .int .i64 (b_0_1.length : Int)) (pu_len (A := Ab_0_1) (n := b_0_1.length) (m := cb_0_1) Try.underlying22 rfl) ?_
        refine lex.pure (v := .int .i64 0) (pu_move rfl) ?_
        refine lex.nil ?_
        refine hK41 _ _ ?_
        refine Wc.fresh fun E42 hE => ?_
        have e4 : E42 4 = .slice none 0 0 := (congrFun hE 4).trans e4
        have e5 : E42 5 = .int .i64 0 := (congrFun hE 5).trans e5
        have e6 : E42 6 = .func (.func 79) #[] #[.pointer (some ⟨g4, 0, none⟩)] := (congrFun hE 6).trans rfl
        have e7 : E42 7 = .slice A28 y26.length c30 := (congrFun hE 7).trans rfl
        have e27 : E42 27 = .slice Ab_0_1 b_0_1.length cb_0_1 := (congrFun hE 27).trans rfl
        have e28 : E42 28 = .int .i64 (b_0_1.length : Int) := (congrFun hE 28).trans rfl
        have e29 : E42 29 = .int .i64 0 := (congrFun hE 29).trans rfl
        clear hE
        obtain ⟨o43, hl0, hb⟩ := bd hb
        refine Wc.cut (fun E wv => ∃ (l7_0 : List Int) (v29_0 : Int) (Al7_0 : Option Addr) (ml7_0 cl7_0 : Nat), E 4 = .slice none 0 0 ∧ E 5 = .int .i64 0 ∧ E 7 = .slice Al7_0 ml7_0 cl7_0 ∧ I64 v29_0 ∧ Cx (fun _ => False) O0 w wv [.own 3 (.int .i64) (.slice Al7_0 ml7_0 cl7_0) l7_0] ∧ (some (l7_0, 0) : Option ((List Int) × Int)) = some r) (fun K44 hK44 => ?_) ?_
        · refine Wc.block ?_
          refine Wc.loop (fun m E wv => ∃ (l7_0 : List Int) (v29_0 : Int) (Al7_0 : Option Addr) (ml7_0 cl7_0 : Nat), E 4 = .slice none 0 0 ∧ E 5 = .int .i64 0 ∧ E 6 = .func (.func 79) #[] #[.pointer (some ⟨g4, 0, none⟩)] ∧ E 7 = .slice Al7_0 ml7_0 cl7_0 ∧ E 27 = .slice Ab_0_1 b_0_1.length cb_0_1 ∧ E 28 = .int .i64 (b_0_1.length : Int) ∧ E 29 = .int .i64 v29_0 ∧ I64 v29_0 ∧ Cx (fun _ => False) O0 w wv [.box g4 27 [.int .i64 b_0_0, .slice Ab_0_1 b_0_1.length cb_0_1], .ro (.sl (.int .i64)) [.slice Ab_0_1 b_0_1.length cb_0_1] b_0_1, .own 3 (.int .i64) (.slice Al7_0 ml7_0 cl7_0) l7_0] ∧ loopN m (F.artin_Act_b0 n b_0_0 b_0_1) (l7_0, v29_0) = some o43) n ⟨y26, 0, A28, y26.length, c30, e4, e5, e6, e7, e27, e28, e29, (show I64 0 from by unfold I64; omega), hC.sel [1, 3, 0] (by decide), hl0⟩ ?_
          have hbK0 := hb
          clear hb hC hl0
          rintro m46 E48 w47 ⟨l7_0, v29_0, Al7_0, ml7_0, cl7_0, e4, e5, e6, e7, e27, e28, e29, hrv29_0, hC, hl0⟩ K45 hK45
          obtain ⟨m46', o49, rfl, hb, hl0⟩ := loopN_some hl0
          unfold F.artin_Act_b0 at hb
          obtain ⟨rfl, hll7_0, hcl7_0⟩ := (hC.ow (i := 2) rfl).sl_len
          refine Wc.seq fun K50 hK50 => ?_
          refine Wc.region (by decide +kernel) ?_
          refine lex.pure (v := .bool (decide (v29_0 < (b_0_1.length : Int)))) (pu_lss (k := .i64) (a := v29_0) (b := (b_0_1.length : Int)) e29 e28) ?_
          refine lex.nil ?_
          refine hK50 _ _ ?_
          refine Wc.seq fun K51 hK51 => ?_
          refine Wc.cond (t := (decide (v29_0 < (b_0_1.length : Int)))) (rfl) (fun hq52 => ?_) (fun hq52 => ?_)
          · replace hb := (cT hq52).symm.trans hb
            refine Wc.skip ?_
            refine hK51 _ _ ?_
            refine Wc.seq fun K53 hK53 => ?_
            refine Wc.block ?_
            refine Wc.seq fun K54 hK54 => ?_
            refine Wc.region (by decide +kernel) ?_
            obtain ⟨x55, h56, hb⟩ := bd hb
            obtain ⟨ad57, cs58, hA, hc59, hr60⟩ := hC.elr (i := 1) rfl (get_some h56).2
            subst hA
            refine lex.pure (v := .pointer (some (ad57.add (v29_0.toNat * 1)))) (pu_index (a := v29_0) Try.underlying22 Try.sizeOf3 e27 e29 (get_some h56).1) ?_
            obtain ⟨rfl, hr60'⟩ := hr60
            refine lex.val (v := .int .i64 x55) (ld_one Try.isAgg3 rfl (hc59 0 _ rfl)) ?_
            refine lex.pure (v := .int .i64 x55) (pu_assign rfl) ?_
            refine lex.nil ?_
            refine hK54 _ _ ?_
            refine Wc.seq fun K61 hK61 => ?_
            refine Wc.region (by decide +kernel) ?_
            refine lex.pure (v := .slice Al7_0 l7_0.length cl7_0) (pu_move e7) ?_
            refine lex.pure (v := .func (.func 79) #[] #[.pointer (some ⟨g4, 0, none⟩)]) (pu_move e6) ?_
            refine lex.pure (v := .int .i64 x55) (pu_move rfl) ?_
            replace hC : Cx (fun _ => False) O0 w w47 ([.box g4 27 [.int .i64 b_0_0, .slice (some ad57) b_0_1.length cb_0_1]] ++ [.ro (.sl (.int .i64)) [.slice (some ad57) b_0_1.length cb_0_1] b_0_1, .own 3 (.int .i64) (.slice Al7_0 l7_0.length cl7_0) l7_0]) := hC.sel [0, 1, 2] (by decide)
            obtain ⟨y62, h63, hb⟩ := bd hb
            refine lex.cl (⟨_, _, op_callv (vs := [.int .i64 x55, .pointer (some ⟨g4, 0, none⟩)]) (ca := #[.pointer (some ⟨g4, 0, none⟩)]) Try.call79 rfl rfl rfl, artin_Act_c1_ok n hC.lt (wrap_I64 hr60') hb_0_0 (hC.rd (i := 1) rfl) hC.give h63⟩) ?_
            rintro _ w68 ⟨A64, m65, c66, rfl, hK⟩
            replace hC := hC.back hK
            clear hK
            obtain ⟨rfl, hl69, hc70⟩ := (hC.ow (i := 0) rfl).sl_len
            obtain ⟨y71, h72, hb⟩ := bd hb
            refine lex.cl (⟨_, _, op_call (vs := [.slice Al7_0 l7_0.length cl7_0, .slice A64 y62.length c66]) Try.call81 rfl rfl rfl, word_Substitute_ok n (hC.lentLt [.slice Al7_0 l7_0.length cl7_0, .slice A64 y62.length c66]) ((hC.ow (i := 3) rfl).lend (vs := [.slice Al7_0 l7_0.length cl7_0, .slice A64 y62.length c66]) (by simp)) ((hC.ow (i := 0) rfl).lend (vs := [.slice Al7_0 l7_0.length cl7_0, .slice A64 y62.length c66]) (by simp)) h72⟩) ?_
            rintro _ w78 ⟨A73, m74, c75, rfl, hr77, hK⟩
            replace hC := hC.mergeF hK rfl
            clear hK
            obtain ⟨rfl, hl79, hc80⟩ := (hC.ow (i := 0) rfl).sl_len
            refine lex.pure (v := .tuple #[.slice A73 y71.1.length c75, .int .i64 y71.2]) (pu_move rfl) ?_
            refine lex.pure (v := .slice A73 y71.1.length c75) (pu_extract rfl rfl) ?_
            refine lex.pure (v := .int .i64 y71.2) (pu_extract rfl rfl) ?_
            refine lex.pure (v := .slice A73 y71.1.length c75) (pu_assign rfl) ?_
            refine lex.pure (v := .int .i64 y71.2) (pu_assign rfl) ?_
            refine lex.nil ?_
            refine hK61 _ _ ?_
            refine Wc.fresh fun E81 hE => ?_
            have e4 : E81 4 = .slice none 0 0 := (congrFun hE 4).trans e4
            have e5 : E81 5 = .int .i64 0 := (congrFun hE 5).trans e5
            have e6 : E81 6 = .func (.func 79) #[] #[.pointer (some ⟨g4, 0, none⟩)] := (congrFun hE 6).trans e6
            have e7 : E81 7 = .slice Al7_0 l7_0.length cl7_0 := (congrFun hE 7).trans e7
            have e9 : E81 9 = .int .i64 x55 := (congrFun hE 9).trans rfl
            have e10 : E81 10 = .slice A73 y71.1.length c75 := (congrFun hE 10).trans rfl
            have e11 : E81 11 = .int .i64 y71.2 := (congrFun hE 11).trans rfl
            have e27 : E81 27 = .slice (some ad57) b_0_1.length cb_0_1 := (congrFun hE 27).trans e27
            have e28 : E81 28 = .int .i64 (b_0_1.length : Int) := (congrFun hE 28).trans e28
            have e29 : E81 29 = .int .i64 v29_0 := (congrFun hE 29).trans e29
            have e30 : E81 30 = .bool (decide (v29_0 < (b_0_1.length : Int))) := (congrFun hE 30).trans rfl
            clear hE
            refine Wc.seq fun K82 hK82 => ?_
            refine Wc.seq fun K83 hK83 => ?_
            refine Wc.region (by decide +kernel) ?_
            refine lex.pure (v := .int .i64 y71.2) (pu_move e11) ?_
            refine lex.pure (v := .bool (!(decide (y71.2 = 0)))) (pu_neq (k := .i64) (a := y71.2) (b := 0) rfl rfl) ?_
            refine lex.nil ?_
            refine hK83 _ _ ?_
            refine Wc.cond (t := (!(decide (y71.2 = 0)))) (rfl) (fun hq84 => ?_) (fun hq84 => ?_)
            · replace hb := (cT hq84).symm.trans hb
              refine Wc.seq fun K85 hK85 => ?_
              refine Wc.region (by decide +kernel) ?_
              refine lex.pure (v := .int .i64 y71.2) (pu_move e11) ?_
              refine lex.pure (v := .slice none 0 0) (pu_assign rfl) ?_
              refine lex.pure (v := .int .i64 y71.2) (pu_assign rfl) ?_
              refine lex.nil ?_
              refine hK85 _ _ ?_
              obtain rfl := Option.some.inj hb
              obtain rfl := (lX hl0).symm
              replace hb := hbK0
              replace hC := hC.nil 3 (.int .i64)
              obtain rfl := Option.some.inj hb
              refine Wc.ret ?_
              refine hKR _ _ ?_
              refine ⟨_, res2 Try.results62 (show RV _ _ _ (.tmp _) (.slice none 0 0) from rfl) (show RV _ _ _ (.tmp _) (.int .i64 y71.2) from rfl), _, rfl, none, 0, 0, rfl, hr77, hC.sel [0] (by decide)⟩
            · replace hb := (cF hq84).symm.trans hb
              refine Wc.skip ?_
              refine hK82 _ _ ?_
              refine Wc.seq fun K87 hK87 => ?_
              refine Wc.seq fun K88 hK88 => ?_
              refine Wc.region (by decide +kernel) ?_
              refine lex.pure (v := .slice A73 y71.1.length c75) (pu_move e10) ?_
              refine lex.pure (v := .int .i64 (y71.1.length : Int)) (pu_len (A := A73) (n := y71.1.length) (m := c75) Try.underlying82 rfl) ?_
              refine lex.pure (v := .bool (decide (20000 < (y71.1.length : Int)))) (pu_gtr (k := .i64) (a := (y71.1.length : Int)) (b := 20000) rfl rfl) ?_
              refine lex.nil ?_
              refine hK88 _ _ ?_
              refine Wc.cond (t := (decide (20000 < (y71.1.length : Int)))) (rfl) (fun hq89 => ?_) (fun hq89 => ?_)
              · replace hb := (cT hq89).symm.trans hb
                refine Wc.seq fun K90 hK90 => ?_
                refine Wc.region (by decide +kernel) ?_
                refine lex.pure (v := .slice none 0 0) (pu_assign rfl) ?_
                refine lex.pure (v := .int .i64 5) (pu_assign rfl) ?_
                refine lex.nil ?_
                refine hK90 _ _ ?_
                obtain rfl := Option.some.inj hb
                obtain rfl := (lX hl0).symm
                replace hb := hbK0
                replace hC := hC.nil 3 (.int .i64)
                obtain rfl := Option.some.inj hb
                refine Wc.ret ?_
                refine hKR _ _ ?_
                refine ⟨_, res2 Try.results62 (show RV _ _ _ (.tmp _) (.slice none 0 0) from rfl) (show RV _ _ _ (.tmp _) (.int .i64 5) from rfl), _, rfl, none, 0, 0, rfl, (show I64 5 from by unfold I64; omega), hC.sel [0] (by decide)⟩
              · replace hb := (cF hq89).symm.trans hb
                refine Wc.skip ?_
                refine hK87 _ _ ?_
                refine Wc.region (by decide +kernel) ?_
                refine lex.pure (v := .slice A73 y71.1.length c75) (pu_move e10) ?_
                refine lex.pure (v := .slice A73 y71.1.length c75) (pu_assign rfl) ?_
                refine lex.nil ?_
                refine hK53 _ _ ?_
                refine Wc.region (by decide +kernel) ?_
                obtain ⟨z92, h93, hb⟩ := bd hb
                refine lex.pure (v := .int .i64 z92) (pu_addc (a := v29_0) (b := 1) e29 rfl h93) ?_
                refine lex.pure (v := .int .i64 z92) (pu_move rfl) ?_
                refine lex.nil ?_
                obtain rfl := Option.some.inj hb
                exact hK45 m46' _ _ (Nat.lt_succ_self _) ⟨y71.1, z92, A73, y71.1.length, c75, e4, e5, e6, rfl, e27, e28, rfl, (chk_rng h93), hC.sel [2, 3, 0] (by decide), lN hl0⟩
          · replace hb := (cF hq52).symm.trans hb
            refine Wc.exit rfl ?_
            obtain rfl := Option.some.inj hb
            obtain rfl := (lX hl0).symm
            exact hK44 _ _ ⟨l7_0, v29_0, Al7_0, l7_0.length, cl7_0, e4, e5, e7, hrv29_0, hC.sel [2] (by decide), hbK0⟩
        · clear hb hC hl0
          rintro E95 w94 ⟨l7_0, v29_0, Al7_0, ml7_0, cl7_0, e4, e5, e7, hrv29_0, hC, hb⟩
          obtain ⟨rfl, hll7_0, hcl7_0⟩ := (hC.ow (i := 0) rfl).sl_len
          refine hK40 _ _ ?_
          refine Wc.seq fun K96 hK96 => ?_
          refine Wc.region (by decide +kernel) ?_
          refine lex.pure (v := .slice Al7_0 l7_0.length cl7_0) (pu_move e7) ?_
          refine lex.pure (v := .slice Al7_0 l7_0.length cl7_0) (pu_assign rfl) ?_
          refine lex.pure (v := .int .i64 0) (pu_assign rfl) ?_
          refine lex.nil ?_
          refine hK96 _ _ ?_
          obtain rfl := Option.some.inj hb
          refine Wc.ret ?_
          refine hKR _ _ ?_
          refine ⟨_, res2 Try.results62 (show RV _ _ _ (.tmp _) (.slice Al7_0 l7_0.length cl7_0) from rfl) (show RV _ _ _ (.tmp _) (.int .i64 0) from rfl), _, rfl, Al7_0, l7_0.length, cl7_0, rfl, (show I64 0 from by unfold I64; omega), hC.sel [0] (by decide)⟩

set_option maxRecDepth 100000 in
set_option maxHeartbeats 4000000 in
theorem artin_Images_ok (n : Nat) {w : World} {O0 : List Nat} (hO : ∀ k ∈ O0, k < w.heap.size) {b_0_0 : Int} (hb_0_0 : I64 b_0_0) {Ab_0_1 : Option Addr} {mb_0_1 cb_0_1 : Nat} {b_0_1 : List Int} (hb_0_1 : Rep O0 w (.sl (.int .i64)) [.slice Ab_0_1 mb_0_1 cb_0_1] b_0_1) {r : (List (List Int)) × Int} (hb : F.artin_Images n b_0_0 b_0_1 = some r) :
    Calls Try.prog 41 #[.agg #[.int .i64 b_0_0, .slice Ab_0_1 mb_0_1 cb_0_1]] w fun e w' => ∃ v, e = .returned v ∧ ∃ (A0 : Option Addr) (m0 c0 : Nat), v = .tuple #[.slice A0 m0 c0, .int .i64 r.2] ∧ I64 r.2 ∧ Cx (fun _ => False) O0 w w' [.own 82 (.sl (.int .i64)) (.slice A0 m0 c0) r.1] := by
  unfold F.artin_Images at hb
  have hC := Cx.start hO
  replace hC := hC.arg rfl hb_0_1
  clear hO
  obtain ⟨rfl, hlb_0_1, hcb_0_1⟩ := hb_0_1.sl_len
  refine calls_of_Wc Try.func41 rfl (by rw [Try.ntmps41]; exact Nat.le_of_ble_eq_true rfl) fun KR hKR => ?_
  refine Wc.seq fun K2 hK2 => ?_
  refine Wc.region (by decide +kernel) ?_
  refine lex.op (hC.box (cs := [.int .i64 b_0_0, .slice Ab_0_1 b_0_1.length cb_0_1]) rfl rfl) ?_
  rintro _ w4 ⟨g3, rfl, hC, hF, hG⟩
  clear hG
  refine lex.pure (v := .slice none 0 0) (pu_assign rfl) ?_
  refine lex.pure (v := .int .i64 0) (pu_assign rfl) ?_
  refine lex.nil ?_
  refine hK2 _ _ ?_
  refine Wc.seq fun K6 hK6 => ?_
  refine Wc.seq fun K7 hK7 => ?_
  refine Wc.region (by decide +kernel) ?_
  refine lex.val (v := .agg #[.int .i64 b_0_0, .slice Ab_0_1 b_0_1.length cb_0_1]) (ld_blk (hC.bx (i := 0) rfl) Try.isAgg27 Try.sizeOf27 rfl) ?_
  obtain ⟨y8, h9, hb⟩ := bd hb
  refine lex.cl (⟨_, _, op_call (vs := [.agg #[.int .i64 b_0_0, .slice Ab_0_1 b_0_1.length cb_0_1]]) Try.call15 rfl rfl rfl, braid_Valid_ok n hC.lt hb_0_0 (hC.rd (i := 1) rfl) h9⟩) ?_
  rintro _ w10 ⟨rfl, hK⟩
  replace hC := hC.merge hK
  clear hK
  refine lex.pure (v := .bool (!y8)) (pu_not (q := y8) rfl) ?_
  refine lex.nil ?_
  refine hK7 _ _ ?_
  refine Wc.cond (t := (!y8)) (rfl) (fun hq11 => ?_) (fun hq11 => ?_)
  · replace hb := (cT hq11).symm.trans hb
    refine Wc.seq fun K12 hK12 => ?_
    refine Wc.region (by decide +kernel) ?_
    refine lex.pure (v := .slice none 0 0) (pu_assign rfl) ?_
    refine lex.pure (v := .int .i64 1) (pu_assign rfl) ?_
    refine lex.nil ?_
    refine hK12 _ _ ?_
    replace hC := hC.nil 82 (.sl (.int .i64))
    obtain rfl := Option.some.inj hb
    refine Wc.ret ?_
    refine hKR _ _ ?_
    refine ⟨_, res2 Try.results41 (show RV _ _ _ (.tmp _) (.slice none 0 0) from rfl) (show RV _ _ _ (.tmp _) (.int .i64 1) from rfl), _, rfl, none, 0, 0, rfl, (show I64 1 from by unfold I64; omega), hC.sel [0] (by decide)⟩
  · replace hb := (cF hq11).symm.trans hb
    refine Wc.skip ?_
    refine hK6 _ _ ?_
    refine Wc.seq fun K14 hK14 => ?_
    refine Wc.region (by decide +kernel) ?_
    refine lex.pure (v := .slice none 0 0) (pu_assign rfl) ?_
    refine lex.nil ?_
    refine hK14 _ _ ?_
    refine Wc.seq fun K15 hK15 => ?_
    refine Wc.seq fun K16 hK16 => ?_
    refine Wc.region (by decide +kernel) ?_
    refine lex.pure (v := .pointer (some ((⟨g3, 0, none⟩ : Addr).add 0))) (pu_field (sz := 1) Try.underlying27 rfl Try.sizeOf3 (by decide) rfl rfl) ?_
    refine lex.val (v := .int .i64 b_0_0) (ld_fld (hC.bx (i := 0) rfl) Try.isAgg3 rfl rfl) ?_
    refine lex.pure (v := .int .i64 0) (pu_move rfl) ?_
    refine lex.nil ?_
    refine hK16 _ _ ?_
    refine Wc.fresh fun E17 hE => ?_
    have e1 : E17 1 = .pointer (some ⟨g3, 0, none⟩) := (congrFun hE 1).trans rfl
    have e2 : E17 2 = .slice none 0 0 := (congrFun hE 2).trans rfl
    have e3 : E17 3 = .int .i64 0 := (congrFun hE 3).trans rfl
    have e4 : E17 4 = .slice none 0 0 := (congrFun hE 4).trans rfl
    have e12 : E17 12 = .int .i64 b_0_0 := (congrFun hE 12).trans rfl
    have e13 : E17 13 = .int .i64 0 := (congrFun hE 13).trans rfl
    clear hE
    replace hC := hC.nil 82 (.sl (.int .i64))
    obtain ⟨o19, hl0, hb⟩ := bd hb
    refine Wc.cut (fun E wv => ∃ (l4_0 : List (List Int)) (v13_0 : Int) (Al4_0 : Option Addr) (ml4_0 cl4_0 : Nat), E 2 = .slice none 0 0 ∧ E 3 = .int .i64 0 ∧ E 4 = .slice Al4_0 ml4_0 cl4_0 ∧ I64 v13_0 ∧ Cx (fun _ => False) O0 w wv [.own 82 (.sl (.int .i64)) (.slice Al4_0 ml4_0 cl4_0) l4_0] ∧ (some (l4_0, 0) : Option ((List (List Int)) × Int)) = some r) (fun K20 hK20 => ?_) ?_
    · refine Wc.block ?_
      refine Wc.loop (fun m E wv => ∃ (l4_0 : List (List Int)) (v13_0 : Int) (Al4_0 : Option Addr) (ml4_0 cl4_0 : Nat), E 1 = .pointer (some ⟨g3, 0, none⟩) ∧ E 2 = .slice none 0 0 ∧ E 3 = .int .i64 0 ∧ E 4 = .slice Al4_0 ml4_0 cl4_0 ∧ E 12 = .int .i64 b_0_0 ∧ E 13 = .int .i64 v13_0 ∧ I64 v13_0 ∧ Cx (fun _ => False) O0 w wv [.box g3 27 [.int .i64 b_0_0, .slice Ab_0_1 b_0_1.length cb_0_1], .ro (.sl (.int .i64)) [.slice Ab_0_1 b_0_1.length cb_0_1] b_0_1, .own 82 (.sl (.int .i64)) (.slice Al4_0 ml4_0 cl4_0) l4_0] ∧ loopN m (F.artin_Images_b0 n b_0_0 b_0_1) (l4_0, v13_0) = some o19) n ⟨([] : List (List Int)), 0, none, 0, 0, e1, e2, e3, e4, e12, e13, (show I64 0 from by unfold I64; omega), hC.sel [1, 2, 0] (by decide), hl0⟩ ?_
      have hbK0 := hb
      clear hb hC hl0
      rintro m22 E24 w23 ⟨l4_0, v13_0, Al4_0, ml4_0, cl4_0, e1, e2, e3, e4, e12, e13, hrv13_0, hC, hl0⟩ K21 hK21
      obtain ⟨m22', o25, rfl, hb, hl0⟩ := loopN_some hl0
      unfold F.artin_Images_b0 at hb
      obtain ⟨rfl, hll4_0, hcl4_0⟩ := (hC.ow (i := 2) rfl).sl_len
      refine Wc.seq fun K26 hK26 => ?_
      refine Wc.region (by decide +kernel) ?_
      refine lex.pure (v := .bool (decide (v13_0 < b_0_0))) (pu_lss (k := .i64) (a := v13_0) (b := b_0_0) e13 e12) ?_
      refine lex.nil ?_
      refine hK26 _ _ ?_
      refine Wc.seq fun K27 hK27 => ?_
      refine Wc.cond (t := (decide (v13_0 < b_0_0))) (rfl) (fun hq28 => ?_) (fun hq28 => ?_)
      · replace hb := (cT hq28).symm.trans hb
        refine Wc.skip ?_
        refine hK27 _ _ ?_
        refine Wc.seq fun K29 hK29 => ?_
        refine Wc.block ?_
        refine Wc.seq fun K30 hK30 => ?_
        refine Wc.region (by decide +kernel) ?_
        refine lex.pure (v := .int .i64 v13_0) (pu_move e13) ?_
        refine lex.pure (v := .int .i64 v13_0) (pu_assign rfl) ?_
        refine lex.nil ?_
        refine hK30 _ _ ?_
        refine Wc.seq fun K31 hK31 => ?_
        refine Wc.region (by decide +kernel) ?_
        refine lex.val (v := .agg #[.int .i64 b_0_0, .slice Ab_0_1 b_0_1.length cb_0_1]) (ld_blk (hC.bx (i := 0) rfl) Try.isAgg27 Try.sizeOf27 e1) ?_
        refine lex.pure (v := .int .i64 v13_0) (pu_move rfl) ?_
        obtain ⟨z32, h33, hb⟩ := bd hb
        refine lex.pure (v := .int .i64 z32) (pu_addc (a := v13_0) (b := 1) rfl rfl h33) ?_
        refine lex.op (hC.lit (s := (.int .i64)) (vs := [.int .i64 z32]) (xs := [z32]) Try.underlying82 Try.type3 rfl rfl (Nat.le_of_ble_eq_true rfl) rfl rfl (by simp [Value.cells, Sh.n]) rfl (show Elems _ _ (.int .i64) ([.int .i64 z32] ++ ([])) ([z32] : List Int) from Elems.cons (⟨rfl, I64.wr (chk_rng h33)⟩) (Elems.nil _ _ _))) ?_
        rintro _ w38 ⟨A34, c35, rfl, hl36, hc37, hC, hF, hN⟩
        clear hF hN
        obtain ⟨y40, h41, hb⟩ := bd hb
        refine lex.cl (⟨_, _, op_call (vs := [.agg #[.int .i64 b_0_0, .slice Ab_0_1 b_0_1.length cb_0_1], .slice A34 ((([z32] : List Int)).length) c35]) Try.call62 rfl rfl rfl, artin_Act_ok n (hC.lentLt [.slice A34 ((([z32] : List Int)).length) c35]) hb_0_0 ((hC.rd (i := 2) rfl).lent [.slice A34 ((([z32] : List Int)).length) c35]) ((hC.ow (i := 0) rfl).lend (vs := [.slice A34 ((([z32] : List Int)).length) c35]) (by simp)) h41⟩) ?_
        rintro _ w47 ⟨A42, m43, c44, rfl, hr46, hK⟩
        replace hC := hC.mergeF hK rfl
        clear hK
        obtain ⟨rfl, hl48, hc49⟩ := (hC.ow (i := 0) rfl).sl_len
        refine lex.pure (v := .tuple #[.slice A42 y40.1.length c44, .int .i64 y40.2]) (pu_move rfl) ?_
        refine lex.pure (v := .slice A42 y40.1.length c44) (pu_extract rfl rfl) ?_
        refine lex.pure (v := .int .i64 y40.2) (pu_extract rfl rfl) ?_
        refine lex.pure (v := .slice A42 y40.1.length c44) (pu_assign rfl) ?_
        refine lex.pure (v := .int .i64 y40.2) (pu_assign rfl) ?_
        refine lex.nil ?_
        refine hK31 _ _ ?_
        refine Wc.fresh fun E50 hE => ?_
        have e1 : E50 1 = .pointer (some ⟨g3, 0, none⟩) := (congrFun hE 1).trans e1
        have e2 : E50 2 = .slice none 0 0 := (congrFun hE 2).trans e2
        have e3 : E50 3 = .int .i64 0 := (congrFun hE 3).trans e3
        have e4 : E50 4 = .slice Al4_0 l4_0.length cl4_0 := (congrFun hE 4).trans e4
        have e5 : E50 5 = .int .i64 v13_0 := (congrFun hE 5).trans rfl
        have e6 : E50 6 = .slice A42 y40.1.length c44 := (congrFun hE 6).trans rfl
        have e7 : E50 7 = .int .i64 y40.2 := (congrFun hE 7).trans rfl
        have e12 : E50 12 = .int .i64 b_0_0 := (congrFun hE 12).trans e12
        have e13 : E50 13 = .int .i64 v13_0 := (congrFun hE 13).trans e13
        have e14 : E50 14 = .bool (decide (v13_0 < b_0_0)) := (congrFun hE 14).trans rfl
        clear hE
        refine Wc.seq fun K51 hK51 => ?_
        refine Wc.seq fun K52 hK52 => ?_
        refine Wc.region (by decide +kernel) ?_
        refine lex.pure (v := .int .i64 y40.2) (pu_move e7) ?_
        refine lex.pure (v := .bool (!(decide (y40.2 = 0)))) (pu_neq (k := .i64) (a := y40.2) (b := 0) rfl rfl) ?_
        refine lex.nil ?_
        refine hK52 _ _ ?_
        refine Wc.cond (t := (!(decide (y40.2 = 0)))) (rfl) (fun hq53 => ?_) (fun hq53 => ?_)
        · replace hb := (cT hq53).symm.trans hb
          refine Wc.seq fun K54 hK54 => ?_
          refine Wc.region (by decide +kernel) ?_
          refine lex.pure (v := .int .i64 y40.2) (pu_move e7) ?_
          refine lex.pure (v := .slice none 0 0) (pu_assign rfl) ?_
          refine lex.pure (v := .int .i64 y40.2) (pu_assign rfl) ?_
          refine lex.nil ?_
          refine hK54 _ _ ?_
          obtain rfl := Option.some.inj hb
          obtain rfl := (lX hl0).symm
          replace hb := hbK0
          replace hC := hC.nil 82 (.sl (.int .i64))
          obtain rfl := Option.some.inj hb
          refine Wc.ret ?_
          refine hKR _ _ ?_
          refine ⟨_, res2 Try.results41 (show RV _ _ _ (.tmp _) (.slice none 0 0) from rfl) (show RV _ _ _ (.tmp _) (.int .i64 y40.2) from rfl), _, rfl, none, 0, 0, rfl, hr46, hC.sel [0] (by decide)⟩
        · replace hb := (cF hq53).symm.trans hb
          refine Wc.skip ?_
          refine hK51 _ _ ?_
          refine Wc.region (by decide +kernel) ?_
          refine lex.pure (v := .slice Al4_0 l4_0.length cl4_0) (pu_move e4) ?_
          refine lex.pure (v := .slice A42 y40.1.length c44) (pu_move e6) ?_
          replace hC := hC.freeze (i := 0) rfl (hC.own_new (i := 0) rfl)
          refine lex.op (hC.lit (s := (.sl (.int .i64))) (vs := [.slice A42 y40.1.length c44]) (xs := [y40.1]) Try.underlying79 Try.type82 rfl rfl (Nat.le_of_ble_eq_true rfl) rfl rfl (by simp [Value.cells, Sh.n]) rfl (show Elems _ _ (.sl (.int .i64)) ([.slice A42 y40.1.length c44] ++ ([])) ([y40.1] : List (List Int)) from Elems.cons (hC.rd (i := 0) rfl) (Elems.nil _ _ _))) ?_
          rintro _ w60 ⟨A56, c57, rfl, hl58, hc59, hC, hF, hN⟩
          clear hF hN
          obtain ⟨u62, h63, hb⟩ := bd hb
          refine lex.op (hC.app (i := 5) (s := (.sl (.int .i64))) (xs := l4_0) (ys := ([y40.1] : List (List Int))) (m := ((([y40.1] : List (List Int))).length)) rfl Try.underlying79 Try.underlying79 Try.type82 rfl rfl rfl (hC.srco (i := 0) rfl) rfl rfl (by have := lim_some h63; simp at this ⊢ <;> omega) (by decide)) ?_
          rintro _ w68 ⟨A64, c65, rfl, hl66, hc67, hC, hF, hN⟩
          clear hF hN
          refine lex.pure (v := .slice A64 ((l4_0 ++ ([y40.1] : List (List Int))).length) c65) (pu_assign rfl) ?_
          refine lex.nil ?_
          refine hK29 _ _ ?_
          refine Wc.region (by decide +kernel) ?_
          obtain ⟨z69, h70, hb⟩ := bd hb
          refine lex.pure (v := .int .i64 z69) (pu_addc (a := v13_0) (b := 1) e13 rfl h70) ?_
          refine lex.pure (v := .int .i64 z69) (pu_move rfl) ?_
          refine lex.nil ?_
          obtain rfl := Option.some.inj hb
          exact hK21 m22' _ _ (Nat.lt_succ_self _) ⟨(l4_0 ++ ([y40.1] : List (List Int))), z69, A64, (l4_0 ++ ([y40.1] : List (List Int))).length, c65, e1, e2, e3, rfl, e12, rfl, (chk_rng h70), hC.sel [3, 4, 5] (by decide), lN hl0⟩
      · replace hb := (cF hq28).symm.trans hb
        refine Wc.exit rfl ?_
        obtain rfl := Option.some.inj hb
        obtain rfl := (lX hl0).symm
        exact hK20 _ _ ⟨l4_0, v13_0, Al4_0, l4_0.length, cl4_0, e2, e3, e4, hrv13_0, hC.sel [2] (by decide), hbK0⟩
    · clear hb hC hl0
      rintro E72 w71 ⟨l4_0, v13_0, Al4_0, ml4_0, cl4_0, e2, e3, e4, hrv13_0, hC, hb⟩
      obtain ⟨rfl, hll4_0, hcl4_0⟩ := (hC.ow (i := 0) rfl).sl_len
      refine hK15 _ _ ?_
      refine Wc.seq fun K73 hK73 => ?_
      refine Wc.region (by decide +kernel) ?_
      refine lex.pure (v := .slice Al4_0 l4_0.length cl4_0) (pu_move e4) ?_
      refine lex.pure (v := .slice Al4_0 l4_0.length cl4_0) (pu_assign rfl) ?_
      refine lex.pure (v := .int .i64 0) (pu_assign rfl) ?_
      refine lex.nil ?_
      refine hK73 _ _ ?_
      obtain rfl := Option.some.inj hb
      refine Wc.ret ?_
      refine hKR _ _ ?_
      refine ⟨_, res2 Try.results41 (show RV _ _ _ (.tmp _) (.slice Al4_0 l4_0.length cl4_0) from rfl) (show RV _ _ _ (.tmp _) (.int .i64 0) from rfl), _, rfl, Al4_0, l4_0.length, cl4_0, rfl, (show I64 0 from by unfold I64; omega), hC.sel [0] (by decide)⟩

set_option maxRecDepth 100000 in
set_option maxHeartbeats 4000000 in
theorem slices_Equal_Word_int_ok (n : Nat) {w : World} {O0 : List Nat} (hO : ∀ k ∈ O0, k < w.heap.size) {As1_0 : Option Addr} {ms1_0 cs1_0 : Nat} {s1_0 : List Int} (hs1_0 : Rep O0 w (.sl (.int .i64)) [.slice As1_0 ms1_0 cs1_0] s1_0) {As2_1 : Option Addr} {ms2_1 cs2_1 : Nat} {s2_1 : List Int} (hs2_1 : Rep O0 w (.sl (.int .i64)) [.slice As2_1 ms2_1 cs2_1] s2_1) {r : Bool} (hb : F.slices_Equal_Word_int n s1_0 s2_1 = some r) :
    Calls Try.prog 42 #[.slice As1_0 ms1_0 cs1_0, .slice As2_1 ms2_1 cs2_1] w fun e w' => ∃ v, e = .returned v ∧ v = .bool r ∧ Cx (fun _ => False) O0 w w' [] := by
  unfold F.slices_Equal_Word_int at hb
  have hC := Cx.start hO
  replace hC := hC.arg rfl hs1_0
  replace hC := hC.arg rfl hs2_1
  clear hO
  obtain ⟨rfl, hls1_0, hcs1_0⟩ := hs1_0.sl_len
  obtain ⟨rfl, hls2_1, hcs2_1⟩ := hs2_1.sl_len
  refine calls_of_Wc Try.func42 rfl (by rw [Try.ntmps42]; exact Nat.le_of_ble_eq_true rfl) fun KR hKR => ?_
  refine Wc.seq fun K3 hK3 => ?_
  refine Wc.region (by decide +kernel) ?_
  refine lex.pure (v := .bool false) (pu_assign rfl) ?_
  refine lex.nil ?_
  refine hK3 _ _ ?_
  refine Wc.seq fun K4 hK4 => ?_
  refine Wc.seq fun K5 hK5 => ?_
  refine Wc.region (by decide +kernel) ?_
  refine lex.pure (v := .slice As1_0 s1_0.length cs1_0) (pu_move rfl) ?_
  refine lex.pure (v := .int .i64 (s1_0.length : Int)) (pu_len (A := As1_0) (n := s1_0.length) (m := cs1_0) Try.underlying82 rfl) ?_
  refine lex.pure (v := .slice As2_1 s2_1.length cs2_1) (pu_move rfl) ?_
  refine lex.pure (v := .int .i64 (s2_1.length : Int)) (pu_len (A := As2_1) (n := s2_1.length) (m := cs2_1) Try.underlying82 rfl) ?_
  refine lex.pure (v := .bool (!(decide ((s1_0.length : Int) = (s2_1.length : Int))))) (pu_neq (k := .i64) (a := (s1_0.length : Int)) (b := (s2_1.length : Int)) rfl rfl) ?_
  refine lex.nil ?_
  refine hK5 _ _ ?_
  refine Wc.cond (t := (!(decide ((s1_0.length : Int) = (s2_1.length : Int))))) (rfl) (fun hq6 => ?_) (fun hq6 => ?_)
  · replace hb := (cT hq6).symm.trans hb
    refine Wc.seq fun K7 hK7 => ?_
    refine Wc.region (by decide +kernel) ?_
    refine lex.pure (v := .bool false) (pu_assign rfl) ?_
    refine lex.nil ?_
    refine hK7 _ _ ?_
    obtain rfl := Option.some.inj hb
    refine Wc.ret ?_
    refine hKR _ _ ?_
    refine ⟨_, res1 Try.results42 (show RV _ _ _ (.tmp _) (.bool false) from rfl), _, rfl, rfl, hC.sel [] (by decide)⟩
  · replace hb := (cF hq6).symm.trans hb
    refine Wc.skip ?_
    refine hK4 _ _ ?_
    refine Wc.seq fun K8 hK8 => ?_
    refine Wc.seq fun K9 hK9 => ?_
    refine Wc.region (by decide +kernel) ?_
    refine lex.pure (v := .slice As1_0 s1_0.length cs1_0) (pu_move rfl) ?_
    refine lex.pure (v := .int .i64 (s1_0.length : Int)) (pu_len (A := As1_0) (n := s1_0.length) (m := cs1_0) Try.underlying82 rfl) ?_
    refine lex.pure (v := .int .i64 0) (pu_move rfl) ?_
    refine lex.nil ?_
    refine hK9 _ _ ?_
    obtain ⟨o10, hl0, hb⟩ := bd hb
    refine Wc.cut (fun E wv => ∃ (v13_0 : Int), E 4 = .bool false ∧ I64 v13_0 ∧ Cx (fun _ => False) O0 w wv [] ∧ (some true : Option (Bool)) = some r) (fun K11 hK11 => ?_) ?_
    · refine Wc.block ?_
      refine Wc.loop (fun m E wv => ∃ (v13_0 : Int), E 0 = .slice As1_0 s1_0.length cs1_0 ∧ E 1 = .slice As2_1 s2_1.length cs2_1 ∧ E 4 = .bool false ∧ E 12 = .int .i64 (s1_0.length : Int) ∧ E 13 = .int .i64 v13_0 ∧ I64 v13_0 ∧ Cx (fun _ => False) O0 w wv [.ro (.sl (.int .i64)) [.slice As1_0 s1_0.length cs1_0] s1_0, .ro (.sl (.int .i64)) [.slice As2_1 s2_1.length cs2_1] s2_1] ∧ loopN m (F.slices_Equal_Word_int_b0 n s1_0 s2_1) v13_0 = some o10) n ⟨0, rfl, rfl, rfl, rfl, rfl, (show I64 0 from by unfold I64; omega), hC.sel [1, 0] (by decide), hl0⟩ ?_
      have hbK0 := hb
      clear hb hC hl0
      rintro m13 E15 w14 ⟨v13_0, e0, e1, e4, e12, e13, hrv13_0, hC, hl0⟩ K12 hK12
      obtain ⟨m13', o16, rfl, hb, hl0⟩ := loopN_some hl0
      unfold F.slices_Equal_Word_int_b0 at hb
      refine Wc.seq fun K17 hK17 => ?_
      refine Wc.region (by decide +kernel) ?_
      refine lex.pure (v := .bool (decide (v13_0 < (s1_0.length : Int)))) (pu_lss (k := .i64) (a := v13_0) (b := (s1_0.length : Int)) e13 e12) ?_
      refine lex.nil ?_
      refine hK17 _ _ ?_
      refine Wc.seq fun K18 hK18 => ?_
      refine Wc.cond (t := (decide (v13_0 < (s1_0.length : Int)))) (rfl) (fun hq19 => ?_) (fun hq19 => ?_)
      · replace hb := (cT hq19).symm.trans hb
        refine Wc.skip ?_
        refine hK18 _ _ ?_
        refine Wc.seq fun K20 hK20 => ?_
        refine Wc.block ?_
        refine Wc.seq fun K21 hK21 => ?_
        refine Wc.region (by decide +kernel) ?_
        refine lex.pure (v := .int .i64 v13_0) (pu_move e13) ?_
        refine lex.pure (v := .int .i64 v13_0) (pu_assign rfl) ?_
        refine lex.nil ?_
        refine hK21 _ _ ?_
        refine Wc.seq fun K22 hK22 => ?_
        refine Wc.regionMix [] (frm [] ([] : List Fact) ([] : List Fact)) (fun _ => rfl) mixed (by decide +kernel) (by decide +kernel) fun w24 hw23 => ?_
        replace hC := hC.step (Fr.of_drew hw23)
        have hM := Fr.refl (fun k => k ∈ blocks ([] : List Fact)) w24
        clear hw23
        have hS := hC
        refine mixE.pure (v := .slice As1_0 s1_0.length cs1_0) (pu_move e0) ?_
        refine mixE.pure (v := .int .i64 v13_0) (pu_move rfl) ?_
        obtain ⟨x25, h26, hb⟩ := bd hb
        obtain ⟨ad27, cs28, hA, ho31, hc29, hr30⟩ := hS.elr2 (i := 0) rfl (get_some h26).2 []
        subst hA
        refine mixE.pure (v := .pointer (some (ad27.add (v13_0.toNat * 1)))) (pu_index (a := v13_0) Try.underlying82 Try.sizeOf3 rfl rfl (get_some h26).1) ?_
        obtain ⟨rfl, hr30'⟩ := hr30
        refine mixE.load hM (v := .int .i64 x25) (fun _ hF => ld_one Try.isAgg3 rfl (hF.cell (hc29 0 _ rfl) (off1 ho31))) ?_
        refine mixE.pure (v := .slice As2_1 s2_1.length cs2_1) (pu_move e1) ?_
        refine mixE.pure (v := .int .i64 v13_0) (pu_move rfl) ?_
        obtain ⟨x32, h33, hb⟩ := bd hb
        obtain ⟨ad34, cs35, hA, ho38, hc36, hr37⟩ := hS.elr2 (i := 1) rfl (get_some h33).2 []
        subst hA
        refine mixE.pure (v := .pointer (some (ad34.add (v13_0.toNat * 1)))) (pu_index (a := v13_0) Try.underlying82 Try.sizeOf3 rfl rfl (get_some h33).1) ?_
        obtain ⟨rfl, hr37'⟩ := hr37
        refine mixE.load hM (v := .int .i64 x32) (fun _ hF => ld_one Try.isAgg3 rfl (hF.cell (hc36 0 _ rfl) (off1 ho38))) ?_
        refine mixE.pure (v := .bool (!(decide (x25 = x32)))) (pu_neq (k := .i64) (a := x25) (b := x32) rfl rfl) ?_
        refine mixE.nil ?_
        clear hS hM
        refine hK22 _ _ ?_
        refine Wc.cond (t := (!(decide (x25 = x32)))) (rfl) (fun hq39 => ?_) (fun hq39 => ?_)
        · replace hb := (cT hq39).symm.trans hb
          refine Wc.seq fun K40 hK40 => ?_
          refine Wc.region (by decide +kernel) ?_
          refine lex.pure (v := .bool false) (pu_assign rfl) ?_
          refine lex.nil ?_
          refine hK40 _ _ ?_
          obtain rfl := Option.some.inj hb
          obtain rfl := (lX hl0).symm
          replace hb := hbK0
          obtain rfl := Option.some.inj hb
          refine Wc.ret ?_
          refine hKR _ _ ?_
          refine ⟨_, res1 Try.results42 (show RV _ _ _ (.tmp _) (.bool false) from rfl), _, rfl, rfl, hC.sel [] (by decide)⟩
        · replace hb := (cF hq39).symm.trans hb
          refine Wc.skip ?_
          refine hK20 _ _ ?_
          refine Wc.region (by decide +kernel) ?_
          obtain ⟨z41, h42, hb⟩ := bd hb
          refine lex.pure (v := .int .i64 z41) (pu_addc (a := v13_0) (b := 1) e13 rfl h42) ?_
          refine lex.pure (v := .int .i64 z41) (pu_move rfl) ?_
          refine lex.nil ?_
          obtain rfl := Option.some.inj hb
          exact hK12 m13' _ _ (Nat.lt_succ_self _) ⟨z41, e0, e1, e4, e12, rfl, (chk_rng h42), hC.sel [0, 1] (by decide), lN hl0⟩
      · replace hb := (cF hq19).symm.trans hb
        refine Wc.exit rfl ?_
        obtain rfl := Option.some.inj hb
        obtain rfl := (lX hl0).symm
        exact hK11 _ _ ⟨v13_0, e4, hrv13_0, hC.sel [] (by decide), hbK0⟩
    · clear hb hC hl0
      rintro E44 w43 ⟨v13_0, e4, hrv13_0, hC, hb⟩
      refine hK8 _ _ ?_
      refine Wc.seq fun K45 hK45 => ?_
      refine Wc.region (by decide +kernel) ?_
      refine lex.pure (v := .bool true) (pu_assign rfl) ?_
      refine lex.nil ?_
      refine hK45 _ _ ?_
      obtain rfl := Option.some.inj hb
      refine Wc.ret ?_
      refine hKR _ _ ?_
      refine ⟨_, res1 Try.results42 (show RV _ _ _ (.tmp _) (.bool true) from rfl), _, rfl, rfl, hC.sel [] (by decide)⟩

set_option maxRecDepth 100000 in
set_option maxHeartbeats 4000000 in
theorem artin_Trivial_ok (n : Nat) {w : World} {O0 : List Nat} (hO : ∀ k ∈ O0, k < w.heap.size) {b_0_0 : Int} (hb_0_0 : I64 b_0_0) {Ab_0_1 : Option Addr} {mb_0_1 cb_0_1 : Nat} {b_0_1 : List Int} (hb_0_1 : Rep O0 w (.sl (.int .i64)) [.slice Ab_0_1 mb_0_1 cb_0_1] b_0_1) {r : Bool} (hb : F.artin_Trivial n b_0_0 b_0_1 = some r) :
    Calls Try.prog 26 #[.agg #[.int .i64 b_0_0, .slice Ab_0_1 mb_0_1 cb_0_1]] w fun e w' => ∃ v, e = .returned v ∧ v = .bool r ∧ Cx (fun _ => False) O0 w w' [] := by
  unfold F.artin_Trivial at hb
  have hC := Cx.start hO
  replace hC := hC.arg rfl hb_0_1
  clear hO
  obtain ⟨rfl, hlb_0_1, hcb_0_1⟩ := hb_0_1.sl_len
  refine calls_of_Wc Try.func26 rfl (by rw [Try.ntmps26]; exact Nat.le_of_ble_eq_true rfl) fun KR hKR => ?_
  refine Wc.seq fun K2 hK2 => ?_
  refine Wc.region (by decide +kernel) ?_
  refine lex.op (hC.box (cs := [.int .i64 b_0_0, .slice Ab_0_1 b_0_1.length cb_0_1]) rfl rfl) ?_
  rintro _ w4 ⟨g3, rfl, hC, hF, hG⟩
  clear hG
  refine lex.pure (v := .bool false) (pu_assign rfl) ?_
  refine lex.nil ?_
  refine hK2 _ _ ?_
  refine Wc.seq fun K6 hK6 => ?_
  refine Wc.region (by decide +kernel) ?_
  refine lex.val (v := .agg #[.int .i64 b_0_0, .slice Ab_0_1 b_0_1.length cb_0_1]) (ld_blk (hC.bx (i := 0) rfl) Try.isAgg27 Try.sizeOf27 rfl) ?_
  obtain ⟨y7, h8, hb⟩ := bd hb
  refine lex.cl (⟨_, _, op_call (vs := [.agg #[.int .i64 b_0_0, .slice Ab_0_1 b_0_1.length cb_0_1]]) Try.call41 rfl rfl rfl, artin_Images_ok n hC.lt hb_0_0 (hC.rd (i := 1) rfl) h8⟩) ?_
  rintro _ w14 ⟨A9, m10, c11, rfl, hr13, hK⟩
  replace hC := hC.merge hK
  clear hK
  obtain ⟨rfl, hl15, hc16⟩ := (hC.ow (i := 0) rfl).sl_len
  refine lex.pure (v := .tuple #[.slice A9 y7.1.length c11, .int .i64 y7.2]) (pu_move rfl) ?_
  refine lex.pure (v := .slice A9 y7.1.length c11) (pu_extract rfl rfl) ?_
  refine lex.pure (v := .int .i64 y7.2) (pu_extract rfl rfl) ?_
  refine lex.pure (v := .slice A9 y7.1.length c11) (pu_assign rfl) ?_
  refine lex.pure (v := .int .i64 y7.2) (pu_assign rfl) ?_
  refine lex.nil ?_
  refine hK6 _ _ ?_
  refine Wc.seq fun K17 hK17 => ?_
  refine Wc.seq fun K18 hK18 => ?_
  refine Wc.region (by decide +kernel) ?_
  refine lex.pure (v := .int .i64 y7.2) (pu_move rfl) ?_
  refine lex.pure (v := .bool (!(decide (y7.2 = 0)))) (pu_neq (k := .i64) (a := y7.2) (b := 0) rfl rfl) ?_
  refine lex.nil ?_
  refine hK18 _ _ ?_
  refine Wc.cond (t := (!(decide (y7.2 = 0)))) (rfl) (fun hq19 => ?_) (fun hq19 => ?_)
  · replace hb := (cT hq19).symm.trans hb
    refine Wc.seq fun K20 hK20 => ?_
    refine Wc.region (by decide +kernel) ?_
    refine lex.pure (v := .bool false) (pu_assign rfl) ?_
    refine lex.nil ?_
    refine hK20 _ _ ?_
    obtain rfl := Option.some.inj hb
    refine Wc.ret ?_
    refine hKR _ _ ?_
    refine ⟨_, res1 Try.results26 (show RV _ _ _ (.tmp _) (.bool false) from rfl), _, rfl, rfl, hC.sel [] (by decide)⟩
  · replace hb := (cF hq19).symm.trans hb
    refine Wc.skip ?_
    refine hK17 _ _ ?_
    refine Wc.fresh fun E21 hE => ?_
    have e2 : E21 2 = .bool false := (congrFun hE 2).trans rfl
    have e3 : E21 3 = .slice A9 y7.1.length c11 := (congrFun hE 3).trans rfl
    clear hE
    refine Wc.seq fun K22 hK22 => ?_
    refine Wc.seq fun K23 hK23 => ?_
    refine Wc.region (by decide +kernel) ?_
    refine lex.pure (v := .slice A9 y7.1.length c11) (pu_move e3) ?_
    refine lex.pure (v := .int .i64 (y7.1.length : Int)) (pu_len (A := A9) (n := y7.1.length) (m := c11) Try.underlying79 rfl) ?_
    refine lex.pure (v := .int .i64 0) (pu_move rfl) ?_
    refine lex.nil ?_
    refine hK23 _ _ ?_
    obtain ⟨o24, hl0, hb⟩ := bd hb
    refine Wc.cut (fun E wv => ∃ (v16_0 : Int), E 2 = .bool false ∧ I64 v16_0 ∧ Cx (fun _ => False) O0 w wv [] ∧ (some true : Option (Bool)) = some r) (fun K25 hK25 => ?_) ?_
    · refine Wc.block ?_
      refine Wc.loop (fun m E wv => ∃ (v16_0 : Int), E 2 = .bool false ∧ E 14 = .slice A9 y7.1.length c11 ∧ E 15 = .int .i64 (y7.1.length : Int) ∧ E 16 = .int .i64 v16_0 ∧ I64 v16_0 ∧ Cx (fun _ => False) O0 w wv [.own 82 (.sl (.int .i64)) (.slice A9 y7.1.length c11) y7.1] ∧ loopN m (F.artin_Trivial_b0 n y7) v16_0 = some o24) n ⟨0, e2, rfl, rfl, rfl, (show I64 0 from by unfold I64; omega), hC.sel [0] (by decide), hl0⟩ ?_
      have hbK0 := hb
      clear hb hC hl0
      rintro m27 E29 w28 ⟨v16_0, e2, e14, e15, e16, hrv16_0, hC, hl0⟩ K26 hK26
      obtain ⟨m27', o30, rfl, hb, hl0⟩ := loopN_some hl0
      unfold F.artin_Trivial_b0 at hb
      refine Wc.seq fun K31 hK31 => ?_
      refine Wc.region (by decide +kernel) ?_
      refine lex.pure (v := .bool (decide (v16_0 < (y7.1.length : Int)))) (pu_lss (k := .i64) (a := v16_0) (b := (y7.1.length : Int)) e16 e15) ?_
      refine lex.nil ?_
      refine hK31 _ _ ?_
      refine Wc.seq fun K32 hK32 => ?_
      refine Wc.cond (t := (decide (v16_0 < (y7.1.length : Int)))) (rfl) (fun hq33 => ?_) (fun hq33 => ?_)
      · replace hb := (cT hq33).symm.trans hb
        refine Wc.skip ?_
        refine hK32 _ _ ?_
        refine Wc.seq fun K34 hK34 => ?_
        refine Wc.block ?_
        refine Wc.seq fun K35 hK35 => ?_
        refine Wc.region (by decide +kernel) ?_
        refine lex.pure (v := .int .i64 v16_0) (pu_move e16) ?_
        obtain ⟨x36, h37, hb⟩ := bd hb
        obtain ⟨ad38, cs39, hA, hc40, hr41⟩ := hC.elo (i := 0) rfl (get_some h37).2
        subst hA
        refine lex.pure (v := .pointer (some (ad38.add (v16_0.toNat * 1)))) (pu_index (a := v16_0) Try.underlying79 Try.sizeOf82 e14 e16 (get_some h37).1) ?_
        have hR := hr41
        obtain ⟨A42, c43, rfl, hl44, hc45, _⟩ := hr41
        replace hC := hC.ro hR
        clear hR
        refine lex.val (v := .slice A42 x36.length c43) (ld_one Try.isAgg82 rfl (hc40 0 _ rfl)) ?_
        refine lex.pure (v := .int .i64 v16_0) (pu_assign rfl) ?_
        refine lex.pure (v := .slice A42 x36.length c43) (pu_assign rfl) ?_
        refine lex.nil ?_
        refine hK35 _ _ ?_
        refine Wc.seq fun K47 hK47 => ?_
        refine Wc.region (by decide +kernel) ?_
        refine lex.pure (v := .slice A42 x36.length c43) (pu_move rfl) ?_
        refine lex.pure (v := .int .i64 v16_0) (pu_move rfl) ?_
        obtain ⟨z48, h49, hb⟩ := bd hb
        refine lex.pure (v := .int .i64 z48) (pu_addc (a := v16_0) (b := 1) rfl rfl h49) ?_
        refine lex.op (hC.lit (s := (.int .i64)) (vs := [.int .i64 z48]) (xs := [z48]) Try.underlying82 Try.type3 rfl rfl (Nat.le_of_ble_eq_true rfl) rfl rfl (by simp [Value.cells, Sh.n]) rfl (show Elems _ _ (.int .i64) ([.int .i64 z48] ++ ([])) ([z48] : List Int) from Elems.cons (⟨rfl, I64.wr (chk_rng h49)⟩) (Elems.nil _ _ _))) ?_
        rintro _ w54 ⟨A50, c51, rfl, hl52, hc53, hC, hF, hN⟩
        clear hF hN
        obtain ⟨y56, h57, hb⟩ := bd hb
        refine lex.cl (⟨_, _, op_call (vs := [.slice A42 x36.length c43, .slice A50 ((([z48] : List Int)).length) c51]) Try.call42 rfl rfl rfl, slices_Equal_Word_int_ok n (hC.lentLt [.slice A50 ((([z48] : List Int)).length) c51]) ((hC.rd (i := 1) rfl).lent [.slice A50 ((([z48] : List Int)).length) c51]) ((hC.ow (i := 0) rfl).lend (vs := [.slice A50 ((([z48] : List Int)).length) c51]) (by simp)) h57⟩) ?_
        rintro _ w58 ⟨rfl, hK⟩
        replace hC := hC.mergeF hK rfl
        clear hK
        refine lex.pure (v := .bool (!y56)) (pu_not (q := y56) rfl) ?_
        refine lex.nil ?_
        refine hK47 _ _ ?_
        refine Wc.cond (t := (!y56)) (rfl) (fun hq59 => ?_) (fun hq59 => ?_)
        · replace hb := (cT hq59).symm.trans hb
          refine Wc.seq fun K60 hK60 => ?_
          refine Wc.region (by decide +kernel) ?_
          refine lex.pure (v := .bool false) (pu_assign rfl) ?_
          refine lex.nil ?_
          refine hK60 _ _ ?_
          obtain rfl := Option.some.inj hb
          obtain rfl := (lX hl0).symm
          replace hb := hbK0
          obtain rfl := Option.some.inj hb
          refine Wc.ret ?_
          refine hKR _ _ ?_
          refine ⟨_, res1 Try.results26 (show RV _ _ _ (.tmp _) (.bool false) from rfl), _, rfl, rfl, hC.sel [] (by decide)⟩
        · replace hb := (cF hq59).symm.trans hb
          refine Wc.skip ?_
          refine hK34 _ _ ?_
          refine Wc.region (by decide +kernel) ?_
          obtain ⟨z61, h62, hb⟩ := bd hb
          refine lex.pure (v := .int .i64 z61) (pu_addc (a := v16_0) (b := 1) e16 rfl h62) ?_
          refine lex.pure (v := .int .i64 z61) (pu_move rfl) ?_
          refine lex.nil ?_
          obtain rfl := Option.some.inj hb
          exact hK26 m27' _ _ (Nat.lt_succ_self _) ⟨z61, e2, e14, e15, rfl, (chk_rng h62), hC.sel [2] (by decide), lN hl0⟩
      · replace hb := (cF hq33).symm.trans hb
        refine Wc.exit rfl ?_
        obtain rfl := Option.some.inj hb
        obtain rfl := (lX hl0).symm
        exact hK25 _ _ ⟨v16_0, e2, hrv16_0, hC.sel [] (by decide), hbK0⟩
    · clear hb hC hl0
      rintro E64 w63 ⟨v16_0, e2, hrv16_0, hC, hb⟩
      refine hK22 _ _ ?_
      refine Wc.seq fun K65 hK65 => ?_
      refine Wc.region (by decide +kernel) ?_
      refine lex.pure (v := .bool true) (pu_assign rfl) ?_
      refine lex.nil ?_
      refine hK65 _ _ ?_
      obtain rfl := Option.some.inj hb
      refine Wc.ret ?_
      refine hKR _ _ ?_
      refine ⟨_, res1 Try.results26 (show RV _ _ _ (.tmp _) (.bool true) from rfl), _, rfl, rfl, hC.sel [] (by decide)⟩

set_option maxRecDepth 100000 in
set_option maxHeartbeats 4000000 in
theorem law36_MarkovBraids_ok (n : Nat) {w : World} {O0 : List Nat} (hO : ∀ k ∈ O0, k < w.heap.size) {strands_0 : Int} (hstrands_0 : I64 strands_0) {Aword_1 : Option Addr} {mword_1 cword_1 : Nat} {word_1 : List Int} (hword_1 : Rep O0 w (.sl (.int .i64)) [.slice Aword_1 mword_1 cword_1] word_1) {s_2_0 : Int} (hs_2_0 : I64 s_2_0) {s_2_1 : Int} (hs_2_1 : I64 s_2_1) {s_2_2 : Int} (hs_2_2 : I64 s_2_2) {r : Bool} (hb : F.law36_MarkovBraids n strands_0 word_1 s_2_0 s_2_1 s_2_2 = some r) :
    Calls Try.prog 9 #[.int .i64 strands_0, .slice Aword_1 mword_1 cword_1, .agg #[.int .i64 s_2_0, .int .i64 s_2_1, .int .i64 s_2_2]] w fun e w' => ∃ v, e = .returned v ∧ v = .bool r ∧ Cx (fun _ => False) O0 w w' [] := by
  unfold F.law36_MarkovBraids at hb
  have hC := Cx.start hO
  replace hC := hC.arg rfl hword_1
  clear hO
  obtain ⟨rfl, hlword_1, hcword_1⟩ := hword_1.sl_len
  refine calls_of_Wc Try.func9 rfl (by rw [Try.ntmps9]; exact Nat.le_of_ble_eq_true rfl) fun KR hKR => ?_
  refine Wc.seq fun K2 hK2 => ?_
  refine Wc.region (by decide +kernel) ?_
  refine lex.op (hC.box (cs := [.int .i64 s_2_0, .int .i64 s_2_1, .int .i64 s_2_2]) rfl rfl) ?_
  rintro _ w4 ⟨g3, rfl, hC, hF, hG⟩
  clear hG
  refine lex.pure (v := .bool false) (pu_assign rfl) ?_
  refine lex.nil ?_
  refine hK2 _ _ ?_
  refine Wc.seq fun K6 hK6 => ?_
  refine Wc.seq fun K7 hK7 => ?_
  refine Wc.region (by decide +kernel) ?_
  obtain ⟨y8, h9, hb⟩ := bd hb
  refine lex.cl (⟨_, _, op_call (vs := []) Try.call11 rfl rfl rfl, law36_awake_ok n hC.lt  h9⟩) ?_
  rintro _ w10 ⟨rfl, hK⟩
  replace hC := hC.merge hK
  clear hK
  refine lex.pure (v := .bool (!y8)) (pu_not (q := y8) rfl) ?_
  refine lex.nil ?_
  refine hK7 _ _ ?_
  refine Wc.cond (t := (!y8)) (rfl) (fun hq11 => ?_) (fun hq11 => ?_)
  · replace hb := (cT hq11).symm.trans hb
    refine Wc.seq fun K12 hK12 => ?_
    refine Wc.region (by decide +kernel) ?_
    refine lex.pure (v := .bool false) (pu_assign rfl) ?_
    refine lex.nil ?_
    refine hK12 _ _ ?_
    obtain rfl := Option.some.inj hb
    refine Wc.ret ?_
    refine hKR _ _ ?_
    refine ⟨_, res1 Try.results9 (show RV _ _ _ (.tmp _) (.bool false) from rfl), _, rfl, rfl, hC.sel [] (by decide)⟩
  · replace hb := (cF hq11).symm.trans hb
    refine Wc.skip ?_
    refine hK6 _ _ ?_
    refine Wc.seq fun K13 hK13 => ?_
    refine Wc.seq fun K14 hK14 => ?_
    refine Wc.region (by decide +kernel) ?_
    refine lex.pure (v := .slice Aword_1 word_1.length cword_1) (pu_move rfl) ?_
    refine lex.pure (v := .int .i64 (word_1.length : Int)) (pu_len (A := Aword_1) (n := word_1.length) (m := cword_1) Try.underlying22 rfl) ?_
    refine lex.pure (v := .bool (decide (8 < (word_1.length : Int)))) (pu_gtr (k := .i64) (a := (word_1.length : Int)) (b := 8) rfl rfl) ?_
    refine lex.pure (v := .bool (decide (8 < (word_1.length : Int)))) (pu_move rfl) ?_
    rcases bS (decide (8 < (word_1.length : Int))) with hq15 | hq15
    · replace hb := (cT hq15).symm.trans hb
      refine lex.gskip (want_f rfl rfl (show _ = Value.bool (decide (8 < (word_1.length : Int))) from rfl) hq15) ?_
      refine lex.gskip (want_f rfl rfl (show _ = Value.bool (decide (8 < (word_1.length : Int))) from rfl) hq15) ?_
      refine lex.pure (v := .bool true) (pu_pickT (q := (decide (8 < (word_1.length : Int)))) rfl hq15 rfl) ?_
      refine lex.pure (v := .bool true) (pu_move rfl) ?_
      refine lex.gskip (want_f rfl rfl (show _ = Value.bool true from rfl) rfl) ?_
      refine lex.gskip (want_f rfl rfl (show _ = Value.bool true from rfl) rfl) ?_
      refine lex.gskip (want_f rfl rfl (show _ = Value.bool true from rfl) rfl) ?_
      refine lex.pure (v := .bool true) (pu_pickT (q := true) rfl rfl rfl) ?_
      refine lex.nil ?_
      refine hK14 _ _ ?_
      refine Wc.cond_true (rfl) ?_
      refine Wc.seq fun K16 hK16 => ?_
      refine Wc.region (by decide +kernel) ?_
      refine lex.pure (v := .bool true) (pu_assign rfl) ?_
      refine lex.nil ?_
      refine hK16 _ _ ?_
      obtain rfl := Option.some.inj hb
      refine Wc.ret ?_
      refine hKR _ _ ?_
      refine ⟨_, res1 Try.results9 (show RV _ _ _ (.tmp _) (.bool true) from rfl), _, rfl, rfl, hC.sel [] (by decide)⟩
    · replace hb := (cF hq15).symm.trans hb
      refine lex.gpure (want_t rfl rfl (show _ = Value.bool (decide (8 < (word_1.length : Int))) from rfl) hq15) (v := .int .i64 strands_0) (pu_move rfl) ?_
      refine lex.gpure (want_t rfl rfl (show _ = Value.bool (decide (8 < (word_1.length : Int))) from rfl) hq15) (v := .bool (decide (4 < strands_0))) (pu_gtr (k := .i64) (a := strands_0) (b := 4) rfl rfl) ?_
      refine lex.pure (v := .bool (decide (4 < strands_0))) (pu_pickF (q := (decide (8 < (word_1.length : Int)))) rfl hq15 rfl) ?_
      refine lex.pure (v := .bool (decide (4 < strands_0))) (pu_move rfl) ?_
      rcases bS (decide (4 < strands_0)) with hq17 | hq17
      · replace hb := (cT hq17).symm.trans hb
        refine lex.gskip (want_f rfl rfl (show _ = Value.bool (decide (4 < strands_0)) from rfl) hq17) ?_
        refine lex.gskip (want_f rfl rfl (show _ = Value.bool (decide (4 < strands_0)) from rfl) hq17) ?_
        refine lex.gskip (want_f rfl rfl (show _ = Value.bool (decide (4 < strands_0)) from rfl) hq17) ?_
        refine lex.pure (v := .bool true) (pu_pickT (q := (decide (4 < strands_0))) rfl hq17 rfl) ?_
        refine lex.nil ?_
        refine hK14 _ _ ?_
        refine Wc.cond_true (rfl) ?_
        refine Wc.seq fun K18 hK18 => ?_
        refine Wc.region (by decide +kernel) ?_
        refine lex.pure (v := .bool true) (pu_assign rfl) ?_
        refine lex.nil ?_
        refine hK18 _ _ ?_
        obtain rfl := Option.some.inj hb
        refine Wc.ret ?_
        refine hKR _ _ ?_
        refine ⟨_, res1 Try.results9 (show RV _ _ _ (.tmp _) (.bool true) from rfl), _, rfl, rfl, hC.sel [] (by decide)⟩
      · replace hb := (cF hq17).symm.trans hb
        refine lex.gpure (want_t rfl rfl (show _ = Value.bool (decide (4 < strands_0)) from rfl) hq17) (v := .pointer (some ((⟨g3, 0, none⟩ : Addr).add 0))) (pu_field (sz := 1) Try.underlying24 rfl Try.sizeOf3 (by decide) rfl rfl) ?_
        refine lex.gval (want_t rfl rfl (show _ = Value.bool (decide (4 < strands_0)) from rfl) hq17) (v := .int .i64 s_2_0) (ld_fld (hC.bx (i := 0) rfl) Try.isAgg3 rfl rfl) ?_
        refine lex.gpure (want_t rfl rfl (show _ = Value.bool (decide (4 < strands_0)) from rfl) hq17) (v := .bool (decide (s_2_0 < 4))) (pu_lss (k := .i64) (a := s_2_0) (b := 4) rfl rfl) ?_
        refine lex.pure (v := .bool (decide (s_2_0 < 4))) (pu_pickF (q := (decide (4 < strands_0))) rfl hq17 rfl) ?_
        refine lex.nil ?_
        refine hK14 _ _ ?_
        refine Wc.cond (t := (decide (s_2_0 < 4))) (rfl) (fun hq19 => ?_) (fun hq19 => ?_)
        · replace hb := (cT hq19).symm.trans hb
          refine Wc.seq fun K20 hK20 => ?_
          refine Wc.region (by decide +kernel) ?_
          refine lex.pure (v := .bool true) (pu_assign rfl) ?_
          refine lex.nil ?_
          refine hK20 _ _ ?_
          obtain rfl := Option.some.inj hb
          refine Wc.ret ?_
          refine hKR _ _ ?_
          refine ⟨_, res1 Try.results9 (show RV _ _ _ (.tmp _) (.bool true) from rfl), _, rfl, rfl, hC.sel [] (by decide)⟩
        · replace hb := (cF hq19).symm.trans hb
          refine Wc.skip ?_
          refine hK13 _ _ ?_
          refine Wc.fresh fun E21 hE => ?_
          have e0 : E21 0 = .int .i64 strands_0 := (congrFun hE 0).trans rfl
          have e1 : E21 1 = .slice Aword_1 word_1.length cword_1 := (congrFun hE 1).trans rfl
          have e5 : E21 5 = .pointer (some ⟨g3, 0, none⟩) := (congrFun hE 5).trans rfl
          have e6 : E21 6 = .bool false := (congrFun hE 6).trans rfl
          clear hE
          refine Wc.seq fun K22 hK22 => ?_
          refine Wc.region (by decide +kernel) ?_
          refine lex.pure (v := .int .i64 strands_0) (pu_move e0) ?_
          refine lex.pure (v := .slice Aword_1 word_1.length cword_1) (pu_move e1) ?_
          refine lex.pure (v := .agg #[.int .i64 strands_0, .slice Aword_1 word_1.length cword_1]) (pu_builds (places := [(0, 1), (1, 1)]) (pv := [(0, .int .i64 strands_0), (1, .slice Aword_1 word_1.length cword_1)]) Try.type27 Try.underlying27 rfl (mp_cons Try.type3 (mp_cons Try.type22 mp_nil rfl rfl) rfl rfl) rfl (by simp [Instr.fill, Value.cells])) ?_
          refine lex.op (hC.alloc (cs := [.int .i64 0, .slice none 0 0]) Try.zeroValue27 rfl) ?_
          rintro _ w24 ⟨g23, rfl, hC, hF, hG⟩
          clear hG
          refine lex.sk (hC.seta (i := 0) (ds := [.int .i64 strands_0, .slice Aword_1 word_1.length cword_1]) rfl Try.type27 rfl rfl rfl rfl rfl) ?_
          rintro w26 ⟨hC, hF⟩
          refine lex.nil ?_
          refine hK22 _ _ ?_
          refine Wc.seq fun K27 hK27 => ?_
          refine Wc.region (by decide +kernel) ?_
          refine lex.val (v := .agg #[.int .i64 strands_0, .slice Aword_1 word_1.length cword_1]) (ld_blk (hC.bx (i := 0) rfl) Try.isAgg27 Try.sizeOf27 rfl) ?_
          refine lex.val (v := .agg #[.int .i64 s_2_0, .int .i64 s_2_1, .int .i64 s_2_2]) (ld_blk (hC.bx (i := 1) rfl) Try.isAgg24 Try.sizeOf24 e5) ?_
          obtain ⟨y28, h29, hb⟩ := bd hb
          refine lex.cl (⟨_, _, op_call (vs := [.agg #[.int .i64 strands_0, .slice Aword_1 word_1.length cword_1], .agg #[.int .i64 s_2_0, .int .i64 s_2_1, .int .i64 s_2_2]]) Try.call12 rfl rfl rfl, markov_Apply_ok n hC.lt hstrands_0 (hC.rd (i := 2) rfl) hs_2_0 hs_2_1 hs_2_2 h29⟩) ?_
          rintro _ w39 ⟨A31, m32, c33, rfl, hr30, hr35, hr36, hr37, hr38, hK⟩
          replace hC := hC.merge hK
          clear hK
          obtain ⟨rfl, hl40, hc41⟩ := (hC.rd (i := 0) rfl).sl_len
          refine lex.pure (v := .tuple #[.agg #[.int .i64 y28.1, .slice A31 y28.2.1.length c33], .agg #[.int .i64 y28.2.2.1, .int .i64 y28.2.2.2.1, .int .i64 y28.2.2.2.2.1], .int .i64 y28.2.2.2.2.2]) (pu_move rfl) ?_
          refine lex.pure (v := .agg #[.int .i64 y28.1, .slice A31 y28.2.1.length c33]) (pu_extract rfl rfl) ?_
          refine lex.pure (v := .agg #[.int .i64 y28.2.2.1, .int .i64 y28.2.2.2.1, .int .i64 y28.2.2.2.2.1]) (pu_extract rfl rfl) ?_
          refine lex.pure (v := .int .i64 y28.2.2.2.2.2) (pu_extract rfl rfl) ?_
          refine lex.op (hC.alloc (cs := [.int .i64 0, .slice none 0 0]) Try.zeroValue27 rfl) ?_
          rintro _ w43 ⟨g42, rfl, hC, hF, hG⟩
          clear hG
          refine lex.op (hC.alloc (cs := [.int .i64 0, .int .i64 0, .int .i64 0]) Try.zeroValue28 rfl) ?_
          rintro _ w46 ⟨g45, rfl, hC, hF, hG⟩
          clear hG
          refine lex.sk (hC.seta (i := 1) (ds := [.int .i64 y28.1, .slice A31 y28.2.1.length c33]) rfl Try.type27 rfl rfl rfl rfl rfl) ?_
          rintro w48 ⟨hC, hF⟩
          refine lex.sk (hC.seta (i := 0) (ds := [.int .i64 y28.2.2.1, .int .i64 y28.2.2.2.1, .int .i64 y28.2.2.2.2.1]) rfl Try.type28 rfl rfl rfl rfl rfl) ?_
          rintro w49 ⟨hC, hF⟩
          refine lex.pure (v := .int .i64 y28.2.2.2.2.2) (pu_assign rfl) ?_
          refine lex.nil ?_
          refine hK27 _ _ ?_
          refine Wc.fresh fun E50 hE => ?_
          have e6 : E50 6 = .bool false := (congrFun hE 6).trans e6
          have e7 : E50 7 = .pointer (some ⟨g23, 0, none⟩) := (congrFun hE 7).trans rfl
          have e8 : E50 8 = .pointer (some ⟨g42, 0, none⟩) := (congrFun hE 8).trans rfl
          have e10 : E50 10 = .int .i64 y28.2.2.2.2.2 := (congrFun hE 10).trans rfl
          clear hE
          refine Wc.seq fun K51 hK51 => ?_
          refine Wc.seq fun K52 hK52 => ?_
          refine Wc.region (by decide +kernel) ?_
          refine lex.pure (v := .int .i64 y28.2.2.2.2.2) (pu_move e10) ?_
          refine lex.pure (v := .bool (!(decide (y28.2.2.2.2.2 = 0)))) (pu_neq (k := .i64) (a := y28.2.2.2.2.2) (b := 0) rfl rfl) ?_
          refine lex.nil ?_
          refine hK52 _ _ ?_
          refine Wc.cond (t := (!(decide (y28.2.2.2.2.2 = 0)))) (rfl) (fun hq53 => ?_) (fun hq53 => ?_)
          · replace hb := (cT hq53).symm.trans hb
            refine Wc.seq fun K54 hK54 => ?_
            refine Wc.region (by decide +kernel) ?_
            refine lex.pure (v := .bool true) (pu_assign rfl) ?_
            refine lex.nil ?_
            refine hK54 _ _ ?_
            obtain rfl := Option.some.inj hb
            refine Wc.ret ?_
            refine hKR _ _ ?_
            refine ⟨_, res1 Try.results9 (show RV _ _ _ (.tmp _) (.bool true) from rfl), _, rfl, rfl, hC.sel [] (by decide)⟩
          · replace hb := (cF hq53).symm.trans hb
            refine Wc.skip ?_
            refine hK51 _ _ ?_
            refine Wc.seq fun K55 hK55 => ?_
            refine Wc.regionPlan [40, 41] (frm [40, 41] ([] : List Fact) ([] : List Fact)) (chainP [0, 1] (.alt (chainP [2] (.alt (chainP [3] (chainP [4, 5, 6, 7, 8, 9] .done)) (chainP [7] (chainP [3, 4, 5, 6, 8, 9] .done)))) (chainP [7] (chainP [2, 3, 4, 5, 6, 8, 9] .done)))) (fun _ => rfl) mixed (by decide +kernel) (by decide +kernel) fun w57 hw56 => ?_
            replace hC := hC.step (Fr.of_drew hw56)
            have hM := Fr.refl (fun k => k ∈ blocks ([] : List Fact)) w57
            clear hw56
            have hS := hC
            have hD : Fr (fun k => k ∈ blocks (([] : List Fact) ++ ([] : List Fact))) w57 w57 := hM.wide
            refine mixPE_chain ?_
            refine mixE.steady hD (v := .agg #[.int .i64 strands_0, .slice Aword_1 word_1.length cword_1]) (fun _ hF => ld_blk (hS.bx2 (i := 3) rfl [] (by decide) hF) Try.isAgg27 Try.sizeOf27 e7) ?_
            refine mixE.steady hD (v := .agg #[.int .i64 y28.1, .slice A31 y28.2.1.length c33]) (fun _ hF => ld_blk (hS.bx2 (i := 1) rfl [] (by decide) hF) Try.isAgg27 Try.sizeOf27 e8) ?_
            refine mixE.nil ?_
            refine mixPE_alt ?_ ?_
            ·
              skip
              refine mixPE_chain ?_
              obtain ⟨y58, h59, hb⟩ := bd hb
              refine mixE.cl hM (⟨_, _, op_call (vs := [.agg #[.int .i64 y28.1, .slice A31 y28.2.1.length c33]]) Try.call25 rfl rfl rfl, braid_Inverse_ok n hC.lt hr30 (hC.rd (i := 2) rfl) h59⟩) ?_
              rintro _ w65 ⟨A61, m62, c63, rfl, hr60, hK⟩
              have hBf64 := Beside.cl (i := 0) hM hK rfl
              have hUf64 := hBf64.wide (H := ([] : List Fact))
              replace hM := hM.none hK.fr
              replace hD := hM.wide (H := ([] : List Fact))
              refine ⟨hM, ?_⟩
              replace hC := hC.merge hK
              clear hK
              obtain ⟨rfl, hl66, hc67⟩ := (hC.ow (i := 0) rfl).sl_len
              refine mixE.nil ?_
              refine mixPE_alt ?_ ?_
              ·
                skip
                refine mixPE_chain ?_
                obtain ⟨y68, h69, hb⟩ := bd hb
                refine mixE.cl hM (⟨_, _, op_call (vs := [.agg #[.int .i64 strands_0, .slice Aword_1 word_1.length cword_1], .agg #[.int .i64 y58.1, .slice A61 y58.2.length c63]]) Try.call24 rfl rfl rfl, braid_Mul_ok n (hC.lentLt [.slice A61 y58.2.length c63]) hstrands_0 ((hC.rd (i := 6) rfl).lent [.slice A61 y58.2.length c63]) hr60 ((hC.ow (i := 0) rfl).lend (vs := [.slice A61 y58.2.length c63]) (by simp)) h69⟩) ?_
                rintro _ w76 ⟨A71, m72, c73, rfl, hr70, hr75, hK⟩
                have hBf74 := Beside.cl (i := 0) hM hK rfl
                have hUf74 := hBf74.wide (H := ([] : List Fact))
                replace hM := hM.none hK.fr
                replace hD := hM.wide (H := ([] : List Fact))
                refine ⟨hM, ?_⟩
                replace hC := hC.mergeF hK rfl
                clear hK
                obtain ⟨rfl, hl77, hc78⟩ := (hC.ow (i := 0) rfl).sl_len
                refine mixE.nil ?_
                refine mixPE_chain ?_
                refine mixE.pure (v := .tuple #[.agg #[.int .i64 y68.1, .slice A71 y68.2.1.length c73], .int .i64 y68.2.2]) (pu_move rfl) ?_
                refine mixE.pure (v := .agg #[.int .i64 y68.1, .slice A71 y68.2.1.length c73]) (pu_extract rfl rfl) ?_
                refine mixE.pure (v := .int .i64 y68.2.2) (pu_extract rfl rfl) ?_
                refine mixE.op hM (hC.alloc (cs := [.int .i64 0, .slice none 0 0]) Try.zeroValue27 rfl) ?_
                rintro _ w80 ⟨g79, rfl, hC, hF, hG⟩
                have hUf81 : g79 < w57.heap.size → g79 ∈ blocks (([] : List Fact) ++ ([] : List Fact)) := fun h => absurd (Nat.lt_of_lt_of_le h (Nat.le_trans hM.size hG)) (Nat.lt_irrefl _)
                clear hG
                replace hM := hM.none hF
                replace hD := hM.wide (H := ([] : List Fact))
                refine ⟨hM, ?_⟩
                refine mixE.sk hD (hC.seta (i := 0) (ds := [.int .i64 y68.1, .slice A71 y68.2.1.length c73]) rfl Try.type27 rfl rfl rfl rfl rfl) ?_
                rintro w82 ⟨hC, hF⟩
                replace hD := hD.besideG hUf81 hF
                clear hF
                refine ⟨hD, ?_⟩
                refine mixE.pure (v := .int .i64 y68.2.2) (pu_assign rfl) ?_
                refine mixE.nil ?_
                clear hS hM
                clear hD
                refine hK55 _ _ ?_
                refine Wc.fresh fun E83 hE => ?_
                have e6 : E83 6 = .bool false := (congrFun hE 6).trans e6
                have e11 : E83 11 = .pointer (some ⟨g79, 0, none⟩) := (congrFun hE 11).trans rfl
                have e12 : E83 12 = .int .i64 y68.2.2 := (congrFun hE 12).trans rfl
                clear hE
                refine Wc.seq fun K84 hK84 => ?_
                refine Wc.region (by decide +kernel) ?_
                refine lex.pure (v := .int .i64 y68.2.2) (pu_move e12) ?_
                refine lex.pure (v := .bool (decide (y68.2.2 = 0))) (pu_eql (k := .i64) (a := y68.2.2) (b := 0) rfl rfl) ?_
                refine lex.pure (v := .bool (decide (y68.2.2 = 0))) (pu_move rfl) ?_
                rcases bS (decide (y68.2.2 = 0)) with hq85 | hq85
                · replace hb := (cT hq85).symm.trans hb
                  refine lex.gval (want_t rfl rfl (show _ = Value.bool (decide (y68.2.2 = 0)) from rfl) hq85) (v := .agg #[.int .i64 y68.1, .slice A71 y68.2.1.length c73]) (ld_blk (hC.bx (i := 0) rfl) Try.isAgg27 Try.sizeOf27 e11) ?_
                  obtain ⟨y86, h87, hb⟩ := bd hb
                  refine lex.gcl (want_t rfl rfl (show _ = Value.bool (decide (y68.2.2 = 0)) from rfl) hq85) (⟨_, _, op_call (vs := [.agg #[.int .i64 y68.1, .slice A71 y68.2.1.length c73]]) Try.call26 rfl rfl rfl, artin_Trivial_ok n (hC.lentLt [.slice A71 y68.2.1.length c73]) hr70 ((hC.ow (i := 1) rfl).lend (vs := [.slice A71 y68.2.1.length c73]) (by simp)) h87⟩) ?_
                  rintro _ w88 ⟨rfl, hK⟩
                  replace hC := hC.mergeF hK rfl
                  clear hK
                  refine lex.pure (v := .bool y86) (pu_pickT (q := (decide (y68.2.2 = 0))) rfl hq85 rfl) ?_
                  refine lex.pure (v := .bool y86) (pu_assign rfl) ?_
                  refine lex.nil ?_
                  refine hK84 _ _ ?_
                  obtain rfl := Option.some.inj hb
                  refine Wc.ret ?_
                  refine hKR _ _ ?_
                  refine ⟨_, res1 Try.results9 (show RV _ _ _ (.tmp _) (.bool y86) from rfl), _, rfl, rfl, hC.sel [] (by decide)⟩
                · replace hb := (cF hq85).symm.trans hb
                  refine lex.gskip (want_f rfl rfl (show _ = Value.bool (decide (y68.2.2 = 0)) from rfl) hq85) ?_
                  refine lex.gskip (want_f rfl rfl (show _ = Value.bool (decide (y68.2.2 = 0)) from rfl) hq85) ?_
                  refine lex.pure (v := .bool false) (pu_pickF (q := (decide (y68.2.2 = 0))) rfl hq85 rfl) ?_
                  refine lex.pure (v := .bool false) (pu_assign rfl) ?_
                  refine lex.nil ?_
                  refine hK84 _ _ ?_
                  obtain rfl := Option.some.inj hb
                  refine Wc.ret ?_
                  refine hKR _ _ ?_
                  refine ⟨_, res1 Try.results9 (show RV _ _ _ (.tmp _) (.bool false) from rfl), _, rfl, rfl, hC.sel [] (by decide)⟩
              ·
                skip
                refine mixPE_chain ?_
                refine mixE.op hM (hC.alloc (cs := [.int .i64 0, .slice none 0 0]) Try.zeroValue27 rfl) ?_
                rintro _ w90 ⟨g89, rfl, hC, hF, hG⟩
                have hUf91 : g89 < w57.heap.size → g89 ∈ blocks (([] : List Fact) ++ ([] : List Fact)) := fun h => absurd (Nat.lt_of_lt_of_le h (Nat.le_trans hM.size hG)) (Nat.lt_irrefl _)
                clear hG
                replace hM := hM.none hF
                replace hD := hM.wide (H := ([] : List Fact))
                refine ⟨hM, ?_⟩
                refine mixE.nil ?_
                refine mixPE_chain ?_
                obtain ⟨y68, h93, hb⟩ := bd hb
                refine mixE.cl hM (⟨_, _, op_call (vs := [.agg #[.int .i64 strands_0, .slice Aword_1 word_1.length cword_1], .agg #[.int .i64 y58.1, .slice A61 y58.2.length c63]]) Try.call24 rfl rfl rfl, braid_Mul_ok n (hC.lentLt [.slice A61 y58.2.length c63]) hstrands_0 ((hC.rd (i := 7) rfl).lent [.slice A61 y58.2.length c63]) hr60 ((hC.ow (i := 1) rfl).lend (vs := [.slice A61 y58.2.length c63]) (by simp)) h93⟩) ?_
                rintro _ w100 ⟨A95, m96, c97, rfl, hr94, hr99, hK⟩
                have hBf98 := Beside.cl (i := 0) hM hK rfl
                have hUf98 := hBf98.wide (H := ([] : List Fact))
                replace hM := hM.none hK.fr
                replace hD := hM.wide (H := ([] : List Fact))
                refine ⟨hM, ?_⟩
                replace hC := hC.mergeF hK rfl
                clear hK
                obtain ⟨rfl, hl101, hc102⟩ := (hC.ow (i := 0) rfl).sl_len
                refine mixE.pure (v := .tuple #[.agg #[.int .i64 y68.1, .slice A95 y68.2.1.length c97], .int .i64 y68.2.2]) (pu_move rfl) ?_
                refine mixE.pure (v := .agg #[.int .i64 y68.1, .slice A95 y68.2.1.length c97]) (pu_extract rfl rfl) ?_
                refine mixE.pure (v := .int .i64 y68.2.2) (pu_extract rfl rfl) ?_
                refine mixE.sk hD (hC.seta (i := 1) (ds := [.int .i64 y68.1, .slice A95 y68.2.1.length c97]) rfl Try.type27 rfl rfl rfl rfl rfl) ?_
                rintro w103 ⟨hC, hF⟩
                replace hD := hD.besideG hUf91 hF
                clear hF
                refine ⟨hD, ?_⟩
                refine mixE.pure (v := .int .i64 y68.2.2) (pu_assign rfl) ?_
                refine mixE.nil ?_
                clear hS hM
                clear hD
                refine hK55 _ _ ?_
                refine Wc.fresh fun E104 hE => ?_
                have e6 : E104 6 = .bool false := (congrFun hE 6).trans e6
                have e11 : E104 11 = .pointer (some ⟨g89, 0, none⟩) := (congrFun hE 11).trans rfl
                have e12 : E104 12 = .int .i64 y68.2.2 := (congrFun hE 12).trans rfl
                clear hE
                refine Wc.seq fun K105 hK105 => ?_
                refine Wc.region (by decide +kernel) ?_
                refine lex.pure (v := .int .i64 y68.2.2) (pu_move e12) ?_
                refine lex.pure (v := .bool (decide (y68.2.2 = 0))) (pu_eql (k := .i64) (a := y68.2.2) (b := 0) rfl rfl) ?_
                refine lex.pure (v := .bool (decide (y68.2.2 = 0))) (pu_move rfl) ?_
                rcases bS (decide (y68.2.2 = 0)) with hq106 | hq106
                · replace hb := (cT hq106).symm.trans hb
                  refine lex.gval (want_t rfl rfl (show _ = Value.bool (decide (y68.2.2 = 0)) from rfl) hq106) (v := .agg #[.int .i64 y68.1, .slice A95 y68.2.1.length c97]) (ld_blk (hC.bx (i := 1) rfl) Try.isAgg27 Try.sizeOf27 e11) ?_
                  obtain ⟨y86, h108, hb⟩ := bd hb
                  refine lex.gcl (want_t rfl rfl (show _ = Value.bool (decide (y68.2.2 = 0)) from rfl) hq106) (⟨_, _, op_call (vs := [.agg #[.int .i64 y68.1, .slice A95 y68.2.1.length c97]]) Try.call26 rfl rfl rfl, artin_Trivial_ok n (hC.lentLt [.slice A95 y68.2.1.length c97]) hr94 ((hC.ow (i := 0) rfl).lend (vs := [.slice A95 y68.2.1.length c97]) (by simp)) h108⟩) ?_
                  rintro _ w109 ⟨rfl, hK⟩
                  replace hC := hC.mergeF hK rfl
                  clear hK
                  refine lex.pure (v := .bool y86) (pu_pickT (q := (decide (y68.2.2 = 0))) rfl hq106 rfl) ?_
                  refine lex.pure (v := .bool y86) (pu_assign rfl) ?_
                  refine lex.nil ?_
                  refine hK105 _ _ ?_
                  obtain rfl := Option.some.inj hb
                  refine Wc.ret ?_
                  refine hKR _ _ ?_
                  refine ⟨_, res1 Try.results9 (show RV _ _ _ (.tmp _) (.bool y86) from rfl), _, rfl, rfl, hC.sel [] (by decide)⟩
                · replace hb := (cF hq106).symm.trans hb
                  refine lex.gskip (want_f rfl rfl (show _ = Value.bool (decide (y68.2.2 = 0)) from rfl) hq106) ?_
                  refine lex.gskip (want_f rfl rfl (show _ = Value.bool (decide (y68.2.2 = 0)) from rfl) hq106) ?_
                  refine lex.pure (v := .bool false) (pu_pickF (q := (decide (y68.2.2 = 0))) rfl hq106 rfl) ?_
                  refine lex.pure (v := .bool false) (pu_assign rfl) ?_
                  refine lex.nil ?_
                  refine hK105 _ _ ?_
                  obtain rfl := Option.some.inj hb
                  refine Wc.ret ?_
                  refine hKR _ _ ?_
                  refine ⟨_, res1 Try.results9 (show RV _ _ _ (.tmp _) (.bool false) from rfl), _, rfl, rfl, hC.sel [] (by decide)⟩
            ·
              skip
              refine mixPE_chain ?_
              refine mixE.op hM (hC.alloc (cs := [.int .i64 0, .slice none 0 0]) Try.zeroValue27 rfl) ?_
              rintro _ w111 ⟨g110, rfl, hC, hF, hG⟩
              have hUf112 : g110 < w57.heap.size → g110 ∈ blocks (([] : List Fact) ++ ([] : List Fact)) := fun h => absurd (Nat.lt_of_lt_of_le h (Nat.le_trans hM.size hG)) (Nat.lt_irrefl _)
              clear hG
              replace hM := hM.none hF
              replace hD := hM.wide (H := ([] : List Fact))
              refine ⟨hM, ?_⟩
              refine mixE.nil ?_
              refine mixPE_chain ?_
              obtain ⟨y58, h114, hb⟩ := bd hb
              refine mixE.cl hM (⟨_, _, op_call (vs := [.agg #[.int .i64 y28.1, .slice A31 y28.2.1.length c33]]) Try.call25 rfl rfl rfl, braid_Inverse_ok n hC.lt hr30 (hC.rd (i := 3) rfl) h114⟩) ?_
              rintro _ w120 ⟨A116, m117, c118, rfl, hr115, hK⟩
              have hBf119 := Beside.cl (i := 0) hM hK rfl
              have hUf119 := hBf119.wide (H := ([] : List Fact))
              replace hM := hM.none hK.fr
              replace hD := hM.wide (H := ([] : List Fact))
              refine ⟨hM, ?_⟩
              replace hC := hC.merge hK
              clear hK
              obtain ⟨rfl, hl121, hc122⟩ := (hC.ow (i := 0) rfl).sl_len
              obtain ⟨y68, h124, hb⟩ := bd hb
              refine mixE.cl hM (⟨_, _, op_call (vs := [.agg #[.int .i64 strands_0, .slice Aword_1 word_1.length cword_1], .agg #[.int .i64 y58.1, .slice A116 y58.2.length c118]]) Try.call24 rfl rfl rfl, braid_Mul_ok n (hC.lentLt [.slice A116 y58.2.length c118]) hstrands_0 ((hC.rd (i := 7) rfl).lent [.slice A116 y58.2.length c118]) hr115 ((hC.ow (i := 0) rfl).lend (vs := [.slice A116 y58.2.length c118]) (by simp)) h124⟩) ?_
              rintro _ w131 ⟨A126, m127, c128, rfl, hr125, hr130, hK⟩
              have hBf129 := Beside.cl (i := 0) hM hK rfl
              have hUf129 := hBf129.wide (H := ([] : List Fact))
              replace hM := hM.none hK.fr
              replace hD := hM.wide (H := ([] : List Fact))
              refine ⟨hM, ?_⟩
              replace hC := hC.mergeF hK rfl
              clear hK
              obtain ⟨rfl, hl132, hc133⟩ := (hC.ow (i := 0) rfl).sl_len
              refine mixE.pure (v := .tuple #[.agg #[.int .i64 y68.1, .slice A126 y68.2.1.length c128], .int .i64 y68.2.2]) (pu_move rfl) ?_
              refine mixE.pure (v := .agg #[.int .i64 y68.1, .slice A126 y68.2.1.length c128]) (pu_extract rfl rfl) ?_
              refine mixE.pure (v := .int .i64 y68.2.2) (pu_extract rfl rfl) ?_
              refine mixE.sk hD (hC.seta (i := 2) (ds := [.int .i64 y68.1, .slice A126 y68.2.1.length c128]) rfl Try.type27 rfl rfl rfl rfl rfl) ?_
              rintro w134 ⟨hC, hF⟩
              replace hD := hD.besideG hUf112 hF
              clear hF
              refine ⟨hD, ?_⟩
              refine mixE.pure (v := .int .i64 y68.2.2) (pu_assign rfl) ?_
              refine mixE.nil ?_
              clear hS hM
              clear hD
              refine hK55 _ _ ?_
              refine Wc.fresh fun E135 hE => ?_
              have e6 : E135 6 = .bool false := (congrFun hE 6).trans e6
              have e11 : E135 11 = .pointer (some ⟨g110, 0, none⟩) := (congrFun hE 11).trans rfl
              have e12 : E135 12 = .int .i64 y68.2.2 := (congrFun hE 12).trans rfl
              clear hE
              refine Wc.seq fun K136 hK136 => ?_
              refine Wc.region (by decide +kernel) ?_
              refine lex.pure (v := .int .i64 y68.2.2) (pu_move e12) ?_
              refine lex.pure (v := .bool (decide (y68.2.2 = 0))) (pu_eql (k := .i64) (a := y68.2.2) (b := 0) rfl rfl) ?_
              refine lex.pure (v := .bool (decide (y68.2.2 = 0))) (pu_move rfl) ?_
              rcases bS (decide (y68.2.2 = 0)) with hq137 | hq137
              · replace hb := (cT hq137).symm.trans hb
                refine lex.gval (want_t rfl rfl (show _ = Value.bool (decide (y68.2.2 = 0)) from rfl) hq137) (v := .agg #[.int .i64 y68.1, .slice A126 y68.2.1.length c128]) (ld_blk (hC.bx (i := 2) rfl) Try.isAgg27 Try.sizeOf27 e11) ?_
                obtain ⟨y86, h139, hb⟩ := bd hb
                refine lex.gcl (want_t rfl rfl (show _ = Value.bool (decide (y68.2.2 = 0)) from rfl) hq137) (⟨_, _, op_call (vs := [.agg #[.int .i64 y68.1, .slice A126 y68.2.1.length c128]]) Try.call26 rfl rfl rfl, artin_Trivial_ok n (hC.lentLt [.slice A126 y68.2.1.length c128]) hr125 ((hC.ow (i := 0) rfl).lend (vs := [.slice A126 y68.2.1.length c128]) (by simp)) h139⟩) ?_
                rintro _ w140 ⟨rfl, hK⟩
                replace hC := hC.mergeF hK rfl
                clear hK
                refine lex.pure (v := .bool y86) (pu_pickT (q := (decide (y68.2.2 = 0))) rfl hq137 rfl) ?_
                refine lex.pure (v := .bool y86) (pu_assign rfl) ?_
                refine lex.nil ?_
                refine hK136 _ _ ?_
                obtain rfl := Option.some.inj hb
                refine Wc.ret ?_
                refine hKR _ _ ?_
                refine ⟨_, res1 Try.results9 (show RV _ _ _ (.tmp _) (.bool y86) from rfl), _, rfl, rfl, hC.sel [] (by decide)⟩
              · replace hb := (cF hq137).symm.trans hb
                refine lex.gskip (want_f rfl rfl (show _ = Value.bool (decide (y68.2.2 = 0)) from rfl) hq137) ?_
                refine lex.gskip (want_f rfl rfl (show _ = Value.bool (decide (y68.2.2 = 0)) from rfl) hq137) ?_
                refine lex.pure (v := .bool false) (pu_pickF (q := (decide (y68.2.2 = 0))) rfl hq137 rfl) ?_
                refine lex.pure (v := .bool false) (pu_assign rfl) ?_
                refine lex.nil ?_
                refine hK136 _ _ ?_
                obtain rfl := Option.some.inj hb
                refine Wc.ret ?_
                refine hKR _ _ ?_
                refine ⟨_, res1 Try.results9 (show RV _ _ _ (.tmp _) (.bool false) from rfl), _, rfl, rfl, hC.sel [] (by decide)⟩
end Go.Proofs.Ytkjpldmelafooaa
