/- The walks: part 19. -/
import Derived.Test.YtmlkiafidahnbaaS
import Derived.Test.YtmlkiafidahnbaaG0
import Derived.Test.YtmlkiafidahnbaaG2
import Derived.Test.YtmlkiafidahnbaaG8
import Derived.Test.YtmlkiafidahnbaaG13
import Derived.Test.YtmlkiafidahnbaaG18
set_option linter.unusedVariables false
set_option linter.unusedSimpArgs false
namespace Go.Proofs.Ytmlkiafidahnbaa
open Ev
set_option maxRecDepth 100000 in
set_option maxHeartbeats 4000000 in
theorem law30_PermTransitive_ok (n : Nat) {w : World} {O0 : List Nat} (hO : ∀ k ∈ O0, k < w.heap.size) {Al_0 : Option Addr} {ml_0 cl_0 : Nat} {l_0 : List (List Int)} (hl_0 : Rep O0 w (.sl (.sl (.int .i64))) [.slice Al_0 ml_0 cl_0] l_0) {Aq_1 : Option Addr} {mq_1 cq_1 : Nat} {q_1 : List Int} (hq_1 : Rep O0 w (.sl (.int .i64)) [.slice Aq_1 mq_1 cq_1] q_1) {r : Bool} (hb : F.law30_PermTransitive n l_0 q_1 = some r) :
    Calls Try.prog 8 #[.slice Al_0 ml_0 cl_0, .slice Aq_1 mq_1 cq_1] w fun e w' => ∃ v, e = .returned v ∧ v = .bool r ∧ Cx (fun _ => False) O0 w w' [] := by
  unfold F.law30_PermTransitive at hb
  have hC := Cx.start hO
  replace hC := hC.arg rfl hl_0
  replace hC := hC.arg rfl hq_1
  clear hO
  obtain ⟨rfl, hll_0, hcl_0⟩ := hl_0.sl_len
  obtain ⟨rfl, hlq_1, hcq_1⟩ := hq_1.sl_len
  refine calls_of_Wc Try.func8 rfl (by rw [Try.ntmps8]; exact Nat.le_of_ble_eq_true rfl) fun KR hKR => ?_
  refine Wc.seq fun K3 hK3 => ?_
  refine Wc.region (by decide +kernel) ?_
  refine lex.pure (v := .bool false) (pu_assign rfl) ?_
  refine lex.nil ?_
  refine hK3 _ _ ?_
  refine Wc.seq fun K4 hK4 => ?_
  refine Wc.seq fun K5 hK5 => ?_
  refine Wc.region (by decide +kernel) ?_
  obtain ⟨y6, h7, hb⟩ := bd hb
  refine lex.cl (⟨_, _, op_call (vs := []) Try.call10 rfl rfl rfl, law30_awake_ok n hC.lt  h7⟩) ?_
  rintro _ w8 ⟨rfl, hK⟩
  replace hC := hC.merge hK
  clear hK
  refine lex.pure (v := .bool (!y6)) (pu_not (q := y6) rfl) ?_
  refine lex.pure (v := .bool (!y6)) (pu_move rfl) ?_
  rcases bS (!y6) with hq9 | hq9
  · replace hb := (cT hq9).symm.trans hb
    refine lex.gskip (want_f rfl rfl (show _ = Value.bool (!y6) from rfl) hq9) ?_
    refine lex.gskip (want_f rfl rfl (show _ = Value.bool (!y6) from rfl) hq9) ?_
    refine lex.gskip (want_f rfl rfl (show _ = Value.bool (!y6) from rfl) hq9) ?_
    refine lex.pure (v := .bool true) (pu_pickT (q := (!y6)) rfl hq9 rfl) ?_
    refine lex.pure (v := .bool true) (pu_move rfl) ?_
    refine lex.gskip (want_f rfl rfl (show _ = Value.bool true from rfl) rfl) ?_
    refine lex.gskip (want_f rfl rfl (show _ = Value.bool true from rfl) rfl) ?_
    refine lex.gskip (want_f rfl rfl (show _ = Value.bool true from rfl) rfl) ?_
    refine lex.pure (v := .bool true) (pu_pickT (q := true) rfl rfl rfl) ?_
    refine lex.nil ?_
    refine hK5 _ _ ?_
    refine Wc.cond_true (rfl) ?_
    refine Wc.seq fun K10 hK10 => ?_
    refine Wc.region (by decide +kernel) ?_
    obtain ⟨y11, h12, hb⟩ := bd hb
    refine lex.cl (⟨_, _, op_call (vs := []) Try.call10 rfl rfl rfl, law30_awake_ok n hC.lt  h12⟩) ?_
    rintro _ w13 ⟨rfl, hK⟩
    replace hC := hC.merge hK
    clear hK
    refine lex.pure (v := .bool y11) (pu_assign rfl) ?_
    refine lex.nil ?_
    refine hK10 _ _ ?_
    obtain rfl := Option.some.inj hb
    refine Wc.ret ?_
    refine hKR _ _ ?_
    refine ⟨_, res1 Try.results8 (show RV _ _ _ (.tmp _) (.bool y11) from rfl), _, rfl, rfl, hC.sel [] (by decide)⟩
  · replace hb := (cF hq9).symm.trans hb
    refine lex.gpure (want_t rfl rfl (show _ = Value.bool (!y6) from rfl) hq9) (v := .slice Al_0 l_0.length cl_0) (pu_move rfl) ?_
    obtain ⟨y14, h15, hb⟩ := bd hb
    refine lex.gcl (want_t rfl rfl (show _ = Value.bool (!y6) from rfl) hq9) (⟨_, _, op_call (vs := [.slice Al_0 l_0.length cl_0]) Try.call32 rfl rfl rfl, law30_short_ok n hC.lt (hC.rd (i := 1) rfl) h15⟩) ?_
    rintro _ w16 ⟨rfl, hK⟩
    replace hC := hC.merge hK
    clear hK
    refine lex.gpure (want_t rfl rfl (show _ = Value.bool (!y6) from rfl) hq9) (v := .bool (!y14)) (pu_not (q := y14) rfl) ?_
    refine lex.pure (v := .bool (!y14)) (pu_pickF (q := (!y6)) rfl hq9 rfl) ?_
    refine lex.pure (v := .bool (!y14)) (pu_move rfl) ?_
    rcases bS (!y14) with hq17 | hq17
    · replace hb := (cT hq17).symm.trans hb
      refine lex.gskip (want_f rfl rfl (show _ = Value.bool (!y14) from rfl) hq17) ?_
      refine lex.gskip (want_f rfl rfl (show _ = Value.bool (!y14) from rfl) hq17) ?_
      refine lex.gskip (want_f rfl rfl (show _ = Value.bool (!y14) from rfl) hq17) ?_
      refine lex.pure (v := .bool true) (pu_pickT (q := (!y14)) rfl hq17 rfl) ?_
      refine lex.nil ?_
      refine hK5 _ _ ?_
      refine Wc.fresh fun E18 hE => ?_
      have e0 : E18 0 = .slice Al_0 l_0.length cl_0 := (congrFun hE 0).trans rfl
      have e1 : E18 1 = .slice Aq_1 q_1.length cq_1 := (congrFun hE 1).trans rfl
      have e4 : E18 4 = .bool false := (congrFun hE 4).trans rfl
      have e23 : E18 23 = .bool true := (congrFun hE 23).trans rfl
      clear hE
      refine Wc.cond_true (e23) ?_
      refine Wc.seq fun K19 hK19 => ?_
      refine Wc.region (by decide +kernel) ?_
      obtain ⟨y20, h21, hb⟩ := bd hb
      refine lex.cl (⟨_, _, op_call (vs := []) Try.call10 rfl rfl rfl, law30_awake_ok n hC.lt  h21⟩) ?_
      rintro _ w22 ⟨rfl, hK⟩
      replace hC := hC.merge hK
      clear hK
      refine lex.pure (v := .bool y20) (pu_assign rfl) ?_
      refine lex.nil ?_
      refine hK19 _ _ ?_
      obtain rfl := Option.some.inj hb
      refine Wc.ret ?_
      refine hKR _ _ ?_
      refine ⟨_, res1 Try.results8 (show RV _ _ _ (.tmp _) (.bool y20) from rfl), _, rfl, rfl, hC.sel [] (by decide)⟩
    · replace hb := (cF hq17).symm.trans hb
      refine lex.gpure (want_t rfl rfl (show _ = Value.bool (!y14) from rfl) hq17) (v := .slice Aq_1 q_1.length cq_1) (pu_move rfl) ?_
      refine lex.gpure (want_t rfl rfl (show _ = Value.bool (!y14) from rfl) hq17) (v := .int .i64 (q_1.length : Int)) (pu_len (A := Aq_1) (n := q_1.length) (m := cq_1) Try.underlying28 rfl) ?_
      refine lex.gpure (want_t rfl rfl (show _ = Value.bool (!y14) from rfl) hq17) (v := .bool (decide (30 < (q_1.length : Int)))) (pu_gtr (k := .i64) (a := (q_1.length : Int)) (b := 30) rfl rfl) ?_
      refine lex.pure (v := .bool (decide (30 < (q_1.length : Int)))) (pu_pickF (q := (!y14)) rfl hq17 rfl) ?_
      refine lex.nil ?_
      refine hK5 _ _ ?_
      refine Wc.fresh fun E23 hE => ?_
      have e0 : E23 0 = .slice Al_0 l_0.length cl_0 := (congrFun hE 0).trans rfl
      have e1 : E23 1 = .slice Aq_1 q_1.length cq_1 := (congrFun hE 1).trans rfl
      have e4 : E23 4 = .bool false := (congrFun hE 4).trans rfl
      have e23 : E23 23 = .bool (decide (30 < (q_1.length : Int))) := (congrFun hE 23).trans rfl
      clear hE
      refine Wc.cond (t := (decide (30 < (q_1.length : Int)))) (e23) (fun hq24 => ?_) (fun hq24 => ?_)
      · replace hb := (cT hq24).symm.trans hb
        refine Wc.seq fun K25 hK25 => ?_
        refine Wc.region (by decide +kernel) ?_
        obtain ⟨y26, h27, hb⟩ := bd hb
        refine lex.cl (⟨_, _, op_call (vs := []) Try.call10 rfl rfl rfl, law30_awake_ok n hC.lt  h27⟩) ?_
        rintro _ w28 ⟨rfl, hK⟩
        replace hC := hC.merge hK
        clear hK
        refine lex.pure (v := .bool y26) (pu_assign rfl) ?_
        refine lex.nil ?_
        refine hK25 _ _ ?_
        obtain rfl := Option.some.inj hb
        refine Wc.ret ?_
        refine hKR _ _ ?_
        refine ⟨_, res1 Try.results8 (show RV _ _ _ (.tmp _) (.bool y26) from rfl), _, rfl, rfl, hC.sel [] (by decide)⟩
      · replace hb := (cF hq24).symm.trans hb
        refine Wc.skip ?_
        refine hK4 _ _ ?_
        refine Wc.seq fun K29 hK29 => ?_
        refine Wc.region (by decide +kernel) ?_
        refine lex.pure (v := .slice Al_0 l_0.length cl_0) (pu_move e0) ?_
        obtain ⟨y30, h31, hb⟩ := bd hb
        refine lex.cl (⟨_, _, op_call (vs := [.slice Al_0 l_0.length cl_0]) Try.call33 rfl rfl rfl, perm_Transitive_ok n hC.lt (hC.rd (i := 1) rfl) h31⟩) ?_
        rintro _ w32 ⟨rfl, hK⟩
        replace hC := hC.merge hK
        clear hK
        refine lex.pure (v := .bool y30) (pu_assign rfl) ?_
        refine lex.nil ?_
        refine hK29 _ _ ?_
        refine Wc.seq fun K33 hK33 => ?_
        refine Wc.seq fun K34 hK34 => ?_
        refine Wc.region (by decide +kernel) ?_
        refine lex.pure (v := .bool y30) (pu_move rfl) ?_
        refine lex.pure (v := .slice Al_0 l_0.length cl_0) (pu_move e0) ?_
        obtain ⟨y35, h36, hb⟩ := bd hb
        refine lex.cl (⟨_, _, op_call (vs := [.slice Al_0 l_0.length cl_0]) Try.call16 rfl rfl rfl, law30_plain_ok n hC.lt (hC.rd (i := 1) rfl) h36⟩) ?_
        rintro _ w41 ⟨A37, m38, c39, rfl, hK⟩
        replace hC := hC.merge hK
        clear hK
        obtain ⟨rfl, hl42, hc43⟩ := (hC.ow (i := 0) rfl).sl_len
        obtain ⟨y44, h45, hb⟩ := bd hb
        refine lex.cl (⟨_, _, op_call (vs := [.slice A37 y35.length c39]) Try.call34 rfl rfl rfl, ref30_Transitive_ok n (hC.lentLt [.slice A37 y35.length c39]) ((hC.ow (i := 0) rfl).lend (vs := [.slice A37 y35.length c39]) (by simp)) h45⟩) ?_
        rintro _ w46 ⟨rfl, hK⟩
        replace hC := hC.mergeF hK rfl
        clear hK
        refine lex.pure (v := .bool (!(y30 == y44))) (pu_neqb (p := y30) (q := y44) Try.underlying4 rfl rfl) ?_
        refine lex.nil ?_
        refine hK34 _ _ ?_
        refine Wc.cond (t := (!(y30 == y44))) (rfl) (fun hq47 => ?_) (fun hq47 => ?_)
        · replace hb := (cT hq47).symm.trans hb
          refine Wc.seq fun K48 hK48 => ?_
          refine Wc.region (by decide +kernel) ?_
          refine lex.pure (v := .bool false) (pu_assign rfl) ?_
          refine lex.nil ?_
          refine hK48 _ _ ?_
          obtain rfl := Option.some.inj hb
          refine Wc.ret ?_
          refine hKR _ _ ?_
          refine ⟨_, res1 Try.results8 (show RV _ _ _ (.tmp _) (.bool false) from rfl), _, rfl, rfl, hC.sel [] (by decide)⟩
        · replace hb := (cF hq47).symm.trans hb
          refine Wc.skip ?_
          refine hK33 _ _ ?_
          refine Wc.seq fun K49 hK49 => ?_
          refine Wc.region (by decide +kernel) ?_
          refine lex.pure (v := .slice none 0 0) (pu_assign rfl) ?_
          refine lex.nil ?_
          refine hK49 _ _ ?_
          refine Wc.seq fun K50 hK50 => ?_
          refine Wc.seq fun K51 hK51 => ?_
          refine Wc.region (by decide +kernel) ?_
          refine lex.pure (v := .slice Al_0 l_0.length cl_0) (pu_move e0) ?_
          refine lex.pure (v := .int .i64 (l_0.length : Int)) (pu_len (A := Al_0) (n := l_0.length) (m := cl_0) Try.underlying32 rfl) ?_
          refine lex.pure (v := .int .i64 0) (pu_move rfl) ?_
          refine lex.nil ?_
          refine hK51 _ _ ?_
          refine Wc.fresh fun E52 hE => ?_
          have e1 : E52 1 = .slice Aq_1 q_1.length cq_1 := (congrFun hE 1).trans e1
          have e4 : E52 4 = .bool false := (congrFun hE 4).trans e4
          have e5 : E52 5 = .bool y30 := (congrFun hE 5).trans rfl
          have e6 : E52 6 = .slice none 0 0 := (congrFun hE 6).trans rfl
          have e32 : E52 32 = .slice Al_0 l_0.length cl_0 := (congrFun hE 32).trans rfl
          have e33 : E52 33 = .int .i64 (l_0.length : Int) := (congrFun hE 33).trans rfl
          have e34 : E52 34 = .int .i64 0 := (congrFun hE 34).trans rfl
          clear hE
          replace hC := hC.nil 29 (.sl (.int .i64))
          obtain ⟨o54, hl0, hb⟩ := bd hb
          refine Wc.cut (fun E wv => ∃ (l6_0 : List (List Int)) (v34_0 : Int) (Al6_0 : Option Addr) (ml6_0 cl6_0 : Nat), E 4 = .bool false ∧ E 5 = .bool y30 ∧ E 6 = .slice Al6_0 ml6_0 cl6_0 ∧ I64 v34_0 ∧ Cx (fun _ => False) O0 w wv [.own 29 (.sl (.int .i64)) (.slice Al6_0 ml6_0 cl6_0) l6_0] ∧ ((F.perm_Transitive n l6_0).bind fun y148 => some (y148 == y30) : Option (Bool)) = some r) (fun K55 hK55 => ?_) ?_
          · refine Wc.block ?_
            refine Wc.loop (fun m E wv => ∃ (l6_0 : List (List Int)) (v34_0 : Int) (Al6_0 : Option Addr) (ml6_0 cl6_0 : Nat), E 1 = .slice Aq_1 q_1.length cq_1 ∧ E 4 = .bool false ∧ E 5 = .bool y30 ∧ E 6 = .slice Al6_0 ml6_0 cl6_0 ∧ E 32 = .slice Al_0 l_0.length cl_0 ∧ E 33 = .int .i64 (l_0.length : Int) ∧ E 34 = .int .i64 v34_0 ∧ I64 v34_0 ∧ Cx (fun _ => False) O0 w wv [.ro (.sl (.int .i64)) [.slice Aq_1 q_1.length cq_1] q_1, .own 29 (.sl (.int .i64)) (.slice Al6_0 ml6_0 cl6_0) l6_0, .ro (.sl (.sl (.int .i64))) [.slice Al_0 l_0.length cl_0] l_0] ∧ loopN m (F.law30_PermTransitive_b0 n l_0 q_1) (l6_0, v34_0) = some o54) n ⟨([] : List (List Int)), 0, none, 0, 0, e1, e4, e5, e6, e32, e33, e34, (show I64 0 from by unfold I64; omega), hC.sel [2, 0, 3] (by decide), hl0⟩ ?_
            have hbK0 := hb
            clear hb hC hl0
            rintro m57 E59 w58 ⟨l6_0, v34_0, Al6_0, ml6_0, cl6_0, e1, e4, e5, e6, e32, e33, e34, hrv34_0, hC, hl0⟩ K56 hK56
            obtain ⟨m57', o60, rfl, hb, hl0⟩ := loopN_some hl0
            unfold F.law30_PermTransitive_b0 at hb
            obtain ⟨rfl, hll6_0, hcl6_0⟩ := (hC.ow (i := 1) rfl).sl_len
            refine Wc.seq fun K61 hK61 => ?_
            refine Wc.region (by decide +kernel) ?_
            refine lex.pure (v := .bool (decide (v34_0 < (l_0.length : Int)))) (pu_lss (k := .i64) (a := v34_0) (b := (l_0.length : Int)) e34 e33) ?_
            refine lex.nil ?_
            refine hK61 _ _ ?_
            refine Wc.seq fun K62 hK62 => ?_
            refine Wc.cond (t := (decide (v34_0 < (l_0.length : Int)))) (rfl) (fun hq63 => ?_) (fun hq63 => ?_)
            · replace hb := (cT hq63).symm.trans hb
              refine Wc.skip ?_
              refine hK62 _ _ ?_
              refine Wc.seq fun K64 hK64 => ?_
              refine Wc.block ?_
              refine Wc.seq fun K65 hK65 => ?_
              refine Wc.region (by decide +kernel) ?_
              obtain ⟨x66, h67, hb⟩ := bd hb
              obtain ⟨ad68, cs69, hA, hc70, hr71⟩ := hC.elr (i := 2) rfl (get_some h67).2
              subst hA
              refine lex.pure (v := .pointer (some (ad68.add (v34_0.toNat * 1)))) (pu_index (a := v34_0) Try.underlying32 Try.sizeOf29 e32 e34 (get_some h67).1) ?_
              have hR := hr71
              obtain ⟨A72, c73, rfl, hl74, hc75, _⟩ := hr71
              replace hC := hC.ro hR
              clear hR
              refine lex.val (v := .slice A72 x66.length c73) (ld_one Try.isAgg29 rfl (hc70 0 _ rfl)) ?_
              refine lex.pure (v := .slice A72 x66.length c73) (pu_assign rfl) ?_
              refine lex.nil ?_
              refine hK65 _ _ ?_
              refine Wc.seq fun K77 hK77 => ?_
              refine Wc.seq fun K78 hK78 => ?_
              refine Wc.region (by decide +kernel) ?_
              refine lex.pure (v := .slice A72 x66.length c73) (pu_move rfl) ?_
              obtain ⟨y79, h80, hb⟩ := bd hb
              refine lex.cl (⟨_, _, op_call (vs := [.slice A72 x66.length c73]) Try.call19 rfl rfl rfl, perm_Valid_ok n hC.lt (hC.rd (i := 0) rfl) h80⟩) ?_
              rintro _ w81 ⟨rfl, hK⟩
              replace hC := hC.merge hK
              clear hK
              refine lex.pure (v := .bool (!y79)) (pu_not (q := y79) rfl) ?_
              refine lex.pure (v := .bool (!y79)) (pu_move rfl) ?_
              rcases bS (!y79) with hq82 | hq82
              · replace hb := (cT hq82).symm.trans hb
                refine lex.gskip (want_f rfl rfl (show _ = Value.bool (!y79) from rfl) hq82) ?_
                refine lex.gskip (want_f rfl rfl (show _ = Value.bool (!y79) from rfl) hq82) ?_
                refine lex.gskip (want_f rfl rfl (show _ = Value.bool (!y79) from rfl) hq82) ?_
                refine lex.pure (v := .bool true) (pu_pickT (q := (!y79)) rfl hq82 rfl) ?_
                refine lex.pure (v := .bool true) (pu_move rfl) ?_
                refine lex.gskip (want_f rfl rfl (show _ = Value.bool true from rfl) rfl) ?_
                refine lex.gskip (want_f rfl rfl (show _ = Value.bool true from rfl) rfl) ?_
                refine lex.gskip (want_f rfl rfl (show _ = Value.bool true from rfl) rfl) ?_
                refine lex.gskip (want_f rfl rfl (show _ = Value.bool true from rfl) rfl) ?_
                refine lex.gskip (want_f rfl rfl (show _ = Value.bool true from rfl) rfl) ?_
                refine lex.pure (v := .bool true) (pu_pickT (q := true) rfl rfl rfl) ?_
                refine lex.nil ?_
                refine hK78 _ _ ?_
                refine Wc.cond_true (rfl) ?_
                refine Wc.seq fun K83 hK83 => ?_
                refine Wc.region (by decide +kernel) ?_
                refine lex.pure (v := .bool true) (pu_assign rfl) ?_
                refine lex.nil ?_
                refine hK83 _ _ ?_
                obtain rfl := Option.some.inj hb
                obtain rfl := (lX hl0).symm
                replace hb := hbK0
                obtain rfl := Option.some.inj hb
                refine Wc.ret ?_
                refine hKR _ _ ?_
                refine ⟨_, res1 Try.results8 (show RV _ _ _ (.tmp _) (.bool true) from rfl), _, rfl, rfl, hC.sel [] (by decide)⟩
              · replace hb := (cF hq82).symm.trans hb
                refine lex.gpure (want_t rfl rfl (show _ = Value.bool (!y79) from rfl) hq82) (v := .slice Aq_1 q_1.length cq_1) (pu_move e1) ?_
                obtain ⟨y84, h85, hb⟩ := bd hb
                refine lex.gcl (want_t rfl rfl (show _ = Value.bool (!y79) from rfl) hq82) (⟨_, _, op_call (vs := [.slice Aq_1 q_1.length cq_1]) Try.call19 rfl rfl rfl, perm_Valid_ok n hC.lt (hC.rd (i := 1) rfl) h85⟩) ?_
                rintro _ w86 ⟨rfl, hK⟩
                replace hC := hC.merge hK
                clear hK
                refine lex.gpure (want_t rfl rfl (show _ = Value.bool (!y79) from rfl) hq82) (v := .bool (!y84)) (pu_not (q := y84) rfl) ?_
                refine lex.pure (v := .bool (!y84)) (pu_pickF (q := (!y79)) rfl hq82 rfl) ?_
                refine lex.pure (v := .bool (!y84)) (pu_move rfl) ?_
                rcases bS (!y84) with hq87 | hq87
                · replace hb := (cT hq87).symm.trans hb
                  refine lex.gskip (want_f rfl rfl (show _ = Value.bool (!y84) from rfl) hq87) ?_
                  refine lex.gskip (want_f rfl rfl (show _ = Value.bool (!y84) from rfl) hq87) ?_
                  refine lex.gskip (want_f rfl rfl (show _ = Value.bool (!y84) from rfl) hq87) ?_
                  refine lex.gskip (want_f rfl rfl (show _ = Value.bool (!y84) from rfl) hq87) ?_
                  refine lex.gskip (want_f rfl rfl (show _ = Value.bool (!y84) from rfl) hq87) ?_
                  refine lex.pure (v := .bool true) (pu_pickT (q := (!y84)) rfl hq87 rfl) ?_
                  refine lex.nil ?_
                  refine hK78 _ _ ?_
                  refine Wc.cond_true (rfl) ?_
                  refine Wc.seq fun K88 hK88 => ?_
                  refine Wc.region (by decide +kernel) ?_
                  refine lex.pure (v := .bool true) (pu_assign rfl) ?_
                  refine lex.nil ?_
                  refine hK88 _ _ ?_
                  obtain rfl := Option.some.inj hb
                  obtain rfl := (lX hl0).symm
                  replace hb := hbK0
                  obtain rfl := Option.some.inj hb
                  refine Wc.ret ?_
                  refine hKR _ _ ?_
                  refine ⟨_, res1 Try.results8 (show RV _ _ _ (.tmp _) (.bool true) from rfl), _, rfl, rfl, hC.sel [] (by decide)⟩
                · replace hb := (cF hq87).symm.trans hb
                  refine lex.gpure (want_t rfl rfl (show _ = Value.bool (!y84) from rfl) hq87) (v := .slice A72 x66.length c73) (pu_move rfl) ?_
                  refine lex.gpure (want_t rfl rfl (show _ = Value.bool (!y84) from rfl) hq87) (v := .int .i64 (x66.length : Int)) (pu_len (A := A72) (n := x66.length) (m := c73) Try.underlying29 rfl) ?_
                  refine lex.gpure (want_t rfl rfl (show _ = Value.bool (!y84) from rfl) hq87) (v := .slice Aq_1 q_1.length cq_1) (pu_move e1) ?_
                  refine lex.gpure (want_t rfl rfl (show _ = Value.bool (!y84) from rfl) hq87) (v := .int .i64 (q_1.length : Int)) (pu_len (A := Aq_1) (n := q_1.length) (m := cq_1) Try.underlying28 rfl) ?_
                  refine lex.gpure (want_t rfl rfl (show _ = Value.bool (!y84) from rfl) hq87) (v := .bool (!(decide ((x66.length : Int) = (q_1.length : Int))))) (pu_neq (k := .i64) (a := (x66.length : Int)) (b := (q_1.length : Int)) rfl rfl) ?_
                  refine lex.pure (v := .bool (!(decide ((x66.length : Int) = (q_1.length : Int))))) (pu_pickF (q := (!y84)) rfl hq87 rfl) ?_
                  refine lex.nil ?_
                  refine hK78 _ _ ?_
                  refine Wc.cond (t := (!(decide ((x66.length : Int) = (q_1.length : Int))))) (rfl) (fun hq89 => ?_) (fun hq89 => ?_)
                  · replace hb := (cT hq89).symm.trans hb
                    refine Wc.seq fun K90 hK90 => ?_
                    refine Wc.region (by decide +kernel) ?_
                    refine lex.pure (v := .bool true) (pu_assign rfl) ?_
                    refine lex.nil ?_
                    refine hK90 _ _ ?_
                    obtain rfl := Option.some.inj hb
                    obtain rfl := (lX hl0).symm
                    replace hb := hbK0
                    obtain rfl := Option.some.inj hb
                    refine Wc.ret ?_
                    refine hKR _ _ ?_
                    refine ⟨_, res1 Try.results8 (show RV _ _ _ (.tmp _) (.bool true) from rfl), _, rfl, rfl, hC.sel [] (by decide)⟩
                  · replace hb := (cF hq89).symm.trans hb
                    refine Wc.skip ?_
                    refine hK77 _ _ ?_
                    refine Wc.fresh fun E91 hE => ?_
                    have e1 : E91 1 = .slice Aq_1 q_1.length cq_1 := (congrFun hE 1).trans e1
                    have e4 : E91 4 = .bool false := (congrFun hE 4).trans e4
                    have e5 : E91 5 = .bool y30 := (congrFun hE 5).trans e5
                    have e6 : E91 6 = .slice Al6_0 l6_0.length cl6_0 := (congrFun hE 6).trans e6
                    have e8 : E91 8 = .slice A72 x66.length c73 := (congrFun hE 8).trans rfl
                    have e32 : E91 32 = .slice (some ad68) l_0.length cl_0 := (congrFun hE 32).trans e32
                    have e33 : E91 33 = .int .i64 (l_0.length : Int) := (congrFun hE 33).trans e33
                    have e34 : E91 34 = .int .i64 v34_0 := (congrFun hE 34).trans e34
                    have e35 : E91 35 = .bool (decide (v34_0 < (l_0.length : Int))) := (congrFun hE 35).trans rfl
                    have e52 : E91 52 = .bool (!(decide ((x66.length : Int) = (q_1.length : Int)))) := (congrFun hE 52).trans rfl
                    clear hE
                    refine Wc.seq fun K92 hK92 => ?_
                    refine Wc.region (by decide +kernel) ?_
                    refine lex.pure (v := .slice Aq_1 q_1.length cq_1) (pu_move e1) ?_
                    obtain ⟨y93, h94, hb⟩ := bd hb
                    refine lex.cl (⟨_, _, op_call (vs := [.slice Aq_1 q_1.length cq_1]) Try.call23 rfl rfl rfl, perm_Inverse_ok n hC.lt (hC.rd (i := 1) rfl) h94⟩) ?_
                    rintro _ w99 ⟨A95, m96, c97, rfl, hK⟩
                    replace hC := hC.merge hK
                    clear hK
                    obtain ⟨rfl, hl100, hc101⟩ := (hC.ow (i := 0) rfl).sl_len
                    refine lex.pure (v := .slice A72 x66.length c73) (pu_move e8) ?_
                    obtain ⟨y102, h103, hb⟩ := bd hb
                    refine lex.cl (⟨_, _, op_call (vs := [.slice A95 y93.length c97, .slice A72 x66.length c73]) Try.call20 rfl rfl rfl, perm_Mul_ok n (hC.lentLt [.slice A95 y93.length c97]) ((hC.ow (i := 0) rfl).lend (vs := [.slice A95 y93.length c97]) (by simp)) ((hC.rd (i := 1) rfl).lent [.slice A95 y93.length c97]) h103⟩) ?_
                    rintro _ w109 ⟨A104, m105, c106, rfl, hr108, hK⟩
                    replace hC := hC.mergeF hK rfl
                    clear hK
                    obtain ⟨rfl, hl110, hc111⟩ := (hC.ow (i := 0) rfl).sl_len
                    refine lex.pure (v := .tuple #[.slice A104 y102.1.length c106, .int .i64 y102.2]) (pu_move rfl) ?_
                    refine lex.pure (v := .slice A104 y102.1.length c106) (pu_extract rfl rfl) ?_
                    refine lex.pure (v := .int .i64 y102.2) (pu_extract rfl rfl) ?_
                    refine lex.pure (v := .slice A104 y102.1.length c106) (pu_assign rfl) ?_
                    refine lex.pure (v := .int .i64 y102.2) (pu_assign rfl) ?_
                    refine lex.nil ?_
                    refine hK92 _ _ ?_
                    refine Wc.seq fun K112 hK112 => ?_
                    refine Wc.region (by decide +kernel) ?_
                    refine lex.pure (v := .slice A104 y102.1.length c106) (pu_move rfl) ?_
                    refine lex.pure (v := .slice Aq_1 q_1.length cq_1) (pu_move e1) ?_
                    obtain ⟨y113, h114, hb⟩ := bd hb
                    refine lex.cl (⟨_, _, op_call (vs := [.slice A104 y102.1.length c106, .slice Aq_1 q_1.length cq_1]) Try.call20 rfl rfl rfl, perm_Mul_ok n (hC.lentLt [.slice A104 y102.1.length c106]) ((hC.ow (i := 0) rfl).lend (vs := [.slice A104 y102.1.length c106]) (by simp)) ((hC.rd (i := 3) rfl).lent [.slice A104 y102.1.length c106]) h114⟩) ?_
                    rintro _ w120 ⟨A115, m116, c117, rfl, hr119, hK⟩
                    replace hC := hC.mergeF hK rfl
                    clear hK
                    obtain ⟨rfl, hl121, hc122⟩ := (hC.ow (i := 0) rfl).sl_len
                    refine lex.pure (v := .tuple #[.slice A115 y113.1.length c117, .int .i64 y113.2]) (pu_move rfl) ?_
                    refine lex.pure (v := .slice A115 y113.1.length c117) (pu_extract rfl rfl) ?_
                    refine lex.pure (v := .int .i64 y113.2) (pu_extract rfl rfl) ?_
                    refine lex.pure (v := .slice A115 y113.1.length c117) (pu_assign rfl) ?_
                    refine lex.pure (v := .int .i64 y113.2) (pu_assign rfl) ?_
                    refine lex.nil ?_
                    refine hK112 _ _ ?_
                    refine Wc.fresh fun E123 hE => ?_
                    have e1 : E123 1 = .slice Aq_1 q_1.length cq_1 := (congrFun hE 1).trans e1
                    have e4 : E123 4 = .bool false := (congrFun hE 4).trans e4
                    have e5 : E123 5 = .bool y30 := (congrFun hE 5).trans e5
                    have e6 : E123 6 = .slice Al6_0 l6_0.length cl6_0 := (congrFun hE 6).trans e6
                    have e8 : E123 8 = .slice A72 x66.length c73 := (congrFun hE 8).trans e8
                    have e9 : E123 9 = .slice A115 y113.1.length c117 := (congrFun hE 9).trans rfl
                    have e10 : E123 10 = .int .i64 y102.2 := (congrFun hE 10).trans rfl
                    have e11 : E123 11 = .int .i64 y113.2 := (congrFun hE 11).trans rfl
                    have e32 : E123 32 = .slice (some ad68) l_0.length cl_0 := (congrFun hE 32).trans e32
                    have e33 : E123 33 = .int .i64 (l_0.length : Int) := (congrFun hE 33).trans e33
                    have e34 : E123 34 = .int .i64 v34_0 := (congrFun hE 34).trans e34
                    have e35 : E123 35 = .bool (decide (v34_0 < (l_0.length : Int))) := (congrFun hE 35).trans e35
                    have e52 : E123 52 = .bool (!(decide ((x66.length : Int) = (q_1.length : Int)))) := (congrFun hE 52).trans e52
                    clear hE
                    refine Wc.seq fun K124 hK124 => ?_
                    refine Wc.seq fun K125 hK125 => ?_
                    refine Wc.region (by decide +kernel) ?_
                    refine lex.pure (v := .int .i64 y102.2) (pu_move e10) ?_
                    refine lex.pure (v := .bool (!(decide (y102.2 = 0)))) (pu_neq (k := .i64) (a := y102.2) (b := 0) rfl rfl) ?_
                    refine lex.pure (v := .bool (!(decide (y102.2 = 0)))) (pu_move rfl) ?_
                    rcases bS (!(decide (y102.2 = 0))) with hq126 | hq126
                    · replace hb := (cT hq126).symm.trans hb
                      refine lex.gskip (want_f rfl rfl (show _ = Value.bool (!(decide (y102.2 = 0))) from rfl) hq126) ?_
                      refine lex.gskip (want_f rfl rfl (show _ = Value.bool (!(decide (y102.2 = 0))) from rfl) hq126) ?_
                      refine lex.pure (v := .bool true) (pu_pickT (q := (!(decide (y102.2 = 0)))) rfl hq126 rfl) ?_
                      refine lex.nil ?_
                      refine hK125 _ _ ?_
                      refine Wc.cond_true (rfl) ?_
                      refine Wc.seq fun K127 hK127 => ?_
                      refine Wc.region (by decide +kernel) ?_
                      refine lex.pure (v := .bool false) (pu_assign rfl) ?_
                      refine lex.nil ?_
                      refine hK127 _ _ ?_
                      obtain rfl := Option.some.inj hb
                      obtain rfl := (lX hl0).symm
                      replace hb := hbK0
                      obtain rfl := Option.some.inj hb
                      refine Wc.ret ?_
                      refine hKR _ _ ?_
                      refine ⟨_, res1 Try.results8 (show RV _ _ _ (.tmp _) (.bool false) from rfl), _, rfl, rfl, hC.sel [] (by decide)⟩
                    · replace hb := (cF hq126).symm.trans hb
                      refine lex.gpure (want_t rfl rfl (show _ = Value.bool (!(decide (y102.2 = 0))) from rfl) hq126) (v := .int .i64 y113.2) (pu_move e11) ?_
                      refine lex.gpure (want_t rfl rfl (show _ = Value.bool (!(decide (y102.2 = 0))) from rfl) hq126) (v := .bool (!(decide (y113.2 = 0)))) (pu_neq (k := .i64) (a := y113.2) (b := 0) rfl rfl) ?_
                      refine lex.pure (v := .bool (!(decide (y113.2 = 0)))) (pu_pickF (q := (!(decide (y102.2 = 0)))) rfl hq126 rfl) ?_
                      refine lex.nil ?_
                      refine hK125 _ _ ?_
                      refine Wc.cond (t := (!(decide (y113.2 = 0)))) (rfl) (fun hq128 => ?_) (fun hq128 => ?_)
                      · replace hb := (cT hq128).symm.trans hb
                        refine Wc.seq fun K129 hK129 => ?_
                        refine Wc.region (by decide +kernel) ?_
                        refine lex.pure (v := .bool false) (pu_assign rfl) ?_
                        refine lex.nil ?_
                        refine hK129 _ _ ?_
                        obtain rfl := Option.some.inj hb
                        obtain rfl := (lX hl0).symm
                        replace hb := hbK0
                        obtain rfl := Option.some.inj hb
                        refine Wc.ret ?_
                        refine hKR _ _ ?_
                        refine ⟨_, res1 Try.results8 (show RV _ _ _ (.tmp _) (.bool false) from rfl), _, rfl, rfl, hC.sel [] (by decide)⟩
                      · replace hb := (cF hq128).symm.trans hb
                        refine Wc.skip ?_
                        refine hK124 _ _ ?_
                        refine Wc.region (by decide +kernel) ?_
                        refine lex.pure (v := .slice Al6_0 l6_0.length cl6_0) (pu_move e6) ?_
                        refine lex.pure (v := .slice A115 y113.1.length c117) (pu_move e9) ?_
                        replace hC := hC.freeze (i := 0) rfl (hC.own_new (i := 0) rfl)
                        refine lex.op (hC.lit (s := (.sl (.int .i64))) (vs := [.slice A115 y113.1.length c117]) (xs := [y113.1]) Try.underlying32 Try.type29 rfl rfl (Nat.le_of_ble_eq_true rfl) rfl rfl (by simp [Value.cells, Sh.n]) rfl (show Elems _ _ (.sl (.int .i64)) ([.slice A115 y113.1.length c117] ++ ([])) ([y113.1] : List (List Int)) from Elems.cons (hC.rd (i := 0) rfl) (Elems.nil _ _ _))) ?_
                        rintro _ w134 ⟨A130, c131, rfl, hl132, hc133, hC, hF, hN⟩
                        clear hF hN
                        obtain ⟨u136, h137, hb⟩ := bd hb
                        refine lex.op (hC.app (i := 6) (s := (.sl (.int .i64))) (xs := l6_0) (ys := ([y113.1] : List (List Int))) (m := ((([y113.1] : List (List Int))).length)) rfl Try.underlying32 Try.underlying32 Try.type29 rfl rfl rfl (hC.srco (i := 0) rfl) rfl rfl (by have := lim_some h137; simp at this ⊢ <;> omega) (by decide)) ?_
                        rintro _ w142 ⟨A138, c139, rfl, hl140, hc141, hC, hF, hN⟩
                        clear hF hN
                        refine lex.pure (v := .slice A138 ((l6_0 ++ ([y113.1] : List (List Int))).length) c139) (pu_assign rfl) ?_
                        refine lex.nil ?_
                        refine hK64 _ _ ?_
                        refine Wc.region (by decide +kernel) ?_
                        obtain ⟨z143, h144, hb⟩ := bd hb
                        refine lex.pure (v := .int .i64 z143) (pu_addc (a := v34_0) (b := 1) e34 rfl h144) ?_
                        refine lex.pure (v := .int .i64 z143) (pu_move rfl) ?_
                        refine lex.nil ?_
                        obtain rfl := Option.some.inj hb
                        exact hK56 m57' _ _ (Nat.lt_succ_self _) ⟨(l6_0 ++ ([y113.1] : List (List Int))), z143, A138, (l6_0 ++ ([y113.1] : List (List Int))).length, c139, e1, e4, e5, rfl, e32, e33, rfl, (chk_rng h144), hC.sel [5, 6, 7] (by decide), lN hl0⟩
            · replace hb := (cF hq63).symm.trans hb
              refine Wc.exit rfl ?_
              obtain rfl := Option.some.inj hb
              obtain rfl := (lX hl0).symm
              exact hK55 _ _ ⟨l6_0, v34_0, Al6_0, l6_0.length, cl6_0, e4, e5, e6, hrv34_0, hC.sel [1] (by decide), hbK0⟩
          · clear hb hC hl0
            rintro E146 w145 ⟨l6_0, v34_0, Al6_0, ml6_0, cl6_0, e4, e5, e6, hrv34_0, hC, hb⟩
            obtain ⟨rfl, hll6_0, hcl6_0⟩ := (hC.ow (i := 0) rfl).sl_len
            refine hK50 _ _ ?_
            refine Wc.seq fun K147 hK147 => ?_
            refine Wc.region (by decide +kernel) ?_
            refine lex.pure (v := .slice Al6_0 l6_0.length cl6_0) (pu_move e6) ?_
            obtain ⟨y148, h149, hb⟩ := bd hb
            refine lex.cl (⟨_, _, op_call (vs := [.slice Al6_0 l6_0.length cl6_0]) Try.call33 rfl rfl rfl, perm_Transitive_ok n (hC.lentLt [.slice Al6_0 l6_0.length cl6_0]) ((hC.ow (i := 0) rfl).lend (vs := [.slice Al6_0 l6_0.length cl6_0]) (by simp)) h149⟩) ?_
            rintro _ w150 ⟨rfl, hK⟩
            replace hC := hC.mergeF hK rfl
            clear hK
            refine lex.pure (v := .bool y30) (pu_move e5) ?_
            refine lex.pure (v := .bool (y148 == y30)) (pu_eqlb (p := y148) (q := y30) Try.underlying4 rfl rfl) ?_
            refine lex.pure (v := .bool (y148 == y30)) (pu_assign rfl) ?_
            refine lex.nil ?_
            refine hK147 _ _ ?_
            obtain rfl := Option.some.inj hb
            refine Wc.ret ?_
            refine hKR _ _ ?_
            refine ⟨_, res1 Try.results8 (show RV _ _ _ (.tmp _) (.bool (y148 == y30)) from rfl), _, rfl, rfl, hC.sel [] (by decide)⟩
end Go.Proofs.Ytmlkiafidahnbaa
