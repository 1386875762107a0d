/- The walks: part 11. -/
import Derived.Test.YtlkmcbgkohpmiaaS
import Derived.Test.YtlkmcbgkohpmiaaG1
import Derived.Test.YtlkmcbgkohpmiaaG5
import Derived.Test.YtlkmcbgkohpmiaaG6
import Derived.Test.YtlkmcbgkohpmiaaG7
import Derived.Test.YtlkmcbgkohpmiaaG9
import Derived.Test.YtlkmcbgkohpmiaaG10
set_option linter.unusedVariables false
set_option linter.unusedSimpArgs false
namespace Go.Proofs.Ytlkmcbgkohpmiaa
open Ev
set_option maxRecDepth 100000 in
set_option maxHeartbeats 4000000 in
theorem law35_ArtinActs_ok (n : Nat) {w : World} {O0 : List Nat} (hO : ∀ k ∈ O0, k < w.heap.size) {b_0_0 : Int} (hb_0_0 : I64 b_0_0) {Ab_0_1 : Option Addr} {mb_0_1 cb_0_1 : Nat} {b_0_1 : List Int} (hb_0_1 : Rep O0 w (.sl (.int .i64)) [.slice Ab_0_1 mb_0_1 cb_0_1] b_0_1) {Awx_1 : Option Addr} {mwx_1 cwx_1 : Nat} {wx_1 : List Int} (hwx_1 : Rep O0 w (.sl (.int .i64)) [.slice Awx_1 mwx_1 cwx_1] wx_1) {r : Bool} (hb : F.law35_ArtinActs n b_0_0 b_0_1 wx_1 = some r) :
    Calls Try.prog 3 #[.agg #[.int .i64 b_0_0, .slice Ab_0_1 mb_0_1 cb_0_1], .slice Awx_1 mwx_1 cwx_1] w fun e w' => ∃ v, e = .returned v ∧ v = .bool r ∧ Cx (fun _ => False) O0 w w' [] := by
  unfold F.law35_ArtinActs at hb
  have hC := Cx.start hO
  replace hC := hC.arg rfl hb_0_1
  replace hC := hC.arg rfl hwx_1
  clear hO
  obtain ⟨rfl, hlb_0_1, hcb_0_1⟩ := hb_0_1.sl_len
  obtain ⟨rfl, hlwx_1, hcwx_1⟩ := hwx_1.sl_len
  refine calls_of_Wc Try.func3 rfl (by rw [Try.ntmps3]; exact Nat.le_of_ble_eq_true rfl) fun KR hKR => ?_
  refine Wc.seq fun K3 hK3 => ?_
  refine Wc.region (by decide +kernel) ?_
  refine lex.op (hC.box (cs := [.int .i64 b_0_0, .slice Ab_0_1 b_0_1.length cb_0_1]) rfl rfl) ?_
  rintro _ w5 ⟨g4, rfl, hC, hF, hG⟩
  clear hG
  refine lex.pure (v := .bool false) (pu_assign rfl) ?_
  refine lex.nil ?_
  refine hK3 _ _ ?_
  refine Wc.seq fun K7 hK7 => ?_
  refine Wc.seq fun K8 hK8 => ?_
  refine Wc.region (by decide +kernel) ?_
  obtain ⟨y9, h10, hb⟩ := bd hb
  refine lex.cl (⟨_, _, op_call (vs := []) Try.call9 rfl rfl rfl, law35_awake_ok n hC.lt  h10⟩) ?_
  rintro _ w11 ⟨rfl, hK⟩
  replace hC := hC.merge hK
  clear hK
  refine lex.pure (v := .bool (!y9)) (pu_not (q := y9) rfl) ?_
  refine lex.nil ?_
  refine hK8 _ _ ?_
  refine Wc.cond (t := (!y9)) (rfl) (fun hq12 => ?_) (fun hq12 => ?_)
  · replace hb := (cT hq12).symm.trans hb
    refine Wc.seq fun K13 hK13 => ?_
    refine Wc.region (by decide +kernel) ?_
    refine lex.pure (v := .bool false) (pu_assign rfl) ?_
    refine lex.nil ?_
    refine hK13 _ _ ?_
    obtain rfl := Option.some.inj hb
    refine Wc.ret ?_
    refine hKR _ _ ?_
    refine ⟨_, res1 Try.results3 (show RV _ _ _ (.tmp _) (.bool false) from rfl), _, rfl, rfl, hC.sel [] (by decide)⟩
  · replace hb := (cF hq12).symm.trans hb
    refine Wc.skip ?_
    refine hK7 _ _ ?_
    refine Wc.seq fun K14 hK14 => ?_
    refine Wc.seq fun K15 hK15 => ?_
    refine Wc.region (by decide +kernel) ?_
    refine lex.val (v := .agg #[.int .i64 b_0_0, .slice Ab_0_1 b_0_1.length cb_0_1]) (ld_blk (hC.bx (i := 0) rfl) Try.isAgg24 Try.sizeOf24 rfl) ?_
    obtain ⟨y16, h17, hb⟩ := bd hb
    refine lex.cl (⟨_, _, op_call (vs := [.agg #[.int .i64 b_0_0, .slice Ab_0_1 b_0_1.length cb_0_1]]) Try.call10 rfl rfl rfl, law35_great_ok n hC.lt hb_0_0 (hC.rd (i := 2) rfl) h17⟩) ?_
    rintro _ w18 ⟨rfl, hK⟩
    replace hC := hC.merge hK
    clear hK
    refine lex.pure (v := .bool y16) (pu_move rfl) ?_
    rcases bS y16 with hq19 | hq19
    · replace hb := (cT hq19).symm.trans hb
      refine lex.gskip (want_f rfl rfl (show _ = Value.bool y16 from rfl) hq19) ?_
      refine lex.gskip (want_f rfl rfl (show _ = Value.bool y16 from rfl) hq19) ?_
      refine lex.gskip (want_f rfl rfl (show _ = Value.bool y16 from rfl) hq19) ?_
      refine lex.pure (v := .bool true) (pu_pickT (q := y16) rfl hq19 rfl) ?_
      refine lex.nil ?_
      refine hK15 _ _ ?_
      refine Wc.cond_true (rfl) ?_
      refine Wc.seq fun K20 hK20 => ?_
      refine Wc.region (by decide +kernel) ?_
      refine lex.pure (v := .bool true) (pu_assign rfl) ?_
      refine lex.nil ?_
      refine hK20 _ _ ?_
      obtain rfl := Option.some.inj hb
      refine Wc.ret ?_
      refine hKR _ _ ?_
      refine ⟨_, res1 Try.results3 (show RV _ _ _ (.tmp _) (.bool true) from rfl), _, rfl, rfl, hC.sel [] (by decide)⟩
    · replace hb := (cF hq19).symm.trans hb
      refine lex.gpure (want_t rfl rfl (show _ = Value.bool y16 from rfl) hq19) (v := .slice Awx_1 wx_1.length cwx_1) (pu_move rfl) ?_
      refine lex.gpure (want_t rfl rfl (show _ = Value.bool y16 from rfl) hq19) (v := .int .i64 (wx_1.length : Int)) (pu_len (A := Awx_1) (n := wx_1.length) (m := cwx_1) Try.underlying22 rfl) ?_
      refine lex.gpure (want_t rfl rfl (show _ = Value.bool y16 from rfl) hq19) (v := .bool (decide (40 < (wx_1.length : Int)))) (pu_gtr (k := .i64) (a := (wx_1.length : Int)) (b := 40) rfl rfl) ?_
      refine lex.pure (v := .bool (decide (40 < (wx_1.length : Int)))) (pu_pickF (q := y16) rfl hq19 rfl) ?_
      refine lex.nil ?_
      refine hK15 _ _ ?_
      refine Wc.cond (t := (decide (40 < (wx_1.length : Int)))) (rfl) (fun hq21 => ?_) (fun hq21 => ?_)
      · replace hb := (cT hq21).symm.trans hb
        refine Wc.seq fun K22 hK22 => ?_
        refine Wc.region (by decide +kernel) ?_
        refine lex.pure (v := .bool true) (pu_assign rfl) ?_
        refine lex.nil ?_
        refine hK22 _ _ ?_
        obtain rfl := Option.some.inj hb
        refine Wc.ret ?_
        refine hKR _ _ ?_
        refine ⟨_, res1 Try.results3 (show RV _ _ _ (.tmp _) (.bool true) from rfl), _, rfl, rfl, hC.sel [] (by decide)⟩
      · replace hb := (cF hq21).symm.trans hb
        refine Wc.skip ?_
        refine hK14 _ _ ?_
        refine Wc.fresh fun E23 hE => ?_
        have e1 : E23 1 = .slice Awx_1 wx_1.length cwx_1 := (congrFun hE 1).trans rfl
        have e2 : E23 2 = .pointer (some ⟨g4, 0, none⟩) := (congrFun hE 2).trans rfl
        have e4 : E23 4 = .bool false := (congrFun hE 4).trans rfl
        clear hE
        refine Wc.seq fun K24 hK24 => ?_
        refine Wc.region (by decide +kernel) ?_
        refine lex.val (v := .agg #[.int .i64 b_0_0, .slice Ab_0_1 b_0_1.length cb_0_1]) (ld_blk (hC.bx (i := 0) rfl) Try.isAgg24 Try.sizeOf24 e2) ?_
        refine lex.pure (v := .slice Awx_1 wx_1.length cwx_1) (pu_move e1) ?_
        obtain ⟨y25, h26, hb⟩ := bd hb
        refine lex.cl (⟨_, _, op_call (vs := [.agg #[.int .i64 b_0_0, .slice Ab_0_1 b_0_1.length cb_0_1], .slice Awx_1 wx_1.length cwx_1]) Try.call11 rfl rfl rfl, artin_Act_ok n hC.lt hb_0_0 (hC.rd (i := 2) rfl) (hC.rd (i := 1) rfl) h26⟩) ?_
        rintro _ w32 ⟨A27, m28, c29, rfl, hr31, hK⟩
        replace hC := hC.merge hK
        clear hK
        obtain ⟨rfl, hl33, hc34⟩ := (hC.ow (i := 0) rfl).sl_len
        refine lex.pure (v := .tuple #[.slice A27 y25.1.length c29, .int .i64 y25.2]) (pu_move rfl) ?_
        refine lex.pure (v := .slice A27 y25.1.length c29) (pu_extract rfl rfl) ?_
        refine lex.pure (v := .int .i64 y25.2) (pu_extract rfl rfl) ?_
        refine lex.pure (v := .slice A27 y25.1.length c29) (pu_assign rfl) ?_
        refine lex.pure (v := .int .i64 y25.2) (pu_assign rfl) ?_
        refine lex.nil ?_
        refine hK24 _ _ ?_
        refine Wc.seq fun K35 hK35 => ?_
        refine Wc.seq fun K36 hK36 => ?_
        refine Wc.region (by decide +kernel) ?_
        refine lex.pure (v := .pointer (some ((⟨g4, 0, none⟩ : Addr).add 0))) (pu_field (sz := 1) Try.underlying24 rfl Try.sizeOf3 (by decide) rfl e2) ?_
        refine lex.val (v := .int .i64 b_0_0) (ld_fld (hC.bx (i := 1) rfl) Try.isAgg3 rfl rfl) ?_
        refine lex.pure (v := .pointer (some ((⟨g4, 0, none⟩ : Addr).add 1))) (pu_field (sz := 1) Try.underlying24 rfl Try.sizeOf22 (by decide) rfl e2) ?_
        refine lex.val (v := .slice Ab_0_1 b_0_1.length cb_0_1) (ld_fld (hC.bx (i := 1) rfl) Try.isAgg22 rfl rfl) ?_
        obtain ⟨y37, h38, hb⟩ := bd hb
        refine lex.cl (⟨_, _, op_call (vs := [.int .i64 b_0_0, .slice Ab_0_1 b_0_1.length cb_0_1]) Try.call12 rfl rfl rfl, ref33_Valid_ok n hC.lt hb_0_0 (hC.rd (i := 3) rfl) h38⟩) ?_
        rintro _ w39 ⟨rfl, hK⟩
        replace hC := hC.merge hK
        clear hK
        refine lex.pure (v := .bool (!y37)) (pu_not (q := y37) rfl) ?_
        refine lex.nil ?_
        refine hK36 _ _ ?_
        refine Wc.fresh fun E40 hE => ?_
        have e1 : E40 1 = .slice Awx_1 wx_1.length cwx_1 := (congrFun hE 1).trans e1
        have e2 : E40 2 = .pointer (some ⟨g4, 0, none⟩) := (congrFun hE 2).trans e2
        have e4 : E40 4 = .bool false := (congrFun hE 4).trans e4
        have e5 : E40 5 = .slice A27 y25.1.length c29 := (congrFun hE 5).trans rfl
        have e6 : E40 6 = .int .i64 y25.2 := (congrFun hE 6).trans rfl
        have e29 : E40 29 = .bool (!y37) := (congrFun hE 29).trans rfl
        clear hE
        refine Wc.cond (t := (!y37)) (e29) (fun hq41 => ?_) (fun hq41 => ?_)
        · replace hb := (cT hq41).symm.trans hb
          refine Wc.seq fun K42 hK42 => ?_
          refine Wc.region (by decide +kernel) ?_
          refine lex.pure (v := .int .i64 y25.2) (pu_move e6) ?_
          refine lex.pure (v := .bool (decide (y25.2 = 1))) (pu_eql (k := .i64) (a := y25.2) (b := 1) rfl rfl) ?_
          refine lex.pure (v := .bool (decide (y25.2 = 1))) (pu_move rfl) ?_
          rcases bS (decide (y25.2 = 1)) with hq43 | hq43
          · replace hb := (cT hq43).symm.trans hb
            refine lex.gpure (want_t rfl rfl (show _ = Value.bool (decide (y25.2 = 1)) from rfl) hq43) (v := .slice A27 y25.1.length c29) (pu_move e5) ?_
            refine lex.gpure (want_t rfl rfl (show _ = Value.bool (decide (y25.2 = 1)) from rfl) hq43) (v := .int .i64 (y25.1.length : Int)) (pu_len (A := A27) (n := y25.1.length) (m := c29) Try.underlying27 rfl) ?_
            refine lex.gpure (want_t rfl rfl (show _ = Value.bool (decide (y25.2 = 1)) from rfl) hq43) (v := .bool (decide ((y25.1.length : Int) = 0))) (pu_eql (k := .i64) (a := (y25.1.length : Int)) (b := 0) rfl rfl) ?_
            refine lex.pure (v := .bool (decide ((y25.1.length : Int) = 0))) (pu_pickT (q := (decide (y25.2 = 1))) rfl hq43 rfl) ?_
            refine lex.pure (v := .bool (decide ((y25.1.length : Int) = 0))) (pu_assign rfl) ?_
            refine lex.nil ?_
            refine hK42 _ _ ?_
            obtain rfl := Option.some.inj hb
            refine Wc.ret ?_
            refine hKR _ _ ?_
            refine ⟨_, res1 Try.results3 (show RV _ _ _ (.tmp _) (.bool (decide ((y25.1.length : Int) = 0))) from rfl), _, rfl, rfl, hC.sel [] (by decide)⟩
          · replace hb := (cF hq43).symm.trans hb
            refine lex.gskip (want_f rfl rfl (show _ = Value.bool (decide (y25.2 = 1)) from rfl) hq43) ?_
            refine lex.gskip (want_f rfl rfl (show _ = Value.bool (decide (y25.2 = 1)) from rfl) hq43) ?_
            refine lex.gskip (want_f rfl rfl (show _ = Value.bool (decide (y25.2 = 1)) from rfl) hq43) ?_
            refine lex.pure (v := .bool false) (pu_pickF (q := (decide (y25.2 = 1))) rfl hq43 rfl) ?_
            refine lex.pure (v := .bool false) (pu_assign rfl) ?_
            refine lex.nil ?_
            refine hK42 _ _ ?_
            obtain rfl := Option.some.inj hb
            refine Wc.ret ?_
            refine hKR _ _ ?_
            refine ⟨_, res1 Try.results3 (show RV _ _ _ (.tmp _) (.bool false) from rfl), _, rfl, rfl, hC.sel [] (by decide)⟩
        · replace hb := (cF hq41).symm.trans hb
          refine Wc.skip ?_
          refine hK35 _ _ ?_
          refine Wc.seq fun K44 hK44 => ?_
          refine Wc.seq fun K45 hK45 => ?_
          refine Wc.region (by decide +kernel) ?_
          refine lex.pure (v := .slice Awx_1 wx_1.length cwx_1) (pu_move e1) ?_
          refine lex.pure (v := .pointer (some ((⟨g4, 0, none⟩ : Addr).add 0))) (pu_field (sz := 1) Try.underlying24 rfl Try.sizeOf3 (by decide) rfl e2) ?_
          refine lex.val (v := .int .i64 b_0_0) (ld_fld (hC.bx (i := 1) rfl) Try.isAgg3 rfl rfl) ?_
          obtain ⟨y46, h47, hb⟩ := bd hb
          refine lex.cl (⟨_, _, op_call (vs := [.slice Awx_1 wx_1.length cwx_1, .int .i64 b_0_0]) Try.call13 rfl rfl rfl, ref21_Valid_ok n hC.lt (hC.rd (i := 2) rfl) hb_0_0 h47⟩) ?_
          rintro _ w48 ⟨rfl, hK⟩
          replace hC := hC.merge hK
          clear hK
          refine lex.pure (v := .bool (!y46)) (pu_not (q := y46) rfl) ?_
          refine lex.nil ?_
          refine hK45 _ _ ?_
          refine Wc.cond (t := (!y46)) (rfl) (fun hq49 => ?_) (fun hq49 => ?_)
          · replace hb := (cT hq49).symm.trans hb
            refine Wc.seq fun K50 hK50 => ?_
            refine Wc.region (by decide +kernel) ?_
            refine lex.pure (v := .int .i64 y25.2) (pu_move e6) ?_
            refine lex.pure (v := .bool (decide (y25.2 = 2))) (pu_eql (k := .i64) (a := y25.2) (b := 2) rfl rfl) ?_
            refine lex.pure (v := .bool (decide (y25.2 = 2))) (pu_move rfl) ?_
            rcases bS (decide (y25.2 = 2)) with hq51 | hq51
            · replace hb := (cT hq51).symm.trans hb
              refine lex.gpure (want_t rfl rfl (show _ = Value.bool (decide (y25.2 = 2)) from rfl) hq51) (v := .slice A27 y25.1.length c29) (pu_move e5) ?_
              refine lex.gpure (want_t rfl rfl (show _ = Value.bool (decide (y25.2 = 2)) from rfl) hq51) (v := .int .i64 (y25.1.length : Int)) (pu_len (A := A27) (n := y25.1.length) (m := c29) Try.underlying27 rfl) ?_
              refine lex.gpure (want_t rfl rfl (show _ = Value.bool (decide (y25.2 = 2)) from rfl) hq51) (v := .bool (decide ((y25.1.length : Int) = 0))) (pu_eql (k := .i64) (a := (y25.1.length : Int)) (b := 0) rfl rfl) ?_
              refine lex.pure (v := .bool (decide ((y25.1.length : Int) = 0))) (pu_pickT (q := (decide (y25.2 = 2))) rfl hq51 rfl) ?_
              refine lex.pure (v := .bool (decide ((y25.1.length : Int) = 0))) (pu_assign rfl) ?_
              refine lex.nil ?_
              refine hK50 _ _ ?_
              obtain rfl := Option.some.inj hb
              refine Wc.ret ?_
              refine hKR _ _ ?_
              refine ⟨_, res1 Try.results3 (show RV _ _ _ (.tmp _) (.bool (decide ((y25.1.length : Int) = 0))) from rfl), _, rfl, rfl, hC.sel [] (by decide)⟩
            · replace hb := (cF hq51).symm.trans hb
              refine lex.gskip (want_f rfl rfl (show _ = Value.bool (decide (y25.2 = 2)) from rfl) hq51) ?_
              refine lex.gskip (want_f rfl rfl (show _ = Value.bool (decide (y25.2 = 2)) from rfl) hq51) ?_
              refine lex.gskip (want_f rfl rfl (show _ = Value.bool (decide (y25.2 = 2)) from rfl) hq51) ?_
              refine lex.pure (v := .bool false) (pu_pickF (q := (decide (y25.2 = 2))) rfl hq51 rfl) ?_
              refine lex.pure (v := .bool false) (pu_assign rfl) ?_
              refine lex.nil ?_
              refine hK50 _ _ ?_
              obtain rfl := Option.some.inj hb
              refine Wc.ret ?_
              refine hKR _ _ ?_
              refine ⟨_, res1 Try.results3 (show RV _ _ _ (.tmp _) (.bool false) from rfl), _, rfl, rfl, hC.sel [] (by decide)⟩
          · replace hb := (cF hq49).symm.trans hb
            refine Wc.skip ?_
            refine hK44 _ _ ?_
            refine Wc.seq fun K52 hK52 => ?_
            refine Wc.region (by decide +kernel) ?_
            refine lex.pure (v := .pointer (some ((⟨g4, 0, none⟩ : Addr).add 0))) (pu_field (sz := 1) Try.underlying24 rfl Try.sizeOf3 (by decide) rfl e2) ?_
            refine lex.val (v := .int .i64 b_0_0) (ld_fld (hC.bx (i := 1) rfl) Try.isAgg3 rfl rfl) ?_
            refine lex.pure (v := .pointer (some ((⟨g4, 0, none⟩ : Addr).add 1))) (pu_field (sz := 1) Try.underlying24 rfl Try.sizeOf22 (by decide) rfl e2) ?_
            refine lex.val (v := .slice Ab_0_1 b_0_1.length cb_0_1) (ld_fld (hC.bx (i := 1) rfl) Try.isAgg22 rfl rfl) ?_
            refine lex.pure (v := .slice Awx_1 wx_1.length cwx_1) (pu_move e1) ?_
            obtain ⟨y53, h54, hb⟩ := bd hb
            refine lex.cl (⟨_, _, op_call (vs := [.int .i64 b_0_0, .slice Ab_0_1 b_0_1.length cb_0_1, .slice Awx_1 wx_1.length cwx_1]) Try.call14 rfl rfl rfl, ref35_Act_ok n hC.lt hb_0_0 (hC.rd (i := 3) rfl) (hC.rd (i := 2) rfl) h54⟩) ?_
            rintro _ w59 ⟨A55, m56, c57, rfl, hK⟩
            replace hC := hC.merge hK
            clear hK
            obtain ⟨rfl, hl60, hc61⟩ := (hC.ow (i := 0) rfl).sl_len
            refine lex.pure (v := .tuple #[.slice A55 y53.1.length c57, .bool y53.2]) (pu_move rfl) ?_
            refine lex.pure (v := .slice A55 y53.1.length c57) (pu_extract rfl rfl) ?_
            refine lex.pure (v := .bool y53.2) (pu_extract rfl rfl) ?_
            refine lex.pure (v := .slice A55 y53.1.length c57) (pu_assign rfl) ?_
            refine lex.pure (v := .bool y53.2) (pu_assign rfl) ?_
            refine lex.nil ?_
            refine hK52 _ _ ?_
            refine Wc.fresh fun E62 hE => ?_
            have e4 : E62 4 = .bool false := (congrFun hE 4).trans e4
            have e5 : E62 5 = .slice A27 y25.1.length c29 := (congrFun hE 5).trans e5
            have e6 : E62 6 = .int .i64 y25.2 := (congrFun hE 6).trans e6
            have e7 : E62 7 = .slice A55 y53.1.length c57 := (congrFun hE 7).trans rfl
            have e8 : E62 8 = .bool y53.2 := (congrFun hE 8).trans rfl
            clear hE
            refine Wc.seq fun K63 hK63 => ?_
            refine Wc.seq fun K64 hK64 => ?_
            refine Wc.region (by decide +kernel) ?_
            refine lex.pure (v := .bool y53.2) (pu_move e8) ?_
            refine lex.pure (v := .bool (!y53.2)) (pu_not (q := y53.2) rfl) ?_
            refine lex.nil ?_
            refine hK64 _ _ ?_
            refine Wc.cond (t := (!y53.2)) (rfl) (fun hq65 => ?_) (fun hq65 => ?_)
            · replace hb := (cT hq65).symm.trans hb
              refine Wc.seq fun K66 hK66 => ?_
              refine Wc.region (by decide +kernel) ?_
              refine lex.pure (v := .int .i64 y25.2) (pu_move e6) ?_
              refine lex.pure (v := .bool (decide (y25.2 = 5))) (pu_eql (k := .i64) (a := y25.2) (b := 5) rfl rfl) ?_
              refine lex.pure (v := .bool (decide (y25.2 = 5))) (pu_move rfl) ?_
              rcases bS (decide (y25.2 = 5)) with hq67 | hq67
              · replace hb := (cT hq67).symm.trans hb
                refine lex.gpure (want_t rfl rfl (show _ = Value.bool (decide (y25.2 = 5)) from rfl) hq67) (v := .slice A27 y25.1.length c29) (pu_move e5) ?_
                refine lex.gpure (want_t rfl rfl (show _ = Value.bool (decide (y25.2 = 5)) from rfl) hq67) (v := .int .i64 (y25.1.length : Int)) (pu_len (A := A27) (n := y25.1.length) (m := c29) Try.underlying27 rfl) ?_
                refine lex.gpure (want_t rfl rfl (show _ = Value.bool (decide (y25.2 = 5)) from rfl) hq67) (v := .bool (decide ((y25.1.length : Int) = 0))) (pu_eql (k := .i64) (a := (y25.1.length : Int)) (b := 0) rfl rfl) ?_
                refine lex.pure (v := .bool (decide ((y25.1.length : Int) = 0))) (pu_pickT (q := (decide (y25.2 = 5))) rfl hq67 rfl) ?_
                refine lex.pure (v := .bool (decide ((y25.1.length : Int) = 0))) (pu_assign rfl) ?_
                refine lex.nil ?_
                refine hK66 _ _ ?_
                obtain rfl := Option.some.inj hb
                refine Wc.ret ?_
                refine hKR _ _ ?_
                refine ⟨_, res1 Try.results3 (show RV _ _ _ (.tmp _) (.bool (decide ((y25.1.length : Int) = 0))) from rfl), _, rfl, rfl, hC.sel [] (by decide)⟩
              · replace hb := (cF hq67).symm.trans hb
                refine lex.gskip (want_f rfl rfl (show _ = Value.bool (decide (y25.2 = 5)) from rfl) hq67) ?_
                refine lex.gskip (want_f rfl rfl (show _ = Value.bool (decide (y25.2 = 5)) from rfl) hq67) ?_
                refine lex.gskip (want_f rfl rfl (show _ = Value.bool (decide (y25.2 = 5)) from rfl) hq67) ?_
                refine lex.pure (v := .bool false) (pu_pickF (q := (decide (y25.2 = 5))) rfl hq67 rfl) ?_
                refine lex.pure (v := .bool false) (pu_assign rfl) ?_
                refine lex.nil ?_
                refine hK66 _ _ ?_
                obtain rfl := Option.some.inj hb
                refine Wc.ret ?_
                refine hKR _ _ ?_
                refine ⟨_, res1 Try.results3 (show RV _ _ _ (.tmp _) (.bool false) from rfl), _, rfl, rfl, hC.sel [] (by decide)⟩
            · replace hb := (cF hq65).symm.trans hb
              refine Wc.skip ?_
              refine hK63 _ _ ?_
              refine Wc.seq fun K68 hK68 => ?_
              refine Wc.region (by decide +kernel) ?_
              refine lex.pure (v := .int .i64 y25.2) (pu_move e6) ?_
              refine lex.pure (v := .bool (decide (y25.2 = 0))) (pu_eql (k := .i64) (a := y25.2) (b := 0) rfl rfl) ?_
              refine lex.pure (v := .bool (decide (y25.2 = 0))) (pu_move rfl) ?_
              rcases bS (decide (y25.2 = 0)) with hq69 | hq69
              · replace hb := (cT hq69).symm.trans hb
                refine lex.gpure (want_t rfl rfl (show _ = Value.bool (decide (y25.2 = 0)) from rfl) hq69) (v := .slice A27 y25.1.length c29) (pu_move e5) ?_
                refine lex.gpure (want_t rfl rfl (show _ = Value.bool (decide (y25.2 = 0)) from rfl) hq69) (v := .slice A55 y53.1.length c57) (pu_move e7) ?_
                obtain ⟨y70, h71, hb⟩ := bd hb
                refine lex.gcl (want_t rfl rfl (show _ = Value.bool (decide (y25.2 = 0)) from rfl) hq69) (⟨_, _, op_call (vs := [.slice A27 y25.1.length c29, .slice A55 y53.1.length c57]) Try.call15 rfl rfl rfl, ref01_Ints_ok n (hC.lentLt [.slice A27 y25.1.length c29, .slice A55 y53.1.length c57]) ((hC.ow (i := 1) rfl).lend (vs := [.slice A27 y25.1.length c29, .slice A55 y53.1.length c57]) (by simp)) ((hC.ow (i := 0) rfl).lend (vs := [.slice A27 y25.1.length c29, .slice A55 y53.1.length c57]) (by simp)) h71⟩) ?_
                rintro _ w72 ⟨rfl, hK⟩
                replace hC := hC.mergeF hK rfl
                clear hK
                refine lex.pure (v := .bool y70) (pu_pickT (q := (decide (y25.2 = 0))) rfl hq69 rfl) ?_
                refine lex.pure (v := .bool y70) (pu_assign rfl) ?_
                refine lex.nil ?_
                refine hK68 _ _ ?_
                obtain rfl := Option.some.inj hb
                refine Wc.ret ?_
                refine hKR _ _ ?_
                refine ⟨_, res1 Try.results3 (show RV _ _ _ (.tmp _) (.bool y70) from rfl), _, rfl, rfl, hC.sel [] (by decide)⟩
              · replace hb := (cF hq69).symm.trans hb
                refine lex.gskip (want_f rfl rfl (show _ = Value.bool (decide (y25.2 = 0)) from rfl) hq69) ?_
                refine lex.gskip (want_f rfl rfl (show _ = Value.bool (decide (y25.2 = 0)) from rfl) hq69) ?_
                refine lex.gskip (want_f rfl rfl (show _ = Value.bool (decide (y25.2 = 0)) from rfl) hq69) ?_
                refine lex.pure (v := .bool false) (pu_pickF (q := (decide (y25.2 = 0))) rfl hq69 rfl) ?_
                refine lex.pure (v := .bool false) (pu_assign rfl) ?_
                refine lex.nil ?_
                refine hK68 _ _ ?_
                obtain rfl := Option.some.inj hb
                refine Wc.ret ?_
                refine hKR _ _ ?_
                refine ⟨_, res1 Try.results3 (show RV _ _ _ (.tmp _) (.bool false) from rfl), _, rfl, rfl, hC.sel [] (by decide)⟩
end Go.Proofs.Ytlkmcbgkohpmiaa
