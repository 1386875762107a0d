/- GarsideReturns: the statement holds. -/
import Derived.JoinedCond
import Derived.Test.YtkeaonceaaafcaaRows
import Derived.Test.YtkeaonceaaafcaaTrod
import Derived.Test.YtkeaonceaaafcaaBulk
import Derived.Test.YtkeaonceaaafcaaG33
import Derived.Test.YtkeaonceaaafcaaPGret
namespace Go.Proofs.Ytkeaonceaaafcaa
open Go.ChangeShapes Go.WideShapes Go.ChangeAt Go.RowKit Ev
set_option linter.unusedVariables false
namespace garsideReturns
theorem own : ownKnob Try.prog.godebug = none := by kernel_rfl
theorem sumB {H : Type} : ∀ l : List (DataW H), (l.map Rows.uptoBulk).sum = Rows.uptoBulkAll l
  | [] => by simp [Rows.uptoBulkAll]
  | x :: r => by simp [Rows.uptoBulkAll, sumB r]
theorem bulkOk (H : Type) : BulkOk (Rows.uptoBulk : DataW H → Nat) where
  lit l := by cases l <;> simp [Rows.uptoBulk]
  nil := by simp [Rows.uptoBulk]
  sl es sp := by rw [sumB]; simp only [Rows.uptoBulk]; omega
  agg ps := by rw [sumB]; simp only [Rows.uptoBulk]; omega
set_option maxRecDepth 100000 in
theorem contract (H : Type) (enc : TypeId × Value → H) (W : World) (base : Nat) (args : Array Value) (ds gs : List (DataW H)) (before : List MemPlace)
    (hval : ∀ (j : Nat) t v, Try.f11.params[j]? = some t → args[j]? = some v → Value.okWide Try.prog W .any base t v)
    (hW : DataW.Whole enc Try.prog Try.f11.params.toList Rows.garsideReturnsSpec.vars false W args.toList ds gs before) (hk : Rows.uptoSmall H (ds ++ gs) = true) :
    Calls Try.prog 11 args W fun e W' => ∃ v, e = .returned v ∧ Rows.garsideReturnsSpec.post enc Try.prog Try.f11 false true false false W args v W' := by
  have hW' := hW
  obtain ⟨p, q, hA0, hV, rfl, hfz, hnd⟩ := hW
  have hA : DataW.TrodAll enc Try.prog W 0 (fun _ => true) true Try.f11.params.toList args.toList ds p := hA0
  rw [Try.params11] at hA hval
  obtain ⟨v0, vs0, d0, ds0, p0, q0, hargs0, rfl, rfl, h0, r0⟩ := trodAll_cons hA
  obtain ⟨v1, vs1, d1, ds1, p1, q1, rfl, rfl, rfl, h1, r1⟩ := trodAll_cons r0
  obtain ⟨rfl, rfl, rfl⟩ := trodAll_nil r1
  obtain rfl : args = #[v0, v1] := by cases args; simp_all
  obtain ⟨rfl, rfl⟩ := trodVars_none hV
  clear hA0 hargs0
  rw [show ((p0 ++ (p1 ++ [])) ++ [] : List MemPlace) = (p0 ++ (p1 ++ [])) from List.append_nil _] at hW'
  have hB := of_decide_eq_true hk
  simp only [List.append_nil, Rows.uptoBulkAll] at hB
  clear hk
  obtain ⟨⟨x0, g0, c0⟩, k0⟩ := open_shB (bulkOk H) (s := (.pr (.int .i64) (.pr (.int .i64) (.sl (.sl (.int .i64)))))) (Fit.st Try.underlying28 (by kernel_rfl) (FitL.cons rfl (by kernel_rfl) (Fit.int Try.underlying3) (FitL.cons rfl (by kernel_rfl) (Fit.int Try.underlying3) (FitL.one rfl (by kernel_rfl) (Fit.sl Try.underlying26 (by kernel_rfl) (Fit.sl Try.underlying43 (by kernel_rfl) (Fit.int Try.underlying3))))))) h0
  replace c0 : Sh.bulk (.pr (.int .i64) (.pr (.int .i64) (.sl (.sl (.int .i64))))) x0 ≤ 1048576 := by omega
  have o0 := g0.ok
  obtain ⟨cs0, rfl, _⟩ := okWide_struct Try.underlying28 (hval 0 28 v0 rfl rfl)
  obtain ⟨lg0a, lg0b, Eg0, g0a, g0b⟩ := g0
  obtain ⟨Elg0a, Hg0a⟩ := g0a
  subst Elg0a
  obtain ⟨lg0ba, lg0bb, Eg0b, g0ba, g0bb⟩ := g0b
  obtain ⟨Elg0ba, Hg0ba⟩ := g0ba
  subst Elg0ba
  have Tg0bb := g0bb
  obtain ⟨Ag0bb, cg0bb, Elg0bb, _⟩ := Tg0bb
  subst Elg0bb
  obtain rfl : cs0 = #[.int .i64 x0.1, .int .i64 x0.2.1, .slice Ag0bb _ cg0bb] := Array.ext' (by have : cs0.toList = _ := Eg0; rw [this, Eg0b]; rfl)
  obtain ⟨⟨x1, g1, c1⟩, k1⟩ := open_shB (bulkOk H) (s := (.pr (.int .i64) (.sl (.int .i64)))) (Fit.st Try.underlying24 (by kernel_rfl) (FitL.cons rfl (by kernel_rfl) (Fit.int Try.underlying3) (FitL.one rfl (by kernel_rfl) (Fit.sl Try.underlying22 (by kernel_rfl) (Fit.int Try.underlying3))))) h1
  replace c1 : Sh.bulk (.pr (.int .i64) (.sl (.int .i64))) x1 ≤ 1048576 := by omega
  have o1 := g1.ok
  obtain ⟨cs1, rfl, _⟩ := okWide_struct Try.underlying24 (hval 1 24 v1 rfl rfl)
  obtain ⟨lg1a, lg1b, Eg1, g1a, g1b⟩ := g1
  obtain ⟨Elg1a, Hg1a⟩ := g1a
  subst Elg1a
  have Tg1b := g1b
  obtain ⟨Ag1b, cg1b, Elg1b, _⟩ := Tg1b
  subst Elg1b
  obtain rfl : cs1 = #[.int .i64 x1.1, .slice Ag1b _ cg1b] := Array.ext' (by have : cs1.toList = _ := Eg1; rw [this]; rfl)
  obtain ⟨n, hb⟩ := law34_GarsideReturns_true x0 x1 o0 o1 c0 c1
  refine (law34_GarsideReturns_ok n (O0 := []) (fun k hk => absurd hk List.not_mem_nil) (i64_of Hg0a) (i64_of Hg0ba) g0bb (i64_of Hg1a) g1b hb).mono fun e W' hh => ?_
  obtain ⟨v, he, hv, hC⟩ := hh
  subst hv
  exact ⟨_, he, law_post rfl hW' (fun _ _ _ => trodAll_cons_mk (shut_bool Try.underlying4 _) trodAll_mk0) (fun sp hsp => by rw [Try.params11]; exact (trodAll_cons_mk (k0 W' hC.fr sp (fun p hp => hsp p (by simp [hp]))) (trodAll_cons_mk (k1 W' hC.fr sp (fun p hp => hsp p (by simp [hp]))) trodAll_mk0))) rfl hC.fr⟩

set_option maxRecDepth 100000 in
theorem lifted (os : Os) (started : os.Started) (H : Type) (enc : TypeId × Value → H) (F : Stop.Interp) :
    ReturnsInHanded {} Try.checked os 11 .any ((Rows.OpenSpec.upto Rows.garsideReturnsSpec).pre6 enc Try.prog Try.f11 Rows.garsideReturnsUptoRow.domain false) (((Rows.OpenSpec.upto Rows.garsideReturnsSpec).at F).post enc Try.prog Try.f11 false true false false) := by
  refine returnsInHanded_of_cond (C := Try.checked) (s := Rows.OpenSpec.upto Rows.garsideReturnsSpec) (k := Rows.uptoSmall) rfl own started (by kernel_rfl) Try.func11
    (OpenSpec.witness (enc := enc) (C := Try.checked) (s := Rows.OpenSpec.upto Rows.garsideReturnsSpec) (k := Rows.uptoSmall) rfl false ⟨#[], #[.agg #[.int .i64 0, .int .i64 0, .slice none 0 0], .agg #[.int .i64 0, .slice none 0 0]], []⟩ 8 (by kernel_rfl) (by kernel_rfl) (by kernel_rfl)
      (x := ([.agg [.lit (.int .i64 0), .lit (.int .i64 0), .nil], .agg [.lit (.int .i64 0), .nil]], [], [])) (by kernel_rfl) rfl (by kernel_rfl)) ?_
  intro W base args ds gs before hval hW _ hk _
  exact contract H enc W base args ds gs before hval hW hk
end garsideReturns

theorem garsideReturns_upto_holds : Rows.GarsideReturnsUptoSaid :=
  OpenClaim.holds_of_cond 11 Try.f11 rfl rfl rfl rfl rfl rfl rfl ⟨rfl, rfl, rfl, rfl, rfl⟩ rfl rfl rfl rfl rfl (by kernel_rfl) Try.func11 (by kernel_rfl)
    (of_decide_eq_true (by kernel_rfl)) (by unfold Func.isWrapper; first | (rw [if_pos (by decide +kernel)]; kernel_rfl) | (rw [if_neg (by decide +kernel)]; exact ⟨rfl, rfl⟩))
    (fun os started H enc _ F => garsideReturns.lifted os started H enc F)
end Go.Proofs.Ytkeaonceaaafcaa
