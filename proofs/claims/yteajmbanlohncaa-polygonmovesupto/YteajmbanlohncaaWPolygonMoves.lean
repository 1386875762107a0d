/- PolygonMoves: the statement holds. -/
import Derived.JoinedCond
import Derived.Test.YteajmbanlohncaaRows
import Derived.Test.YteajmbanlohncaaTrod
import Derived.Test.YteajmbanlohncaaBulk
import Derived.Test.YteajmbanlohncaaG11
import Derived.Test.YteajmbanlohncaaPQmoves
namespace Go.Proofs.Yteajmbanlohncaa
open Go.ChangeShapes Go.WideShapes Go.ChangeAt Go.RowKit Ev
set_option linter.unusedVariables false
namespace polygonMoves
theorem own : ownKnob Try.prog.godebug = none := by kernel_rfl
theorem sumB {H : Type} : ∀ l : List (DataW H), (l.map Rows.uptoBulk).sum = Rows.uptoBulkAll l
  | [] => by simp [Rows.uptoBulkAll]
  | x :: r => by simp [Rows.uptoBulkAll, sumB r]
theorem bulkOk (H : Type) : BulkOk (Rows.uptoBulk : DataW H → Nat) where
  lit l := by cases l <;> simp [Rows.uptoBulk]
  nil := by simp [Rows.uptoBulk]
  sl es sp := by rw [sumB]; simp only [Rows.uptoBulk]; omega
  agg ps := by rw [sumB]; simp only [Rows.uptoBulk]; omega
set_option maxRecDepth 100000 in
theorem contract (H : Type) (enc : TypeId × Value → H) (W : World) (base : Nat) (args : Array Value) (ds gs : List (DataW H)) (before : List MemPlace)
    (hval : ∀ (j : Nat) t v, Try.f6.params[j]? = some t → args[j]? = some v → Value.okWide Try.prog W .any base t v)
    (hW : DataW.Whole enc Try.prog Try.f6.params.toList Rows.polygonMovesSpec.vars false W args.toList ds gs before) (hk : Rows.uptoSmall H (ds ++ gs) = true) :
    Calls Try.prog 6 args W fun e W' => ∃ v, e = .returned v ∧ Rows.polygonMovesSpec.post enc Try.prog Try.f6 false true false false W args v W' := by
  have hW' := hW
  obtain ⟨p, q, hA0, hV, rfl, hfz, hnd⟩ := hW
  have hA : DataW.TrodAll enc Try.prog W 0 (fun _ => true) true Try.f6.params.toList args.toList ds p := hA0
  rw [Try.params6] at hA hval
  obtain ⟨v0, vs0, d0, ds0, p0, q0, hargs0, rfl, rfl, h0, r0⟩ := trodAll_cons hA
  obtain ⟨v1, vs1, d1, ds1, p1, q1, rfl, rfl, rfl, h1, r1⟩ := trodAll_cons r0
  obtain ⟨v2, vs2, d2, ds2, p2, q2, rfl, rfl, rfl, h2, r2⟩ := trodAll_cons r1
  obtain ⟨v3, vs3, d3, ds3, p3, q3, rfl, rfl, rfl, h3, r3⟩ := trodAll_cons r2
  obtain ⟨v4, vs4, d4, ds4, p4, q4, rfl, rfl, rfl, h4, r4⟩ := trodAll_cons r3
  obtain ⟨rfl, rfl, rfl⟩ := trodAll_nil r4
  obtain rfl : args = #[v0, v1, v2, v3, v4] := by cases args; simp_all
  obtain ⟨rfl, rfl⟩ := trodVars_none hV
  clear hA0 hargs0
  rw [show ((p0 ++ (p1 ++ (p2 ++ (p3 ++ (p4 ++ []))))) ++ [] : List MemPlace) = (p0 ++ (p1 ++ (p2 ++ (p3 ++ (p4 ++ []))))) from List.append_nil _] at hW'
  have hB := of_decide_eq_true hk
  simp only [List.append_nil, Rows.uptoBulkAll] at hB
  clear hk
  obtain ⟨⟨x0, g0, cb0⟩, k0⟩ := open_shB (bulkOk H) (s := (.sl (.sl (.pr (.int .i64) (.pr (.int .i64) (.int .i64)))))) (Fit.sl Try.underlying28 (by kernel_rfl) (Fit.sl Try.underlying43 (by kernel_rfl) (Fit.st Try.underlying23 (by kernel_rfl) (FitL.cons rfl (by kernel_rfl) (Fit.int Try.underlying3) (FitL.cons rfl (by kernel_rfl) (Fit.int Try.underlying3) (FitL.one rfl (by kernel_rfl) (Fit.int Try.underlying3))))))) h0
  replace cb0 : Sh.bulk (.sl (.sl (.pr (.int .i64) (.pr (.int .i64) (.int .i64))))) x0 ≤ 1048576 := by omega
  have o0 := g0.ok
  obtain ⟨A0, m0, c0, rfl⟩ := okWide_slice Try.underlying28 (hval 0 28 v0 rfl rfl)
  have g0 : Rep [] W (.sl (.sl (.pr (.int .i64) (.pr (.int .i64) (.int .i64))))) [.slice A0 m0 c0] x0 := g0
  obtain ⟨⟨x1, g1, cb1⟩, k1⟩ := open_shB (bulkOk H) (s := (.int .i8)) (Fit.int Try.underlying45) h1
  replace cb1 : Sh.bulk (.int .i8) x1 ≤ 1048576 := by omega
  have o1 := g1.ok
  obtain ⟨z1, rfl⟩ := okWide_int Try.underlying45 (hval 1 45 v1 rfl rfl)
  obtain rfl : z1 = x1 := by have := g1.1; simpa [Value.cells] using this
  obtain ⟨⟨x2, g2, cb2⟩, k2⟩ := open_shB (bulkOk H) (s := (.int .i8)) (Fit.int Try.underlying45) h2
  replace cb2 : Sh.bulk (.int .i8) x2 ≤ 1048576 := by omega
  have o2 := g2.ok
  obtain ⟨z2, rfl⟩ := okWide_int Try.underlying45 (hval 2 45 v2 rfl rfl)
  obtain rfl : z2 = x2 := by have := g2.1; simpa [Value.cells] using this
  obtain ⟨⟨x3, g3, cb3⟩, k3⟩ := open_shB (bulkOk H) (s := (.int .i8)) (Fit.int Try.underlying45) h3
  replace cb3 : Sh.bulk (.int .i8) x3 ≤ 1048576 := by omega
  have o3 := g3.ok
  obtain ⟨z3, rfl⟩ := okWide_int Try.underlying45 (hval 3 45 v3 rfl rfl)
  obtain rfl : z3 = x3 := by have := g3.1; simpa [Value.cells] using this
  obtain ⟨⟨x4, g4, cb4⟩, k4⟩ := open_shB (bulkOk H) (s := (.int .u8)) (Fit.int Try.underlying5) h4
  replace cb4 : Sh.bulk (.int .u8) x4 ≤ 1048576 := by omega
  have o4 := g4.ok
  obtain ⟨z4, rfl⟩ := okWide_int Try.underlying5 (hval 4 5 v4 rfl rfl)
  obtain rfl : z4 = x4 := by have := g4.1; simpa [Value.cells] using this
  obtain ⟨n, hb⟩ := law46_PolygonMoves_true x0 z1 z2 z3 z4 o0 o1 o2 o3 o4 cb0 cb1 cb2 cb3 cb4
  refine (law46_PolygonMoves_ok n (O0 := []) (fun k hk => absurd hk List.not_mem_nil) g0 g1.2 g2.2 g3.2 g4.2 hb).mono fun e W' hh => ?_
  obtain ⟨v, he, hv, hC⟩ := hh
  subst hv
  exact ⟨_, he, law_post rfl hW' (fun _ _ _ => trodAll_cons_mk (shut_bool Try.underlying4 _) trodAll_mk0) (fun sp hsp => by rw [Try.params6]; exact (trodAll_cons_mk (k0 W' hC.fr sp (fun p hp => hsp p (by simp [hp]))) (trodAll_cons_mk (k1 W' hC.fr sp (fun p hp => hsp p (by simp [hp]))) (trodAll_cons_mk (k2 W' hC.fr sp (fun p hp => hsp p (by simp [hp]))) (trodAll_cons_mk (k3 W' hC.fr sp (fun p hp => hsp p (by simp [hp]))) (trodAll_cons_mk (k4 W' hC.fr sp (fun p hp => hsp p (by simp [hp]))) trodAll_mk0)))))) rfl hC.fr⟩

set_option maxRecDepth 100000 in
theorem lifted (os : Os) (started : os.Started) (H : Type) (enc : TypeId × Value → H) (F : Stop.Interp) :
    ReturnsInHanded {} Try.checked os 6 .any ((Rows.OpenSpec.upto Rows.polygonMovesSpec).pre6 enc Try.prog Try.f6 Rows.polygonMovesUptoRow.domain false) (((Rows.OpenSpec.upto Rows.polygonMovesSpec).at F).post enc Try.prog Try.f6 false true false false) := by
  refine returnsInHanded_of_cond (C := Try.checked) (s := Rows.OpenSpec.upto Rows.polygonMovesSpec) (k := Rows.uptoSmall) rfl own started (by kernel_rfl) Try.func6
    (OpenSpec.witness (enc := enc) (C := Try.checked) (s := Rows.OpenSpec.upto Rows.polygonMovesSpec) (k := Rows.uptoSmall) rfl false ⟨#[], #[.slice none 0 0, .int .i8 0, .int .i8 0, .int .i8 0, .int .u8 0], []⟩ 8 (by kernel_rfl) (by kernel_rfl) (by kernel_rfl)
      (x := ([.nil, .lit (.int .i8 0), .lit (.int .i8 0), .lit (.int .i8 0), .lit (.int .u8 0)], [], [])) (by kernel_rfl) rfl (by kernel_rfl)) ?_
  intro W base args ds gs before hval hW _ hk _
  exact contract H enc W base args ds gs before hval hW hk
end polygonMoves

theorem polygonMoves_upto_holds : Rows.PolygonMovesUptoSaid :=
  OpenClaim.holds_of_cond 6 Try.f6 rfl rfl rfl rfl rfl rfl rfl ⟨rfl, rfl, rfl, rfl, rfl⟩ rfl rfl rfl rfl rfl (by kernel_rfl) Try.func6 (by kernel_rfl)
    (of_decide_eq_true (by kernel_rfl)) (by unfold Func.isWrapper; first | (rw [if_pos (by decide +kernel)]; kernel_rfl) | (rw [if_neg (by decide +kernel)]; exact ⟨rfl, rfl⟩))
    (fun os started H enc _ F => polygonMoves.lifted os started H enc F)
end Go.Proofs.Yteajmbanlohncaa
