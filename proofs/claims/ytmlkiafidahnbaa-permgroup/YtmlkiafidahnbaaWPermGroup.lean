/- PermGroup: the statement holds. -/
import Derived.Test.YtmlkiafidahnbaaRows
import Derived.Test.YtmlkiafidahnbaaTrod
import Derived.Test.YtmlkiafidahnbaaG16
import Derived.Test.YtmlkiafidahnbaaPPgroup
namespace Go.Proofs.Ytmlkiafidahnbaa
open Go.ChangeShapes Go.WideShapes Go.ChangeAt Go.RowKit Ev
set_option linter.unusedVariables false
namespace permGroup
theorem own : ownKnob Try.prog.godebug = none := by kernel_rfl
set_option maxRecDepth 100000 in
theorem contract (H : Type) (enc : TypeId × Value → H) (W : World) (base : Nat) (args : Array Value) (ds gs : List (DataW H)) (before : List MemPlace)
    (hval : ∀ (j : Nat) t v, Try.f6.params[j]? = some t → args[j]? = some v → Value.okWide Try.prog W .any base t v)
    (hW : DataW.Whole enc Try.prog Try.f6.params.toList Rows.permGroupSpec.vars false W args.toList ds gs before) :
    Calls Try.prog 6 args W fun e W' => ∃ v, e = .returned v ∧ Rows.permGroupSpec.post enc Try.prog Try.f6 false true false false W args v W' := by
  have hW' := hW
  obtain ⟨p, q, hA0, hV, rfl, hfz, hnd⟩ := hW
  have hA : DataW.TrodAll enc Try.prog W 0 (fun _ => true) true Try.f6.params.toList args.toList ds p := hA0
  rw [Try.params6] at hA hval
  obtain ⟨v0, vs0, d0, ds0, p0, q0, hargs0, rfl, rfl, h0, r0⟩ := trodAll_cons hA
  obtain ⟨v1, vs1, d1, ds1, p1, q1, rfl, rfl, rfl, h1, r1⟩ := trodAll_cons r0
  obtain ⟨v2, vs2, d2, ds2, p2, q2, rfl, rfl, rfl, h2, r2⟩ := trodAll_cons r1
  obtain ⟨rfl, rfl, rfl⟩ := trodAll_nil r2
  obtain rfl : args = #[v0, v1, v2] := by cases args; simp_all
  obtain ⟨rfl, rfl⟩ := trodVars_none hV
  clear hA0 hargs0
  rw [show ((p0 ++ (p1 ++ (p2 ++ []))) ++ [] : List MemPlace) = (p0 ++ (p1 ++ (p2 ++ []))) from List.append_nil _] at hW'
  obtain ⟨⟨x0, g0⟩, k0⟩ := open_sh (s := (.sl (.int .i64))) (Fit.sl Try.underlying28 (by kernel_rfl) (Fit.int Try.underlying3)) h0
  have o0 := g0.ok
  obtain ⟨A0, m0, c0, rfl⟩ := okWide_slice Try.underlying28 (hval 0 28 v0 rfl rfl)
  have g0 : Rep [] W (.sl (.int .i64)) [.slice A0 m0 c0] x0 := g0
  obtain ⟨⟨x1, g1⟩, k1⟩ := open_sh (s := (.sl (.int .i64))) (Fit.sl Try.underlying28 (by kernel_rfl) (Fit.int Try.underlying3)) h1
  have o1 := g1.ok
  obtain ⟨A1, m1, c1, rfl⟩ := okWide_slice Try.underlying28 (hval 1 28 v1 rfl rfl)
  have g1 : Rep [] W (.sl (.int .i64)) [.slice A1 m1 c1] x1 := g1
  obtain ⟨⟨x2, g2⟩, k2⟩ := open_sh (s := (.sl (.int .i64))) (Fit.sl Try.underlying28 (by kernel_rfl) (Fit.int Try.underlying3)) h2
  have o2 := g2.ok
  obtain ⟨A2, m2, c2, rfl⟩ := okWide_slice Try.underlying28 (hval 2 28 v2 rfl rfl)
  have g2 : Rep [] W (.sl (.int .i64)) [.slice A2 m2 c2] x2 := g2
  obtain ⟨n, hb⟩ := law30_PermGroup_true x0 x1 x2 o0 o1 o2
  refine (law30_PermGroup_ok n (O0 := []) (fun k hk => absurd hk List.not_mem_nil) g0 g1 g2 hb).mono fun e W' hh => ?_
  obtain ⟨v, he, hv, hC⟩ := hh
  subst hv
  exact ⟨_, he, law_post rfl hW' (fun _ _ _ => trodAll_cons_mk (shut_bool Try.underlying4 _) trodAll_mk0) (fun sp hsp => by rw [Try.params6]; exact (trodAll_cons_mk (k0 W' hC.fr sp (fun p hp => hsp p (by simp [hp]))) (trodAll_cons_mk (k1 W' hC.fr sp (fun p hp => hsp p (by simp [hp]))) (trodAll_cons_mk (k2 W' hC.fr sp (fun p hp => hsp p (by simp [hp]))) trodAll_mk0)))) rfl hC.fr⟩

set_option maxRecDepth 100000 in
theorem lifted (os : Os) (started : os.Started) (H : Type) (enc : TypeId × Value → H) :
    ReturnsInHanded {} Try.checked os 6 .any (Rows.permGroupSpec.pre6 enc Try.prog Try.f6 Rows.permGroupRow.domain false) (Rows.permGroupSpec.post enc Try.prog Try.f6 false true false false) := by
  refine returnsInHanded_of_change (C := Try.checked) own started (by kernel_rfl) Try.func6
    (ChangeSpec.witness6 (enc := enc) (C := Try.checked) false ⟨#[], #[.slice none 0 0, .slice none 0 0, .slice none 0 0], []⟩ 8 (by kernel_rfl) (by kernel_rfl) (by kernel_rfl) (by kernel_rfl)) ?_
  intro W base args ds gs before hval hW hcnd _
  exact contract H enc W base args ds gs before hval hW
end permGroup

theorem permGroup_holds : Rows.PermGroupSaid :=
  OpenClaim.holds_of_wide 6 Try.f6 rfl rfl rfl rfl rfl rfl rfl ⟨rfl, rfl, rfl, rfl, rfl⟩ rfl rfl rfl rfl rfl (by kernel_rfl) Try.func6 (by kernel_rfl)
    (of_decide_eq_true (by kernel_rfl)) (by unfold Func.isWrapper; first | (rw [if_pos (by decide +kernel)]; kernel_rfl) | (rw [if_neg (by decide +kernel)]; exact ⟨rfl, rfl⟩))
    (fun os started H enc _ => permGroup.lifted os started H enc)
end Go.Proofs.Ytmlkiafidahnbaa
