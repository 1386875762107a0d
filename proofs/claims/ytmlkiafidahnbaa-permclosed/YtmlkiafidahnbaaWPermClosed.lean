/- PermClosed: the statement holds. -/
import Derived.Test.YtmlkiafidahnbaaRows
import Derived.Test.YtmlkiafidahnbaaTrod
import Derived.Test.YtmlkiafidahnbaaG22
import Derived.Test.YtmlkiafidahnbaaPPclosed
namespace Go.Proofs.Ytmlkiafidahnbaa
open Go.ChangeShapes Go.WideShapes Go.ChangeAt Go.RowKit Ev
set_option linter.unusedVariables false
namespace permClosed
theorem own : ownKnob Try.prog.godebug = none := by kernel_rfl
set_option maxRecDepth 100000 in
theorem contract (H : Type) (enc : TypeId × Value → H) (W : World) (base : Nat) (args : Array Value) (ds gs : List (DataW H)) (before : List MemPlace)
    (hval : ∀ (j : Nat) t v, Try.f9.params[j]? = some t → args[j]? = some v → Value.okWide Try.prog W .any base t v)
    (hW : DataW.Whole enc Try.prog Try.f9.params.toList Rows.permClosedSpec.vars false W args.toList ds gs before) :
    Calls Try.prog 9 args W fun e W' => ∃ v, e = .returned v ∧ Rows.permClosedSpec.post enc Try.prog Try.f9 false true false false W args v W' := by
  have hW' := hW
  obtain ⟨p, q, hA0, hV, rfl, hfz, hnd⟩ := hW
  have hA : DataW.TrodAll enc Try.prog W 0 (fun _ => true) true Try.f9.params.toList args.toList ds p := hA0
  rw [Try.params9] at hA hval
  obtain ⟨v0, vs0, d0, ds0, p0, q0, hargs0, rfl, rfl, h0, r0⟩ := trodAll_cons hA
  obtain ⟨rfl, rfl, rfl⟩ := trodAll_nil r0
  obtain rfl : args = #[v0] := by cases args; simp_all
  obtain ⟨rfl, rfl⟩ := trodVars_none hV
  clear hA0 hargs0
  rw [show ((p0 ++ []) ++ [] : List MemPlace) = (p0 ++ []) from List.append_nil _] at hW'
  obtain ⟨⟨x0, g0⟩, k0⟩ := open_sh (s := (.sl (.int .i64))) (Fit.sl Try.underlying28 (by kernel_rfl) (Fit.int Try.underlying3)) h0
  have o0 := g0.ok
  obtain ⟨A0, m0, c0, rfl⟩ := okWide_slice Try.underlying28 (hval 0 28 v0 rfl rfl)
  have g0 : Rep [] W (.sl (.int .i64)) [.slice A0 m0 c0] x0 := g0
  obtain ⟨n, hb⟩ := law30_PermClosed_true x0 o0
  refine (law30_PermClosed_ok n (O0 := []) (fun k hk => absurd hk List.not_mem_nil) g0 hb).mono fun e W' hh => ?_
  obtain ⟨v, he, hv, hC⟩ := hh
  subst hv
  exact ⟨_, he, law_post rfl hW' (fun _ _ _ => trodAll_cons_mk (shut_bool Try.underlying4 _) trodAll_mk0) (fun sp hsp => by rw [Try.params9]; exact (trodAll_cons_mk (k0 W' hC.fr sp (fun p hp => hsp p (by simp [hp]))) trodAll_mk0)) rfl hC.fr⟩

set_option maxRecDepth 100000 in
theorem lifted (os : Os) (started : os.Started) (H : Type) (enc : TypeId × Value → H) :
    ReturnsInHanded {} Try.checked os 9 .any (Rows.permClosedSpec.pre6 enc Try.prog Try.f9 Rows.permClosedRow.domain false) (Rows.permClosedSpec.post enc Try.prog Try.f9 false true false false) := by
  refine returnsInHanded_of_change (C := Try.checked) own started (by kernel_rfl) Try.func9
    (ChangeSpec.witness6 (enc := enc) (C := Try.checked) false ⟨#[], #[.slice none 0 0], []⟩ 8 (by kernel_rfl) (by kernel_rfl) (by kernel_rfl) (by kernel_rfl)) ?_
  intro W base args ds gs before hval hW hcnd _
  exact contract H enc W base args ds gs before hval hW
end permClosed

theorem permClosed_holds : Rows.PermClosedSaid :=
  OpenClaim.holds_of_wide 9 Try.f9 rfl rfl rfl rfl rfl rfl rfl ⟨rfl, rfl, rfl, rfl, rfl⟩ rfl rfl rfl rfl rfl (by kernel_rfl) Try.func9 (by kernel_rfl)
    (of_decide_eq_true (by kernel_rfl)) (by unfold Func.isWrapper; first | (rw [if_pos (by decide +kernel)]; kernel_rfl) | (rw [if_neg (by decide +kernel)]; exact ⟨rfl, rfl⟩))
    (fun os started H enc _ => permClosed.lifted os started H enc)
end Go.Proofs.Ytmlkiafidahnbaa
