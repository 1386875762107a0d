/- The plain law of MarkovFull: the walk's function answers true. -/
import Derived.Test.YtkjpldmelafooaaF
import Derived.Test.YtkjpldmelafooaaTrod
set_option linter.unusedVariables false
namespace Go.Proofs.Ytkjpldmelafooaa
open Ev
set_option maxRecDepth 100000 in
theorem full_at : ∀ b : Bool, (∀ k ∈ [(0 : Int), 1, 2, 3], (F.law36_MarkovFull 400 k b) = some true) := by decide +kernel
theorem law36_MarkovFull_true (z0 : Int) (z1 : Bool) (o0 : Ev.Sh.ok (.int .u8) z0) (o1 : Ev.Sh.ok .bool z1) : ∃ n, F.law36_MarkovFull n z0 z1 = some true := by
  have h0 : 0 ≤ z0 ∧ z0 ≤ 255 := by
    have h : IntKind.u8.wrap z0 = z0 := o0
    simp [IntKind.wrap, IntKind.signed, IntKind.bits] at h; omega
  refine ⟨400, ?_⟩
  have hk : F.law36_MarkovFull 400 z0 z1 = F.law36_MarkovFull 400 (Int.tmod z0 4) z1 := by
    unfold F.law36_MarkovFull
    have : Int.tmod (Int.tmod z0 4) 4 = Int.tmod z0 4 := by
      rw [Int.tmod_eq_emod_of_nonneg h0.1]; rw [Int.tmod_eq_emod_of_nonneg (by omega)]; omega
    rw [this]
  rw [hk]
  refine full_at z1 _ ?_
  rw [Int.tmod_eq_emod_of_nonneg h0.1]
  have : z0 % 4 = 0 ∨ z0 % 4 = 1 ∨ z0 % 4 = 2 ∨ z0 % 4 = 3 := by omega
  simpa using this
end Go.Proofs.Ytkjpldmelafooaa
