import Derived.Test.YteajmbanlohncaaPQsph
set_option linter.unusedVariables false
set_option linter.unusedSimpArgs false
namespace Go.Proofs.Yteajmbanlohncaa
open Ev
namespace Pg
section
variable {n : Nat} {sg M : List Int} {μ : Nat → Nat} (hM : MT (4 * n) M μ) (hn : n ≤ 64) (hsg : sg.length = n)
include hM hn
end
section
variable {n : Nat} {sg M : List Int} {μ : Nat → Nat} (hM : MT (4 * n) M μ) {root : Nat} (hr : root < n)
include hM hr
end
structure Iso (n:Nat) (sg:List Int) (μ:Nat→Nat) (sg':List Int) (μ':Nat→Nat) (π:Nat→Nat):Prop where
 lt: ∀c,c<n→π c<n
 inj: ∀a b,a<n→b<n→π a=π b→a=b
 sg: ∀c,c<n→sg'.getD (π c) 0=sg.getD c 0
 mu: ∀c s,c<n→s<4→μ' (4*π c+s)=4*π (μ (4*c+s)/ 4)+μ (4*c+s)%4
section
variable {n : Nat} {sg M sg' : List Int} {μ μ' π : Nat → Nat} (hM : MT (4 * n) M μ) (I : Iso n sg μ sg' μ' π)
include hM I
end
section
variable {n : Nat} {sg M : List Int} {μ : Nat → Nat} (hM : MT (4 * n) M μ) {root : Nat} (hr : root < n)
include hM hr
end
theorem nd_perm' {α:Type} [DecidableEq α]: ∀{l1 l2:List α},l1.Nodup→l2.Nodup→(∀a,a∈l1↔a∈l2)→l1.Perm l2
 | [],l2,_,_,h=>by
  have:l2=[]:=List.eq_nil_iff_forall_not_mem.2 fun a ha=>absurd ((h a).2 ha) (by simp)
  rw [this]
 | a::t,l2,h1,h2,h=>by
  obtain ⟨ha,ht⟩:=List.nodup_cons.1 h1
  have hm:a∈l2:=(h a).1 (by simp)
  refine ((nd_perm' ht (h2.erase a) fun b=>?_).cons a).trans (List.perm_cons_erase hm).symm
  rw [h2.mem_erase_iff,←h b,List.mem_cons]
  exact ⟨fun hb=>⟨fun e=>ha (e▸hb),.inr hb⟩,fun hb=>hb.2.resolve_left hb.1⟩
section
variable {n : Nat} {sg M : List Int} {μ : Nat → Nat} (hM : MT (4 * n) M μ) (hn : n ≤ 64) (hsg : sg.length = n)
include hM hn hsg
end
section
variable {sg M : List Int} {lo : Int} {μ : Nat → Nat} (D : DV sg M lo μ)
include D
end
section
variable {n : Nat} {sg M sg' M' : List Int} {μ μ' π : Nat → Nat} (hM : MT (4 * n) M μ) (hM' : MT (4 * n) M' μ') (I : Iso n sg μ sg' μ' π)
include hM hM' I
end
end Pg
end Go.Proofs.Yteajmbanlohncaa
