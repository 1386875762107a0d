import Derived.Test.YteajmbanlohncaaCall
namespace Go.Proofs.Yteajmbanlohncaa
namespace Ev
theorem Rep.more {O:List Nat} {w:World} {s:Sh} {cs:List Value} {x:s.T} {vs vs':List Value} (h:Rep (Ev.lent O vs) w s cs x) (hs: ∀v∈vs,v∈vs'):Rep (Ev.lent O vs') w s cs x:=
  Rep.sub (fun k hk=>.inl (by
    obtain ⟨h1,h2⟩:=List.mem_filter.1 hk
    refine List.mem_filter.2 ⟨h1,?_⟩
    simp only [Bool.not_eq_true',List.any_eq_false] at h2⊢
    exact fun v hv=>h2 v (hs v hv))) h
theorem isNone_nz {α:Type} {A:Option Addr} {xs:List α} (h1:A=none→xs=[]) (h2:xs=[]→A=none):A.isNone=xs.isEmpty:=by
  cases A with
  | none=>rw [h1 rfl]; rfl
  | some a=>
    cases xs with
    | nil=>exact absurd (h2 rfl) (by simp)
    | cons x r=>rfl
end Ev
end Go.Proofs.Yteajmbanlohncaa
