import Derived.Test.YteajmbanlohncaaCall
namespace Go.Proofs.Yteajmbanlohncaa
namespace Ev
section
variable {P : Program} {ρ : Operand → Value} {d : Option Tmp} {t : TypeId} {pos : String} {af : Array Edge} {g : Option (Nat × Bool)} {x : Operand}
theorem Cx.still {g:Nat} {ty:TypeId} {cs:List Value} {O0:List Nat} {w w':World} (hB:Blk w g ty cs) (h:Cx (fun k=>k∈blocks [.box g ty cs]) O0 w w' [.box g ty cs]):Fr (fun _=>False) w w':=
  ⟨h.fr.os,h.fr.tape,h.fr.output,h.fr.size,fun i hi _=>by
    rcases Nat.decEq i g with e | e
    · exact h.fr.block i hi fun hm=>e (by simpa [blocks,Fact.blk] using hm)
    · subst e; exact (h.at_ (i:=0) rfl:Blk w' i ty cs).trans hB.symm,h.fr.drawn⟩
end
end Ev
end Go.Proofs.Yteajmbanlohncaa
