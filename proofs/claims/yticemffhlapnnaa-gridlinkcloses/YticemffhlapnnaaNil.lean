import Derived.Test.YticemffhlapnnaaCall
namespace Go.Proofs.Yticemffhlapnnaa
namespace Ev
section
variable {P : Program} {ρ : Operand → Value} {d : Option Tmp} {t : TypeId} {pos : String} {af : Array Edge} {g : Option (Nat × Bool)} {x : Operand}
theorem pu_nilp {a:Addr} (h:ρ x=.pointer (some a)):Pu P ρ ⟨d,.nilCheck x,t,pos,af,g⟩ (.pointer (some a)):=fun w=>by
  unfold Yv; simp [execOp,h]
theorem Cx.still {g:Nat} {ty:TypeId} {cs:List Value} {O0:List Nat} {w w':World} (hB:Blk w g ty cs) (h:Cx (fun k=>k∈blocks [.box g ty cs]) O0 w w' [.box g ty cs]):Fr (fun _=>False) w w':=
  ⟨h.fr.os,h.fr.tape,h.fr.output,h.fr.size,fun i hi _=>by
    rcases Nat.decEq i g with e | e
    · exact h.fr.block i hi fun hm=>e (by simpa [blocks,Fact.blk] using hm)
    · subst e; exact (h.at_ (i:=0) rfl:Blk w' i ty cs).trans hB.symm,h.fr.drawn⟩
theorem blk_own {e e':TypeId} {s s':Sh} {A:Option Addr} {m c m' c':Nat} {xs:List s.T} {ys:List s'.T} {g:Nat} (h:(Fact.own e s (.slice A m c) xs).blk=some g):(Fact.own e' s' (.slice A m' c') ys).blk=some g:=
  (blk_sl (A:=A) (m:=m') (c:=c') (m':=m) (c':=c)).trans (show blkOf (.slice A m c)=some g from h)
