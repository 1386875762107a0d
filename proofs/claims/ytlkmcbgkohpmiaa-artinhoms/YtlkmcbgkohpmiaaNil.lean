import Derived.Test.YtlkmcbgkohpmiaaCall
namespace Go.Proofs.Ytlkmcbgkohpmiaa
namespace Ev
section
variable {P : Program} {ρ : Operand → Value} {d : Option Tmp} {t : TypeId} {pos : String} {af : Array Edge} {g : Option (Nat × Bool)} {x : Operand}
theorem blk_own {e e':TypeId} {s s':Sh} {A:Option Addr} {m c m' c':Nat} {xs:List s.T} {ys:List s'.T} {g:Nat} (h:(Fact.own e s (.slice A m c) xs).blk=some g):(Fact.own e' s' (.slice A m' c') ys).blk=some g:=
  (blk_sl (A:=A) (m:=m') (c:=c') (m':=m) (c':=c)).trans (show blkOf (.slice A m c)=some g from h)
