import Derived.Test.YteajmbanlohncaaPQgenus
set_option linter.unusedVariables false
set_option linter.unusedSimpArgs false
namespace Go.Proofs.Yteajmbanlohncaa
open Ev
namespace Pg
structure PI (N:Nat) (f:Nat→Nat):Prop where
 lt: ∀a,a<N→f a<N
 inj: ∀a b,a<N→b<N→f a=f b→a=b
section
variable {N : Nat} {f : Nat → Nat} (P : PI N f)
include P
end
structure IV (n:Nat) (μ:Nat→Nat):Prop where
 lt: ∀h,h<4*n→μ h<4*n
 inv: ∀h,h<4*n→μ (μ h)=h
def addP (μ:Nat→Nat) (a b h:Nat):Nat:=if h=a then b else if h=b then a else μ h
section
variable {n : Nat} {μ : Nat → Nat} (h : IV n μ) {S : Nat → Prop} (hS : ∀ c d, S c → adjP n μ c d → S d)
include h hS
end
def Outg (sg:List Int) (h:Nat):Prop:=h%4=2∨(h%4=1∧sg.getD (h/ 4) 0=1)∨(h%4=3∧sg.getD (h/ 4) 0=-1)
instance (sg:List Int) (h:Nat):Decidable (Outg sg h):=by unfold Outg; infer_instance
structure DV (sg M:List Int) (lo:Int) (μ:Nat→Nat):Prop where
 n:sg.length≤64
 lo0:0≤lo
 lo1:lo≤64
 sgn: ∀s∈sg,s=1∨s=-1
 mt:MT (4*sg.length) M μ
 out: ∀h,h<4*sg.length→(Outg sg (μ h)↔¬Outg sg h)
 g0:gen2 sg.length μ=0
end Pg
end Go.Proofs.Yteajmbanlohncaa
