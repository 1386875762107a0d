import Derived.Test.YticemffhlapnnaaPLoop
set_option linter.unusedVariables false
set_option linter.unusedSimpArgs false
namespace Go.Proofs.Yticemffhlapnnaa
namespace Gl
open Ev
theorem ints_same (l:List Int) (hl:l.length<1000) (n:Nat) (hn:2000<n):F.ref01_Ints n l l=some true:=by
  have hlp:loopN n (F.ref01_Ints_b0 n l l) 0=some (.inl (l.length:Int)):=by
    refine count_loop (body:=F.ref01_Ints_b0 n l l) (fun k=>(k:Int)) l.length (fun k hk=>?_) ?_ n (by omega)
    · have g:Ev.get l (k:Int)=some l[k]:=get_at rfl (gE hk)
      unfold F.ref01_Ints_b0
      dsimp only
      rw [dT (show (k:Int)<(l.length:Int) by omega),kT,g,bB,bB,dT rfl,Bool.not_true,kF,chk_ok (by omega) (by omega),bB]
      rfl
    · unfold F.ref01_Ints_b0
      dsimp only
      rw [dF (show¬(l.length:Int)<(l.length:Int) by omega),kF]
  unfold F.ref01_Ints
  rw [dT rfl,Bool.not_true,kF,hlp]
  rfl
end Gl
end Go.Proofs.Yticemffhlapnnaa
