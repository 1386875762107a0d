/- GridlinkRotates: the law answers true for every grid diagram. Conditions: none beyond those of the given statement. -/
import Derived.Test.YticemffhlapnnaaRows
import Derived.Test.YticemffhlapnnaaTrod
import Derived.Test.YticemffhlapnnaaG29
import Derived.Test.YticemffhlapnnaaPRrotl
namespace Go.Proofs.Yticemffhlapnnaa
open Go.ChangeShapes Go.WideShapes Go.ChangeAt Go.RowKit Ev
set_option linter.unusedVariables false
namespace gridlinkRotates
theorem own:ownKnob Try.prog.godebug=none:=by kernel_rfl
set_option maxRecDepth 100000 in
theorem contract (H:Type) (enc:TypeId×Value→H) (W:World) (base:Nat) (args:Array Value) (ds gs:List (DataW H)) (before:List MemPlace)
    (hval: ∀(j:Nat) t v,Try.f8.params[j]? =some t→args[j]? =some v→Value.okWide Try.prog W .any base t v)
    (hW:DataW.Whole enc Try.prog Try.f8.params.toList Rows.gridlinkRotatesSpec.vars false W args.toList ds gs before):
    Calls Try.prog 8 args W fun e W'=> ∃v,e=.returned v∧Rows.gridlinkRotatesSpec.post enc Try.prog Try.f8 false true false false W args v W':=by
  have hW':=hW
  obtain ⟨p,q,hA0,hV,rfl,hfz,hnd⟩:=hW
  have hA:DataW.TrodAll enc Try.prog W 0 (fun _=>true) true Try.f8.params.toList args.toList ds p:=hA0
  rw [Try.params8] at hA hval
  obtain ⟨v0,vs0,d0,ds0,p0,q0,hargs0,rfl,rfl,h0,r0⟩:=trodAll_cons hA
  obtain ⟨rfl,rfl,rfl⟩:=trodAll_nil r0
  obtain rfl:args=#[v0]:=by cases args; simp_all
  obtain ⟨rfl,rfl⟩:=trodVars_none hV
  clear hA0 hargs0
  rw [show ((p0++[])++[]:List MemPlace)=(p0++[]) from List.append_nil _] at hW'
  obtain ⟨⟨x0,g0⟩,k0⟩:=open_sh (s:=(.pr (.sl (.int .i64)) (.sl (.int .i64)))) (Fit.st Try.underlying24 (by kernel_rfl) (FitL.cons rfl (by kernel_rfl) (Fit.sl Try.underlying22 (by kernel_rfl) (Fit.int Try.underlying3)) (FitL.one rfl (by kernel_rfl) (Fit.sl Try.underlying22 (by kernel_rfl) (Fit.int Try.underlying3))))) h0
  have o0:=g0.ok
  obtain ⟨cs0,rfl,_⟩:=okWide_struct Try.underlying24 (hval 0 24 v0 rfl rfl)
  obtain ⟨lg0a,lg0b,Eg0,g0a,g0b⟩:=g0
  have Tg0a:=g0a
  obtain ⟨Ag0a,cg0a,Elg0a,_⟩:=Tg0a
  subst Elg0a
  have Tg0b:=g0b
  obtain ⟨Ag0b,cg0b,Elg0b,_⟩:=Tg0b
  subst Elg0b
  obtain rfl:cs0=#[.slice Ag0a _ cg0a,.slice Ag0b _ cg0b]:=Array.ext' (by have:cs0.toList=_:=Eg0; rw [this]; rfl)
  obtain ⟨n,hb⟩:=law44_GridlinkRotates_true x0 o0
  refine (law44_GridlinkRotates_ok n (O0:=[]) (fun k hk=>absurd hk List.not_mem_nil) g0a g0b hb).mono fun e W' hh=>?_
  obtain ⟨v,he,hv,hC⟩:=hh
  subst hv
  exact ⟨_,he,law_post rfl hW' (fun _ _ _=>trodAll_cons_mk (shut_bool Try.underlying4 _) trodAll_mk0) (fun sp hsp=>by rw [Try.params8]; exact (trodAll_cons_mk (k0 W' hC.fr sp (fun p hp=>hsp p (by simp [hp]))) trodAll_mk0)) rfl hC.fr⟩

set_option maxRecDepth 100000 in
theorem lifted (os:Os) (started:os.Started) (H:Type) (enc:TypeId×Value→H):
    ReturnsInHanded {} Try.checked os 8 .any (Rows.gridlinkRotatesSpec.pre6 enc Try.prog Try.f8 Rows.gridlinkRotatesRow.domain false) (Rows.gridlinkRotatesSpec.post enc Try.prog Try.f8 false true false false):=by
  refine returnsInHanded_of_change (C:=Try.checked) own started (by kernel_rfl) Try.func8
    (ChangeSpec.witness6 (enc:=enc) (C:=Try.checked) false ⟨#[],#[.agg #[.slice none 0 0,.slice none 0 0]],[]⟩ 8 (by kernel_rfl) (by kernel_rfl) (by kernel_rfl) (by kernel_rfl)) ?_
  intro W base args ds gs before hval hW hcnd _
  exact contract H enc W base args ds gs before hval hW
end gridlinkRotates

theorem gridlinkRotates_holds:Rows.GridlinkRotatesSaid:=
  OpenClaim.holds_of_wide 8 Try.f8 rfl rfl rfl rfl rfl rfl rfl ⟨rfl,rfl,rfl,rfl,rfl⟩ rfl rfl rfl rfl rfl (by kernel_rfl) Try.func8 (by kernel_rfl)
    (of_decide_eq_true (by kernel_rfl)) (by unfold Func.isWrapper; first | (rw [if_pos (by decide+kernel)]; kernel_rfl) | (rw [if_neg (by decide+kernel)]; exact ⟨rfl,rfl⟩))
    (fun os started H enc _=>gridlinkRotates.lifted os started H enc)
end Go.Proofs.Yticemffhlapnnaa
