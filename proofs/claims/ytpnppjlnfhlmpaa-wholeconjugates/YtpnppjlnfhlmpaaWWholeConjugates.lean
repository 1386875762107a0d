/- WholeConjugates: the law answers true for every two braids. Conditions: none beyond those of the given statement. -/
import Derived.Test.YtpnppjlnfhlmpaaRows
import Derived.Test.YtpnppjlnfhlmpaaTrod
import Derived.Test.YtpnppjlnfhlmpaaG14
import Derived.Test.YtpnppjlnfhlmpaaPVconj
namespace Go.Proofs.Ytpnppjlnfhlmpaa
open Go.ChangeShapes Go.WideShapes Go.ChangeAt Go.RowKit Ev
set_option linter.all false
namespace wholeConjugates
theorem own:ownKnob Try.prog.godebug=none:=by kernel_rfl
set_option maxRecDepth 100000 in
theorem contract (H:Type) (enc:TypeId×Value→H) (W:World) (base:Nat) (args:Array Value) (ds gs:List (DataW H)) (before:List MemPlace)
    (hval: ∀(j:Nat) t v,Try.f3.params[j]? =some t→args[j]? =some v→Value.okWide Try.prog W .any base t v)
    (hW:DataW.Whole enc Try.prog Try.f3.params.toList Rows.wholeConjugatesSpec.vars false W args.toList ds gs before):
    Calls Try.prog 3 args W fun e W'=> ∃v,e=.returned v∧Rows.wholeConjugatesSpec.post enc Try.prog Try.f3 false true false false W args v W':=by
  have hW':=hW
  obtain ⟨p,q,hA0,hV,rfl,hfz,hnd⟩:=hW
  have hA:DataW.TrodAll enc Try.prog W 0 (fun _=>true) true Try.f3.params.toList args.toList ds p:=hA0
  rw [Try.params3] at hA hval
  obtain ⟨v0,vs0,d0,ds0,p0,q0,hargs0,rfl,rfl,h0,r0⟩:=trodAll_cons hA
  obtain ⟨v1,vs1,d1,ds1,p1,q1,rfl,rfl,rfl,h1,r1⟩:=trodAll_cons r0
  obtain ⟨rfl,rfl,rfl⟩:=trodAll_nil r1
  obtain rfl:args=#[v0,v1]:=by cases args; simp_all
  obtain ⟨rfl,rfl⟩:=trodVars_none hV
  clear hA0 hargs0
  rw [show ((p0++(p1++[]))++[]:List MemPlace)=(p0++(p1++[])) from List.append_nil _] at hW'
  obtain ⟨⟨x0,g0⟩,k0⟩:=open_sh (s:=(.pr (.int .i64) (.sl (.int .i64)))) (Fit.st Try.underlying24 (by kernel_rfl) (FitL.cons rfl (by kernel_rfl) (Fit.int Try.underlying3) (FitL.one rfl (by kernel_rfl) (Fit.sl Try.underlying22 (by kernel_rfl) (Fit.int Try.underlying3))))) h0
  have o0:=g0.ok
  obtain ⟨cs0,rfl,_⟩:=okWide_struct Try.underlying24 (hval 0 24 v0 rfl rfl)
  obtain ⟨lg0a,lg0b,Eg0,g0a,g0b⟩:=g0
  obtain ⟨Elg0a,Hg0a⟩:=g0a
  subst Elg0a
  have Tg0b:=g0b
  obtain ⟨Ag0b,cg0b,Elg0b,_⟩:=Tg0b
  subst Elg0b
  obtain rfl:cs0=#[.int .i64 x0.1,.slice Ag0b _ cg0b]:=Array.ext' (by have:cs0.toList=_:=Eg0; rw [this]; rfl)
  obtain ⟨⟨x1,g1⟩,k1⟩:=open_sh (s:=(.pr (.int .i64) (.sl (.int .i64)))) (Fit.st Try.underlying24 (by kernel_rfl) (FitL.cons rfl (by kernel_rfl) (Fit.int Try.underlying3) (FitL.one rfl (by kernel_rfl) (Fit.sl Try.underlying22 (by kernel_rfl) (Fit.int Try.underlying3))))) h1
  have o1:=g1.ok
  obtain ⟨cs1,rfl,_⟩:=okWide_struct Try.underlying24 (hval 1 24 v1 rfl rfl)
  obtain ⟨lg1a,lg1b,Eg1,g1a,g1b⟩:=g1
  obtain ⟨Elg1a,Hg1a⟩:=g1a
  subst Elg1a
  have Tg1b:=g1b
  obtain ⟨Ag1b,cg1b,Elg1b,_⟩:=Tg1b
  subst Elg1b
  obtain rfl:cs1=#[.int .i64 x1.1,.slice Ag1b _ cg1b]:=Array.ext' (by have:cs1.toList=_:=Eg1; rw [this]; rfl)
  obtain ⟨n,hb⟩:=qhx x0 x1 o0 o1
  refine (qhy n (O0:=[]) (fun k hk=>absurd hk List.not_mem_nil) (i64_of Hg0a) g0b (i64_of Hg1a) g1b hb).mono fun e W' hh=>?_
  obtain ⟨v,he,hv,hC⟩:=hh
  subst hv
  exact ⟨_,he,law_post rfl hW' (fun _ _ _=>trodAll_cons_mk (shut_bool Try.underlying4 _) trodAll_mk0) (fun sp hsp=>by rw [Try.params3]; exact (trodAll_cons_mk (k0 W' hC.fr sp (fun p hp=>hsp p (by simp [hp]))) (trodAll_cons_mk (k1 W' hC.fr sp (fun p hp=>hsp p (by simp [hp]))) trodAll_mk0))) rfl hC.fr⟩

set_option maxRecDepth 100000 in
theorem lifted (os:Os) (started:os.Started) (H:Type) (enc:TypeId×Value→H):
    ReturnsInHanded {} Try.checked os 3 .any (Rows.wholeConjugatesSpec.pre6 enc Try.prog Try.f3 Rows.wholeConjugatesRow.domain false) (Rows.wholeConjugatesSpec.post enc Try.prog Try.f3 false true false false):=by
  refine returnsInHanded_of_change (C:=Try.checked) own started (by kernel_rfl) Try.func3
    (ChangeSpec.witness6 (enc:=enc) (C:=Try.checked) false ⟨#[],#[.agg #[.int .i64 0,.slice none 0 0],.agg #[.int .i64 0,.slice none 0 0]],[]⟩ 8 (by kernel_rfl) (by kernel_rfl) (by kernel_rfl) (by kernel_rfl)) ?_
  intro W base args ds gs before hval hW hcnd _
  exact contract H enc W base args ds gs before hval hW
end wholeConjugates

theorem wholeConjugates_holds:Rows.WholeConjugatesSaid:=
  OpenClaim.holds_of_wide 3 Try.f3 rfl rfl rfl rfl rfl rfl rfl ⟨rfl,rfl,rfl,rfl,rfl⟩ rfl rfl rfl rfl rfl (by kernel_rfl) Try.func3 (by kernel_rfl)
    (of_decide_eq_true (by kernel_rfl)) (by unfold Func.isWrapper; first | (rw [if_pos (by decide+kernel)]; kernel_rfl) | (rw [if_neg (by decide+kernel)]; exact ⟨rfl,rfl⟩))
    (fun os started H enc _=>wholeConjugates.lifted os started H enc)
