/- ArtinHoms: the law answers true for every braid, number of points and list of cycles. Conditions: none beyond those of the given statement. -/
import Derived.Test.YtlkmcbgkohpmiaaRows
import Derived.Test.YtlkmcbgkohpmiaaTrod
import Derived.Test.YtlkmcbgkohpmiaaG14
import Derived.Test.YtlkmcbgkohpmiaaPHlaw
namespace Go.Proofs.Ytlkmcbgkohpmiaa
open Go.ChangeShapes Go.WideShapes Go.ChangeAt Go.RowKit Ev
set_option linter.all false
namespace artinHoms
theorem own:ownKnob Try.prog.godebug=none:=by kernel_rfl
set_option maxRecDepth 100000 in
theorem contract (H:Type) (enc:TypeId×Value→H) (W:World) (base:Nat) (args:Array Value) (ds gs:List (DataW H)) (before:List MemPlace)
    (hval: ∀(j:Nat) t v,Try.f8.params[j]? =some t→args[j]? =some v→Value.okWide Try.prog W .any base t v)
    (hW:DataW.Whole enc Try.prog Try.f8.params.toList Rows.artinHomsSpec.vars false W args.toList ds gs before):
    Calls Try.prog 8 args W fun e W'=> ∃v,e=.returned v∧Rows.artinHomsSpec.post enc Try.prog Try.f8 false true false false W args v W':=by
  have hW':=hW
  obtain ⟨p,q,hA0,hV,rfl,hfz,hnd⟩:=hW
  have hA:DataW.TrodAll enc Try.prog W 0 (fun _=>true) true Try.f8.params.toList args.toList ds p:=hA0
  rw [Try.params8] at hA hval
  obtain ⟨v0,vs0,d0,ds0,p0,q0,hargs0,rfl,rfl,h0,r0⟩:=trodAll_cons hA
  obtain ⟨v1,vs1,d1,ds1,p1,q1,rfl,rfl,rfl,h1,r1⟩:=trodAll_cons r0
  obtain ⟨v2,vs2,d2,ds2,p2,q2,rfl,rfl,rfl,h2,r2⟩:=trodAll_cons r1
  obtain ⟨rfl,rfl,rfl⟩:=trodAll_nil r2
  obtain rfl:args=#[v0,v1,v2]:=by cases args; simp_all
  obtain ⟨rfl,rfl⟩:=trodVars_none hV
  clear hA0 hargs0
  rw [show ((p0++(p1++(p2++[])))++[]:List MemPlace)=(p0++(p1++(p2++[]))) from List.append_nil _] at hW'
  obtain ⟨⟨x0,g0⟩,k0⟩:=open_sh (s:=(.pr (.int .i64) (.sl (.int .i64)))) (Fit.st Try.underlying24 (by kernel_rfl) (FitL.cons rfl (by kernel_rfl) (Fit.int Try.underlying3) (FitL.one rfl (by kernel_rfl) (Fit.sl Try.underlying22 (by kernel_rfl) (Fit.int Try.underlying3))))) h0
  have o0:=g0.ok
  obtain ⟨cs0,rfl,_⟩:=okWide_struct Try.underlying24 (hval 0 24 v0 rfl rfl)
  obtain ⟨lg0a,lg0b,Eg0,g0a,g0b⟩:=g0
  obtain ⟨Elg0a,Hg0a⟩:=g0a
  subst Elg0a
  have Tg0b:=g0b
  obtain ⟨Ag0b,cg0b,Elg0b,_⟩:=Tg0b
  subst Elg0b
  obtain rfl:cs0=#[.int .i64 x0.1,.slice Ag0b _ cg0b]:=Array.ext' (by have:cs0.toList=_:=Eg0; rw [this]; rfl)
  obtain ⟨⟨x1,g1⟩,k1⟩:=open_sh (s:=(.int .i64)) (Fit.int Try.underlying3) h1
  have o1:=g1.ok
  obtain ⟨z1,rfl⟩:=okWide_int Try.underlying3 (hval 1 3 v1 rfl rfl)
  obtain rfl:z1=x1:=by have:=g1.1; simpa [Value.cells] using this
  obtain ⟨⟨x2,g2⟩,k2⟩:=open_sh (s:=(.sl (.int .i64))) (Fit.sl Try.underlying22 (by kernel_rfl) (Fit.int Try.underlying3)) h2
  have o2:=g2.ok
  obtain ⟨A2,m2,c2,rfl⟩:=okWide_slice Try.underlying22 (hval 2 22 v2 rfl rfl)
  have g2:Rep [] W (.sl (.int .i64)) [.slice A2 m2 c2] x2:=g2
  obtain ⟨n,hb⟩:=law35_ArtinHoms_true x0 z1 x2 o0 o1 o2
  refine (law35_ArtinHoms_ok n (O0:=[]) (fun k hk=>absurd hk List.not_mem_nil) (i64_of Hg0a) g0b (i64_of g1.2) g2 hb).mono fun e W' hh=>?_
  obtain ⟨v,he,hv,hC⟩:=hh
  subst hv
  exact ⟨_,he,law_post rfl hW' (fun _ _ _=>trodAll_cons_mk (shut_bool Try.underlying4 _) trodAll_mk0) (fun sp hsp=>by rw [Try.params8]; exact (trodAll_cons_mk (k0 W' hC.fr sp (fun p hp=>hsp p (by simp [hp]))) (trodAll_cons_mk (k1 W' hC.fr sp (fun p hp=>hsp p (by simp [hp]))) (trodAll_cons_mk (k2 W' hC.fr sp (fun p hp=>hsp p (by simp [hp]))) trodAll_mk0)))) rfl hC.fr⟩

set_option maxRecDepth 100000 in
theorem lifted (os:Os) (started:os.Started) (H:Type) (enc:TypeId×Value→H):
    ReturnsInHanded {} Try.checked os 8 .any (Rows.artinHomsSpec.pre6 enc Try.prog Try.f8 Rows.artinHomsRow.domain false) (Rows.artinHomsSpec.post enc Try.prog Try.f8 false true false false):=by
  refine returnsInHanded_of_change (C:=Try.checked) own started (by kernel_rfl) Try.func8
    (ChangeSpec.witness6 (enc:=enc) (C:=Try.checked) false ⟨#[],#[.agg #[.int .i64 0,.slice none 0 0],.int .i64 0,.slice none 0 0],[]⟩ 8 (by kernel_rfl) (by kernel_rfl) (by kernel_rfl) (by kernel_rfl)) ?_
  intro W base args ds gs before hval hW hcnd _
  exact contract H enc W base args ds gs before hval hW
end artinHoms

theorem artinHoms_holds:Rows.ArtinHomsSaid:=
  OpenClaim.holds_of_wide 8 Try.f8 rfl rfl rfl rfl rfl rfl rfl ⟨rfl,rfl,rfl,rfl,rfl⟩ rfl rfl rfl rfl rfl (by kernel_rfl) Try.func8 (by kernel_rfl)
    (of_decide_eq_true (by kernel_rfl)) (by unfold Func.isWrapper; first | (rw [if_pos (by decide+kernel)]; kernel_rfl) | (rw [if_neg (by decide+kernel)]; exact ⟨rfl,rfl⟩))
    (fun os started H enc _=>artinHoms.lifted os started H enc)
