/- MarkovLinks: the law answers true for every braid and step. Conditions: none beyond those of the given statement. -/
import Derived.Test.YtkjpldmelafooaaRows
import Derived.Test.YtkjpldmelafooaaTrod
import Derived.Test.YtkjpldmelafooaaG15
import Derived.Test.YtkjpldmelafooaaPVlaw
namespace Go.Proofs.Ytkjpldmelafooaa
open Go.ChangeShapes Go.WideShapes Go.ChangeAt Go.RowKit Ev
set_option linter.all false
namespace markovLinks
theorem own:ownKnob Try.prog.godebug=none:=by kernel_rfl
set_option maxRecDepth 100000 in
theorem contract (H:Type) (enc:TypeId×Value→H) (W:World) (base:Nat) (args:Array Value) (ds gs:List (DataW H)) (before:List MemPlace)
    (hval: ∀(j:Nat) t v,Try.f10.params[j]? =some t→args[j]? =some v→Value.okWide Try.prog W .any base t v)
    (hW:DataW.Whole enc Try.prog Try.f10.params.toList Rows.markovLinksSpec.vars false W args.toList ds gs before):
    Calls Try.prog 10 args W fun e W'=> ∃v,e=.returned v∧Rows.markovLinksSpec.post enc Try.prog Try.f10 false true false false W args v W':=by
  have hW':=hW
  obtain ⟨p,q,hA0,hV,rfl,hfz,hnd⟩:=hW
  have hA:DataW.TrodAll enc Try.prog W 0 (fun _=>true) true Try.f10.params.toList args.toList ds p:=hA0
  rw [Try.params10] at hA hval
  obtain ⟨v0,vs0,d0,ds0,p0,q0,hargs0,rfl,rfl,h0,r0⟩:=trodAll_cons hA
  obtain ⟨v1,vs1,d1,ds1,p1,q1,rfl,rfl,rfl,h1,r1⟩:=trodAll_cons r0
  obtain ⟨v2,vs2,d2,ds2,p2,q2,rfl,rfl,rfl,h2,r2⟩:=trodAll_cons r1
  obtain ⟨rfl,rfl,rfl⟩:=trodAll_nil r2
  obtain rfl:args=#[v0,v1,v2]:=by cases args; simp_all
  obtain ⟨rfl,rfl⟩:=trodVars_none hV
  clear hA0 hargs0
  rw [show ((p0++(p1++(p2++[])))++[]:List MemPlace)=(p0++(p1++(p2++[]))) from List.append_nil _] at hW'
  obtain ⟨⟨x0,g0⟩,k0⟩:=open_sh (s:=(.int .i64)) (Fit.int Try.underlying3) h0
  have o0:=g0.ok
  obtain ⟨z0,rfl⟩:=okWide_int Try.underlying3 (hval 0 3 v0 rfl rfl)
  obtain rfl:z0=x0:=by have:=g0.1; simpa [Value.cells] using this
  obtain ⟨⟨x1,g1⟩,k1⟩:=open_sh (s:=(.sl (.int .i64))) (Fit.sl Try.underlying22 (by kernel_rfl) (Fit.int Try.underlying3)) h1
  have o1:=g1.ok
  obtain ⟨A1,m1,c1,rfl⟩:=okWide_slice Try.underlying22 (hval 1 22 v1 rfl rfl)
  have g1:Rep [] W (.sl (.int .i64)) [.slice A1 m1 c1] x1:=g1
  obtain ⟨⟨x2,g2⟩,k2⟩:=open_sh (s:=(.pr (.int .i64) (.pr (.int .i64) (.int .i64)))) (Fit.st Try.underlying24 (by kernel_rfl) (FitL.cons rfl (by kernel_rfl) (Fit.int Try.underlying3) (FitL.cons rfl (by kernel_rfl) (Fit.int Try.underlying3) (FitL.one rfl (by kernel_rfl) (Fit.int Try.underlying3))))) h2
  have o2:=g2.ok
  obtain ⟨cs2,rfl,_⟩:=okWide_struct Try.underlying24 (hval 2 24 v2 rfl rfl)
  obtain ⟨lg2a,lg2b,Eg2,g2a,g2b⟩:=g2
  obtain ⟨Elg2a,Hg2a⟩:=g2a
  subst Elg2a
  obtain ⟨lg2ba,lg2bb,Eg2b,g2ba,g2bb⟩:=g2b
  obtain ⟨Elg2ba,Hg2ba⟩:=g2ba
  subst Elg2ba
  obtain ⟨Elg2bb,Hg2bb⟩:=g2bb
  subst Elg2bb
  obtain rfl:cs2=#[.int .i64 x2.1,.int .i64 x2.2.1,.int .i64 x2.2.2]:=Array.ext' (by have:cs2.toList=_:=Eg2; rw [this,Eg2b]; rfl)
  obtain ⟨n,hb⟩:=law36_MarkovLinks_true z0 x1 x2 o0 o1 o2
  refine (law36_MarkovLinks_ok n (O0:=[]) (fun k hk=>absurd hk List.not_mem_nil) (i64_of g0.2) g1 (i64_of Hg2a) (i64_of Hg2ba) (i64_of Hg2bb) hb).mono fun e W' hh=>?_
  obtain ⟨v,he,hv,hC⟩:=hh
  subst hv
  exact ⟨_,he,law_post rfl hW' (fun _ _ _=>trodAll_cons_mk (shut_bool Try.underlying4 _) trodAll_mk0) (fun sp hsp=>by rw [Try.params10]; exact (trodAll_cons_mk (k0 W' hC.fr sp (fun p hp=>hsp p (by simp [hp]))) (trodAll_cons_mk (k1 W' hC.fr sp (fun p hp=>hsp p (by simp [hp]))) (trodAll_cons_mk (k2 W' hC.fr sp (fun p hp=>hsp p (by simp [hp]))) trodAll_mk0)))) rfl hC.fr⟩

set_option maxRecDepth 100000 in
theorem lifted (os:Os) (started:os.Started) (H:Type) (enc:TypeId×Value→H):
    ReturnsInHanded {} Try.checked os 10 .any (Rows.markovLinksSpec.pre6 enc Try.prog Try.f10 Rows.markovLinksRow.domain false) (Rows.markovLinksSpec.post enc Try.prog Try.f10 false true false false):=by
  refine returnsInHanded_of_change (C:=Try.checked) own started (by kernel_rfl) Try.func10
    (ChangeSpec.witness6 (enc:=enc) (C:=Try.checked) false ⟨#[],#[.int .i64 0,.slice none 0 0,.agg #[.int .i64 0,.int .i64 0,.int .i64 0]],[]⟩ 8 (by kernel_rfl) (by kernel_rfl) (by kernel_rfl) (by kernel_rfl)) ?_
  intro W base args ds gs before hval hW hcnd _
  exact contract H enc W base args ds gs before hval hW
end markovLinks

theorem markovLinks_holds:Rows.MarkovLinksSaid:=
  OpenClaim.holds_of_wide 10 Try.f10 rfl rfl rfl rfl rfl rfl rfl ⟨rfl,rfl,rfl,rfl,rfl⟩ rfl rfl rfl rfl rfl (by kernel_rfl) Try.func10 (by kernel_rfl)
    (of_decide_eq_true (by kernel_rfl)) (by unfold Func.isWrapper; first | (rw [if_pos (by decide+kernel)]; kernel_rfl) | (rw [if_neg (by decide+kernel)]; exact ⟨rfl,rfl⟩))
    (fun os started H enc _=>markovLinks.lifted os started H enc)
