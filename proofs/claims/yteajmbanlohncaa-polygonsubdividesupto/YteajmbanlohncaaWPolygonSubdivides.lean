/- PolygonSubdivides: the law answers true for every list of polygons of the sizes that the given upto statement admits. Conditions: none beyond those of the given statement. -/
import Derived.JoinedCond
import Derived.Test.YteajmbanlohncaaRows
import Derived.Test.YteajmbanlohncaaTrod
import Derived.Test.YteajmbanlohncaaBulk
import Derived.Test.YteajmbanlohncaaG34
import Derived.Test.YteajmbanlohncaaPQsubl
namespace Go.Proofs.Yteajmbanlohncaa
open Go.ChangeShapes Go.WideShapes Go.ChangeAt Go.RowKit Ev
set_option linter.unusedVariables false
namespace polygonSubdivides
theorem own:ownKnob Try.prog.godebug=none:=by kernel_rfl
theorem sumB {H:Type}: ∀l:List (DataW H),(l.map Rows.uptoBulk).sum=Rows.uptoBulkAll l
  | []=>by simp [Rows.uptoBulkAll]
  | x::r=>by simp [Rows.uptoBulkAll,sumB r]
theorem bulkOk (H:Type):BulkOk (Rows.uptoBulk:DataW H→Nat) where
  lit l:=by cases l<;>simp [Rows.uptoBulk]
  nil:=by simp [Rows.uptoBulk]
  sl es sp:=by rw [sumB]; simp only [Rows.uptoBulk]; omega
  agg ps:=by rw [sumB]; simp only [Rows.uptoBulk]; omega
set_option maxRecDepth 100000 in
theorem contract (H:Type) (enc:TypeId×Value→H) (W:World) (base:Nat) (args:Array Value) (ds gs:List (DataW H)) (before:List MemPlace)
    (hval: ∀(j:Nat) t v,Try.f9.params[j]? =some t→args[j]? =some v→Value.okWide Try.prog W .any base t v)
    (hW:DataW.Whole enc Try.prog Try.f9.params.toList Rows.polygonSubdividesSpec.vars false W args.toList ds gs before) (hk:Rows.uptoSmall H (ds++gs)=true):
    Calls Try.prog 9 args W fun e W'=> ∃v,e=.returned v∧Rows.polygonSubdividesSpec.post enc Try.prog Try.f9 false true false false W args v W':=by
  have hW':=hW
  obtain ⟨p,q,hA0,hV,rfl,hfz,hnd⟩:=hW
  have hA:DataW.TrodAll enc Try.prog W 0 (fun _=>true) true Try.f9.params.toList args.toList ds p:=hA0
  rw [Try.params9] at hA hval
  obtain ⟨v0,vs0,d0,ds0,p0,q0,hargs0,rfl,rfl,h0,r0⟩:=trodAll_cons hA
  obtain ⟨v1,vs1,d1,ds1,p1,q1,rfl,rfl,rfl,h1,r1⟩:=trodAll_cons r0
  obtain ⟨v2,vs2,d2,ds2,p2,q2,rfl,rfl,rfl,h2,r2⟩:=trodAll_cons r1
  obtain ⟨rfl,rfl,rfl⟩:=trodAll_nil r2
  obtain rfl:args=#[v0,v1,v2]:=by cases args; simp_all
  obtain ⟨rfl,rfl⟩:=trodVars_none hV
  clear hA0 hargs0
  rw [show ((p0++(p1++(p2++[])))++[]:List MemPlace)=(p0++(p1++(p2++[]))) from List.append_nil _] at hW'
  have hB:=of_decide_eq_true hk
  simp only [List.append_nil,Rows.uptoBulkAll] at hB
  clear hk
  obtain ⟨⟨x0,g0,cb0⟩,k0⟩:=open_shB (bulkOk H) (s:=(.sl (.sl (.pr (.int .i64) (.pr (.int .i64) (.int .i64)))))) (Fit.sl Try.underlying28 (by kernel_rfl) (Fit.sl Try.underlying43 (by kernel_rfl) (Fit.st Try.underlying23 (by kernel_rfl) (FitL.cons rfl (by kernel_rfl) (Fit.int Try.underlying3) (FitL.cons rfl (by kernel_rfl) (Fit.int Try.underlying3) (FitL.one rfl (by kernel_rfl) (Fit.int Try.underlying3))))))) h0
  replace cb0:Sh.bulk (.sl (.sl (.pr (.int .i64) (.pr (.int .i64) (.int .i64))))) x0≤1048576:=by omega
  have o0:=g0.ok
  obtain ⟨A0,m0,c0,rfl⟩:=okWide_slice Try.underlying28 (hval 0 28 v0 rfl rfl)
  have g0:Rep [] W (.sl (.sl (.pr (.int .i64) (.pr (.int .i64) (.int .i64))))) [.slice A0 m0 c0] x0:=g0
  obtain ⟨⟨x1,g1,cb1⟩,k1⟩:=open_shB (bulkOk H) (s:=(.int .i64)) (Fit.int Try.underlying3) h1
  replace cb1:Sh.bulk (.int .i64) x1≤1048576:=by omega
  have o1:=g1.ok
  obtain ⟨z1,rfl⟩:=okWide_int Try.underlying3 (hval 1 3 v1 rfl rfl)
  obtain rfl:z1=x1:=by have:=g1.1; simpa [Value.cells] using this
  obtain ⟨⟨x2,g2,cb2⟩,k2⟩:=open_shB (bulkOk H) (s:=(.int .i64)) (Fit.int Try.underlying3) h2
  replace cb2:Sh.bulk (.int .i64) x2≤1048576:=by omega
  have o2:=g2.ok
  obtain ⟨z2,rfl⟩:=okWide_int Try.underlying3 (hval 2 3 v2 rfl rfl)
  obtain rfl:z2=x2:=by have:=g2.1; simpa [Value.cells] using this
  obtain ⟨n,hb⟩:=law46_PolygonSubdivides_true x0 z1 z2 o0 o1 o2 cb0 cb1 cb2
  refine (law46_PolygonSubdivides_ok n (O0:=[]) (fun k hk=>absurd hk List.not_mem_nil) g0 (i64_of g1.2) (i64_of g2.2) hb).mono fun e W' hh=>?_
  obtain ⟨v,he,hv,hC⟩:=hh
  subst hv
  exact ⟨_,he,law_post rfl hW' (fun _ _ _=>trodAll_cons_mk (shut_bool Try.underlying4 _) trodAll_mk0) (fun sp hsp=>by rw [Try.params9]; exact (trodAll_cons_mk (k0 W' hC.fr sp (fun p hp=>hsp p (by simp [hp]))) (trodAll_cons_mk (k1 W' hC.fr sp (fun p hp=>hsp p (by simp [hp]))) (trodAll_cons_mk (k2 W' hC.fr sp (fun p hp=>hsp p (by simp [hp]))) trodAll_mk0)))) rfl hC.fr⟩

set_option maxRecDepth 100000 in
theorem lifted (os:Os) (started:os.Started) (H:Type) (enc:TypeId×Value→H) (F:Stop.Interp):
    ReturnsInHanded {} Try.checked os 9 .any ((Rows.OpenSpec.upto Rows.polygonSubdividesSpec).pre6 enc Try.prog Try.f9 Rows.polygonSubdividesUptoRow.domain false) (((Rows.OpenSpec.upto Rows.polygonSubdividesSpec).at F).post enc Try.prog Try.f9 false true false false):=by
  refine returnsInHanded_of_cond (C:=Try.checked) (s:=Rows.OpenSpec.upto Rows.polygonSubdividesSpec) (k:=Rows.uptoSmall) rfl own started (by kernel_rfl) Try.func9
    (OpenSpec.witness (enc:=enc) (C:=Try.checked) (s:=Rows.OpenSpec.upto Rows.polygonSubdividesSpec) (k:=Rows.uptoSmall) rfl false ⟨#[],#[.slice none 0 0,.int .i64 0,.int .i64 0],[]⟩ 8 (by kernel_rfl) (by kernel_rfl) (by kernel_rfl)
      (x:=([.nil,.lit (.int .i64 0),.lit (.int .i64 0)],[],[])) (by kernel_rfl) rfl (by kernel_rfl)) ?_
  intro W base args ds gs before hval hW _ hk _
  exact contract H enc W base args ds gs before hval hW hk
end polygonSubdivides

theorem polygonSubdivides_upto_holds:Rows.PolygonSubdividesUptoSaid:=
  OpenClaim.holds_of_cond 9 Try.f9 rfl rfl rfl rfl rfl rfl rfl ⟨rfl,rfl,rfl,rfl,rfl⟩ rfl rfl rfl rfl rfl (by kernel_rfl) Try.func9 (by kernel_rfl)
    (of_decide_eq_true (by kernel_rfl)) (by unfold Func.isWrapper; first | (rw [if_pos (by decide+kernel)]; kernel_rfl) | (rw [if_neg (by decide+kernel)]; exact ⟨rfl,rfl⟩))
    (fun os started H enc _ F=>polygonSubdivides.lifted os started H enc F)
end Go.Proofs.Yteajmbanlohncaa
