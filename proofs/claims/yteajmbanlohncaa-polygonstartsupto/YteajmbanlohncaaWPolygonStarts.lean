/- PolygonStarts: the law answers true for every list of polygons of the sizes that the given upto statement admits. Conditions: none beyond those of the given statement. -/
import Derived.JoinedCond
import Derived.Test.YteajmbanlohncaaRows
import Derived.Test.YteajmbanlohncaaTrod
import Derived.Test.YteajmbanlohncaaBulk
import Derived.Test.YteajmbanlohncaaG32
import Derived.Test.YteajmbanlohncaaPQroll
namespace Go.Proofs.Yteajmbanlohncaa
open Go.ChangeShapes Go.WideShapes Go.ChangeAt Go.RowKit Ev
set_option linter.unusedVariables false
namespace polygonStarts
theorem own:ownKnob Try.prog.godebug=none:=by kernel_rfl
theorem sumB {H:Type}: ∀l:List (DataW H),(l.map Rows.uptoBulk).sum=Rows.uptoBulkAll l
  | []=>by simp [Rows.uptoBulkAll]
  | x::r=>by simp [Rows.uptoBulkAll,sumB r]
theorem bulkOk (H:Type):BulkOk (Rows.uptoBulk:DataW H→Nat) where
  lit l:=by cases l<;>simp [Rows.uptoBulk]
  nil:=by simp [Rows.uptoBulk]
  sl es sp:=by rw [sumB]; simp only [Rows.uptoBulk]; omega
  agg ps:=by rw [sumB]; simp only [Rows.uptoBulk]; omega
set_option maxRecDepth 100000 in
theorem contract (H:Type) (enc:TypeId×Value→H) (W:World) (base:Nat) (args:Array Value) (ds gs:List (DataW H)) (before:List MemPlace)
    (hval: ∀(j:Nat) t v,Try.f10.params[j]? =some t→args[j]? =some v→Value.okWide Try.prog W .any base t v)
    (hW:DataW.Whole enc Try.prog Try.f10.params.toList Rows.polygonStartsSpec.vars false W args.toList ds gs before) (hk:Rows.uptoSmall H (ds++gs)=true):
    Calls Try.prog 10 args W fun e W'=> ∃v,e=.returned v∧Rows.polygonStartsSpec.post enc Try.prog Try.f10 false true false false W args v W':=by
  have hW':=hW
  obtain ⟨p,q,hA0,hV,rfl,hfz,hnd⟩:=hW
  have hA:DataW.TrodAll enc Try.prog W 0 (fun _=>true) true Try.f10.params.toList args.toList ds p:=hA0
  rw [Try.params10] at hA hval
  obtain ⟨v0,vs0,d0,ds0,p0,q0,hargs0,rfl,rfl,h0,r0⟩:=trodAll_cons hA
  obtain ⟨v1,vs1,d1,ds1,p1,q1,rfl,rfl,rfl,h1,r1⟩:=trodAll_cons r0
  obtain ⟨rfl,rfl,rfl⟩:=trodAll_nil r1
  obtain rfl:args=#[v0,v1]:=by cases args; simp_all
  obtain ⟨rfl,rfl⟩:=trodVars_none hV
  clear hA0 hargs0
  rw [show ((p0++(p1++[]))++[]:List MemPlace)=(p0++(p1++[])) from List.append_nil _] at hW'
  have hB:=of_decide_eq_true hk
  simp only [List.append_nil,Rows.uptoBulkAll] at hB
  clear hk
  obtain ⟨⟨x0,g0,cb0⟩,k0⟩:=open_shB (bulkOk H) (s:=(.sl (.sl (.pr (.int .i64) (.pr (.int .i64) (.int .i64)))))) (Fit.sl Try.underlying28 (by kernel_rfl) (Fit.sl Try.underlying43 (by kernel_rfl) (Fit.st Try.underlying23 (by kernel_rfl) (FitL.cons rfl (by kernel_rfl) (Fit.int Try.underlying3) (FitL.cons rfl (by kernel_rfl) (Fit.int Try.underlying3) (FitL.one rfl (by kernel_rfl) (Fit.int Try.underlying3))))))) h0
  replace cb0:Sh.bulk (.sl (.sl (.pr (.int .i64) (.pr (.int .i64) (.int .i64))))) x0≤1048576:=by omega
  have o0:=g0.ok
  obtain ⟨A0,m0,c0,rfl⟩:=okWide_slice Try.underlying28 (hval 0 28 v0 rfl rfl)
  have g0:Rep [] W (.sl (.sl (.pr (.int .i64) (.pr (.int .i64) (.int .i64))))) [.slice A0 m0 c0] x0:=g0
  obtain ⟨⟨x1,g1,cb1⟩,k1⟩:=open_shB (bulkOk H) (s:=(.int .u8)) (Fit.int Try.underlying5) h1
  replace cb1:Sh.bulk (.int .u8) x1≤1048576:=by omega
  have o1:=g1.ok
  obtain ⟨z1,rfl⟩:=okWide_int Try.underlying5 (hval 1 5 v1 rfl rfl)
  obtain rfl:z1=x1:=by have:=g1.1; simpa [Value.cells] using this
  obtain ⟨n,hb⟩:=law46_PolygonStarts_true x0 z1 o0 o1 cb0 cb1
  refine (law46_PolygonStarts_ok n (O0:=[]) (fun k hk=>absurd hk List.not_mem_nil) g0 g1.2 hb).mono fun e W' hh=>?_
  obtain ⟨v,he,hv,hC⟩:=hh
  subst hv
  exact ⟨_,he,law_post rfl hW' (fun _ _ _=>trodAll_cons_mk (shut_bool Try.underlying4 _) trodAll_mk0) (fun sp hsp=>by rw [Try.params10]; exact (trodAll_cons_mk (k0 W' hC.fr sp (fun p hp=>hsp p (by simp [hp]))) (trodAll_cons_mk (k1 W' hC.fr sp (fun p hp=>hsp p (by simp [hp]))) trodAll_mk0))) rfl hC.fr⟩

set_option maxRecDepth 100000 in
theorem lifted (os:Os) (started:os.Started) (H:Type) (enc:TypeId×Value→H) (F:Stop.Interp):
    ReturnsInHanded {} Try.checked os 10 .any ((Rows.OpenSpec.upto Rows.polygonStartsSpec).pre6 enc Try.prog Try.f10 Rows.polygonStartsUptoRow.domain false) (((Rows.OpenSpec.upto Rows.polygonStartsSpec).at F).post enc Try.prog Try.f10 false true false false):=by
  refine returnsInHanded_of_cond (C:=Try.checked) (s:=Rows.OpenSpec.upto Rows.polygonStartsSpec) (k:=Rows.uptoSmall) rfl own started (by kernel_rfl) Try.func10
    (OpenSpec.witness (enc:=enc) (C:=Try.checked) (s:=Rows.OpenSpec.upto Rows.polygonStartsSpec) (k:=Rows.uptoSmall) rfl false ⟨#[],#[.slice none 0 0,.int .u8 0],[]⟩ 8 (by kernel_rfl) (by kernel_rfl) (by kernel_rfl)
      (x:=([.nil,.lit (.int .u8 0)],[],[])) (by kernel_rfl) rfl (by kernel_rfl)) ?_
  intro W base args ds gs before hval hW _ hk _
  exact contract H enc W base args ds gs before hval hW hk
end polygonStarts

theorem polygonStarts_upto_holds:Rows.PolygonStartsUptoSaid:=
  OpenClaim.holds_of_cond 10 Try.f10 rfl rfl rfl rfl rfl rfl rfl ⟨rfl,rfl,rfl,rfl,rfl⟩ rfl rfl rfl rfl rfl (by kernel_rfl) Try.func10 (by kernel_rfl)
    (of_decide_eq_true (by kernel_rfl)) (by unfold Func.isWrapper; first | (rw [if_pos (by decide+kernel)]; kernel_rfl) | (rw [if_neg (by decide+kernel)]; exact ⟨rfl,rfl⟩))
    (fun os started H enc _ F=>polygonStarts.lifted os started H enc F)
end Go.Proofs.Yteajmbanlohncaa
