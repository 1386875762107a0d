import Derived.Test.YtpnppjlnfhlmpaaGreatCall
import Derived.ProofKit
import Derived.OpenShut
import Derived.JoinedCond
import Derived.DataShut
namespace Go.Proofs.YtpnppjlnfhlmpaaGreat
namespace Ev
open Go.ChangeShapes Go.WideShapes Go.ChangeAt Go.RowKit

mutual
inductive Fit (P:Program):Sh→TypeId→Prop
 | int {k:IntKind} {t:TypeId}:P.underlying t=some (.int k)→Fit P (.int k) t
 | bool {t:TypeId}:P.underlying t=some .bool→Fit P .bool t
 | sl {s:Sh} {t e:TypeId}:P.underlying t=some (.slice e)→P.cellsOf e=s.n→Fit P s e→Fit P (.sl s) t
 | st {s:Sh} {t:TypeId} {fs:Array Field}:P.underlying t=some (.struct fs)→P.cellsOf t=s.n→FitL P s fs.toList 0→Fit P s t
inductive FitL (P:Program):Sh→List Field→Nat→Prop
 | one {s:Sh} {f:Field} {o:Nat}:f.offset=o→P.cellsOf f.type=s.n→Fit P s f.type→FitL P s [f] o
 | cons {a b:Sh} {f:Field} {r:List Field} {o:Nat}:f.offset=o→P.cellsOf f.type=a.n→Fit P a f.type→FitL P b r (o+a.n)→FitL P (.pr a b) (f::r) o
end

theorem wf_wrapK {k:IntKind} {n:Int} (h:(Lit.int k n).wf=true):k.wrap n=n:=by
 cases k<;>simp [Lit.wf,IntKind.min,IntKind.max,IntKind.signed,IntKind.bits] at h<;>simp [IntKind.wrap,IntKind.signed,IntKind.bits]<;>omega

section
variable {H : Type} {enc : TypeId × Value → H} {P : Program} {w : World}

def Stays (enc:TypeId×Value→H) (P:Program) (w:World) (n:Nat) (t:TypeId) (cs:List Value) (d:DataW H) (ps:List MemPlace):Prop:=
 ∀w',Fr (fun _=>False) w w'→∀sp:Nat→Bool,(∀p∈ps,sp p.block=true)→DataW.trod enc P w' 0 sp true n t cs=some (d,ps)

theorem cells_get {a:Addr} {n:Nat} {cs:List Value} (h:w.cells? 0 a n=some cs):cs.length=n∧∀j u,cs[j]? =some u→w.cell? (a.add j)=some u:=by
 unfold World.cells? at h
 rw [if_pos (Nat.zero_le _)] at h
 have hl:=mapM_some_length h
 refine ⟨by simpa using hl,fun j u hu=>?_⟩
 have hj:j<n:=by have:=(List.getElem?_eq_some_iff.1 hu).1; rw [hl] at this; simpa using this
 have:=mapM_some_get h j j (by simp [hj])
 rw [this,hu]

theorem cells_stay {w':World} (hf:Fr (fun _=>False) w w') {a:Addr} {n:Nat} {cs:List Value} (h:w.cells? 0 a n=some cs):w'.cells? 0 a n=some cs:=by
 obtain ⟨hl,hc⟩:=cells_get h
 unfold World.cells?
 rw [if_pos (Nat.zero_le _)]
 refine mapM_some_of_get _ _ (by simp [hl]) fun i x hx=>?_
 have hi:i<n:=by have:=(List.getElem?_eq_some_iff.1 hx).1; simpa using this
 have hx':x=i:=by simp [hi] at hx; exact hx.symm
 subst hx'
 have hlt:x<cs.length:=by omega
 rw [List.getElem?_eq_getElem hlt]
 exact hf.cell (hc x _ (List.getElem?_eq_getElem hlt)) (fun h=>h)

theorem mem_row {a:Addr} {n:Nat} (h:0<n):MemPlace.cell a.block (a.off+0)∈MemPlace.row a n:=
 List.mem_map.2 ⟨0,by simpa using h,rfl⟩

theorem collect {α:Type} {p:Nat→α→Prop}: ∀(len:Nat),(∀i,i<len→∃x,p i x)→∃xs:List α,xs.length=len∧∀i x,xs[i]? =some x→p i x
 | 0,_=>⟨[],rfl,by simp⟩
 | m+1,hx=>by
  obtain ⟨xs,hl,hxs⟩:=collect m fun i hi=>hx i (by omega)
  obtain ⟨x,hxm⟩:=hx m (by omega)
  refine ⟨xs++[x],by simp [hl],fun i y hy=>?_⟩
  rcases Nat.lt_or_ge i m with hi | hi
  · rw [List.getElem?_append_left (by omega)] at hy; exact hxs i y hy
  ·
   rw [List.getElem?_append_right (by omega),hl] at hy
   have:i=m:=by have:=(List.getElem?_eq_some_iff.1 hy).1; simp at this; omega
   subst this
   simp at hy
   subst hy
   exact hxm

def Good (enc:TypeId×Value→H) (P:Program) (w:World) (n:Nat) (s:Sh) (t:TypeId):Prop:=
 ∀cs d ps,DataW.trod enc P w 0 (fun _=>true) true n t cs=some (d,ps)→(∃x:s.T,Rep [] w s cs x)∧Stays enc P w n t cs d ps

theorem fields {n:Nat} (ih: ∀s t,Fit P s t→Good enc P w n s t): ∀{s:Sh} {fs:List Field} {o:Nat},FitL P s fs o→∀{cs:List Value} {xs:List (DataW H×List MemPlace)},o+s.n≤cs.length→
  fs.mapM (fun f=>DataW.trod enc P w 0 (fun _=>true) true n f.type ((cs.drop f.offset).take (P.cellsOf f.type)))=some xs→
  (∃x:s.T,Rep [] w s ((cs.drop o).take s.n) x)∧∀w',Fr (fun _=>False) w w'→∀sp:Nat→Bool,(∀p∈xs.flatMap (·.2),sp p.block=true)→
   fs.mapM (fun f=>DataW.trod enc P w' 0 sp true n f.type ((cs.drop f.offset).take (P.cellsOf f.type)))=some xs
 | s,[f],_,.one ho hc hf,cs,xs,hl,h=>by
  rw [List.mapM_cons] at h
  simp only [List.mapM_nil,Option.pure_def,Option.bind_eq_bind,Option.bind_eq_some_iff,Option.bind_some] at h
  obtain ⟨⟨d,ps⟩,h1,h2⟩:=h
  injection h2 with h2
  subst h2
  obtain ⟨g1,g2⟩:=ih _ _ hf _ _ _ h1
  rw [ho,hc] at g1
  refine ⟨g1,fun w' hf' sp hsp=>?_⟩
  rw [List.mapM_cons,g2 w' hf' sp (fun p hp=>hsp p (by simpa using hp))]
  simp
 | .pr a b,f::r,o,.cons ho hc hf hr,cs,xs,hl,h=>by
  rw [List.mapM_cons] at h
  simp only [Option.pure_def,Option.bind_eq_bind,Option.bind_eq_some_iff] at h
  obtain ⟨⟨d,ps⟩,h1,ys,h2,h3⟩:=h
  injection h3 with h3
  subst h3
  have hl':o+(a.n+b.n)≤cs.length:=hl
  obtain ⟨⟨x,g1⟩,g2⟩:=ih _ _ hf _ _ _ h1
  obtain ⟨⟨y,k1⟩,k2⟩:=fields ih hr (by omega) h2
  rw [ho,hc] at g1
  refine ⟨⟨(x,y),_,_,?_,g1,k1⟩,fun w' hf' sp hsp=>?_⟩
  ·
   show List.take (a.n+b.n) (cs.drop o)=_
   rw [List.take_add,List.drop_drop]
  ·
   rw [List.mapM_cons,g2 w' hf' sp (fun p hp=>hsp p (by simp [hp])),k2 w' hf' sp (fun p hp=>hsp p (by
    rw [List.flatMap_cons]; exact List.mem_append_right _ hp))]
   rfl

theorem good: ∀(n:Nat) (s:Sh) (t:TypeId),Fit P s t→Good enc P w n s t
 | 0,_,_,_=>fun cs d ps h=>by simp [DataW.trod] at h
 | n+1,_,t,.int (k:=k) ht=>fun cs d ps h=>by
  obtain ⟨m,rfl,hx,hw⟩:=DataW.trod_int ht h
  injection hx with h1 h2
  subst h1 h2
  refine ⟨⟨m,rfl,wf_wrapK hw⟩,fun w' _ sp _=>?_⟩
  unfold DataW.trod
  rw [ht]
  simp [hw]
 | n+1,_,t,.bool ht=>fun cs d ps h=>by
  obtain ⟨b,rfl,hx⟩:=DataW.trod_bool ht h
  injection hx with h1 h2
  subst h1 h2
  refine ⟨⟨b,rfl⟩,fun w' _ sp _=>?_⟩
  unfold DataW.trod
  rw [ht]
 | n+1,_,t,.sl (s:=s) (e:=e) ht hc hf=>fun cs d ps h=>by
  rcases DataW.trod_slice ht h with ⟨rfl,hx⟩ | ⟨a,len,cap,elems,rest,m,hm,rfl,hx,_,hlc,hcm,hel,he,hr,_⟩
  ·
   injection hx with h1 h2
   subst h1 h2
   refine ⟨⟨[],none,0,rfl,Nat.le_refl _,by omega,fun h=>absurd h (by simp)⟩,fun w' _ sp _=>?_⟩
   unfold DataW.trod
   rw [ht]
   rfl
  ·
   injection hm with hm
   subst hm
   injection hx with h1 h2
   subst h1 h2
   obtain ⟨hrl,hr⟩:=hr rfl
   rw [hc] at he hr
   have one: ∀(k:Nat) (y:DataW H×List MemPlace),(w.cells? 0 (a.add (k*s.n)) s.n).bind (DataW.trod enc P w 0 (fun _=>true) true n e)=some y→
     (∃x:s.T,∃cs',(∀j u,cs'[j]? =some u→w.cell? (a.add (k*s.n+j))=some u)∧Rep [] w s cs' x)∧
     ∀w',Fr (fun _=>False) w w'→∀sp:Nat→Bool,(∀p∈y.2,sp p.block=true)→(w'.cells? 0 (a.add (k*s.n)) s.n).bind (DataW.trod enc P w' 0 sp true n e)=some y:=by
    intro k y hy
    obtain ⟨cs',h1,h2⟩:=Option.bind_eq_some_iff.1 hy
    obtain ⟨⟨x,g1⟩,g2⟩:=good n s e hf _ _ _ h2
    refine ⟨⟨x,cs',fun j u hu=>?_,g1⟩,fun w' hf' sp hsp=>?_⟩
    · rw [←add_add]; exact (cells_get h1).2 j u hu
    · rw [cells_stay hf' h1]; exact g2 w' hf' sp hsp
   have hlen: ∀i,i<len→∃y,elems[i]? =some y∧(w.cells? 0 (a.add (i*s.n)) s.n).bind (DataW.trod enc P w 0 (fun _=>true) true n e)=some y:=fun i hi=>by
    have h1:=he i hi
    rw [List.getElem?_eq_getElem (by omega:i<elems.length)] at h1
    exact ⟨_,List.getElem?_eq_getElem (by omega),h1⟩
   have hall: ∃xs:List s.T,xs.length=len∧∀i x,xs[i]? =some x→∃cs',(∀j u,cs'[j]? =some u→w.cell? (a.add (i*s.n+j))=some u)∧Rep [] w s cs' x:=by
    have hx: ∀i,i<len→∃x:s.T,∃cs',(∀j u,cs'[j]? =some u→w.cell? (a.add (i*s.n+j))=some u)∧Rep [] w s cs' x:=fun i hi=>by
     obtain ⟨y,_,hy⟩:=hlen i hi
     exact (one i y hy).1
    exact collect len hx
   obtain ⟨xs,hxl,hxs⟩:=hall
   refine ⟨⟨xs,some a,cap,by rw [hxl],by omega,hcm,fun _=>⟨a,rfl,by simp,hxs⟩⟩,fun w' hf' sp hsp=>?_⟩
   have hpart: ∀y∈elems++rest,∀p∈y.2,sp p.block=true:=fun y hy p hp=>hsp p (List.mem_append_right _ (List.mem_flatMap.2 ⟨y,hy,hp⟩))
   unfold DataW.trod
   rw [ht]
   simp only [Nat.zero_le,true_and,hc]
   rw [if_pos ⟨hlc,hcm⟩]
   have e1:(List.range len).mapM (fun i=>(w'.cells? 0 (a.add (i*s.n)) s.n).bind (DataW.trod enc P w' 0 sp true n e))=some elems:=by
    refine mapM_some_of_get _ _ (by simp [hel]) fun i x hx=>?_
    have hi:i<len:=by have:=(List.getElem?_eq_some_iff.1 hx).1; simpa using this
    have hx':x=i:=by simp [hi] at hx; exact hx.symm
    subst hx'
    obtain ⟨y,h1,h2⟩:=hlen x hi
    rw [h1]
    exact (one x y h2).2 w' hf' sp (hpart y (List.mem_append_left _ (List.mem_of_getElem? h1)))
   rw [e1]
   simp only [Option.bind_some]
   have e2:(if sp a.block=true then (List.range (cap-len)).mapM (fun j=>(w'.cells? 0 (a.add ((len+j)*s.n)) s.n).bind (DataW.trod enc P w' 0 sp true n e)) else some [])=some rest:=by
    by_cases h0:cap-len=0
    ·
     have:rest=[]:=List.eq_nil_of_length_eq_zero (by omega)
     subst this
     rw [h0]
     split<;>simp
    ·
     have hspa:sp a.block=true:=by
      have hp:0<(elems.length+rest.length)*P.cellsOf e:=Nat.mul_pos (by omega) (by rw [hc]; exact s.n_pos)
      exact hsp _ (List.mem_append_left _ (mem_row hp))
     rw [if_pos hspa]
     refine mapM_some_of_get _ _ (by simp [hrl]) fun i x hx=>?_
     have hi:i<cap-len:=by have:=(List.getElem?_eq_some_iff.1 hx).1; simpa using this
     have hx':x=i:=by simp [hi] at hx; exact hx.symm
     subst hx'
     have h1:=hr x hi
     rw [List.getElem?_eq_getElem (by omega:x<rest.length)] at h1
     rw [List.getElem?_eq_getElem (by omega:x<rest.length)]
     exact (one _ _ h1).2 w' hf' sp (hpart _ (List.mem_append_right _ (List.getElem_mem _)))
   rw [e2]
   simp
 | n+1,s,t,.st (fs:=fs) ht hc hf=>fun cs d ps h=>by
  unfold DataW.trod at h
  rw [ht] at h
  have key: ∀(w':World) (sp:Nat→Bool),DataW.trod enc P w' 0 sp true (n+1) t cs=if cs.length=P.cellsOf t then (fs.toList.mapM fun f=>DataW.trod enc P w' 0 sp true n f.type ((cs.drop f.offset).take (P.cellsOf f.type))).map (fun xs=>(.agg (xs.map (·.1)),xs.flatMap (·.2))) else none:=by
   intro w' sp
   conv=>lhs; unfold DataW.trod
   rw [ht]
  have h':(if cs.length=P.cellsOf t then (fs.toList.mapM fun f=>DataW.trod enc P w 0 (fun _=>true) true n f.type ((cs.drop f.offset).take (P.cellsOf f.type))).map (fun xs=>(DataW.agg (xs.map (·.1)),xs.flatMap (·.2))) else none)=some (d,ps):=h
  split at h'
  ·
   rename_i hl
   obtain ⟨xs,h1,h2⟩:=Option.map_eq_some_iff.1 h'
   injection h2 with h2 h3
   subst h2 h3
   obtain ⟨g1,g2⟩:=fields (good n) hf (by omega) h1
   refine ⟨?_,fun w' hf' sp hsp=>?_⟩
   ·
    obtain ⟨x,g1⟩:=g1
    refine ⟨x,?_⟩
    rwa [List.drop_zero,List.take_of_length_le (by omega)] at g1
   ·
    rw [key w' sp,if_pos hl,g2 w' hf' sp hsp]
    rfl
  · cases h'

theorem open_sh {s:Sh} {t:TypeId} {v:Value} {d:DataW H} {ps:List MemPlace} (hf:Fit P s t) (h:DataW.Trod enc P w 0 (fun _=>true) true t v d ps):
  (∃x:s.T,Rep [] w s v.cells.toList x)∧∀w',Fr (fun _=>False) w w'→∀sp:Nat→Bool,(∀p∈ps,sp p.block=true)→DataW.Trod enc P w' 0 sp true t v d ps:=by
 obtain ⟨n,h⟩:=h
 obtain ⟨h1,h2⟩:=good n s t hf _ _ _ h
 exact ⟨h1,fun w' hf' sp hsp=>⟨n,h2 w' hf' sp hsp⟩⟩

theorem Fr.keptBut {w':World} (h:Fr (fun _=>False) w w') (may:MemPlace→Prop):w.keptBut w' may:=by
 refine ⟨h.os,h.output,fun i hi=>?_⟩
 rw [h.block i hi (fun h=>h)]
 cases hb:w.heap[i]? with
 | none=>rfl
 | some o=>
  cases o<;>first | exact ⟨rfl,rfl,rfl,fun _ _=>rfl⟩ | exact .inr ⟨rfl,rfl⟩ | rfl

theorem i64_of {n:Int} (h:IntKind.i64.wrap n=n):I64 n:=by
 rw [IntKind.wrap_i64] at h; unfold I64; omega
def Sh.ok:(s:Sh)→s.T→Prop
 | .int k,x=>k.wrap x=x
 | .bool,_=>True
 | .sl s,xs=> ∀x∈xs,Sh.ok s x
 | .pr a b,x=>Sh.ok a x.1∧Sh.ok b x.2
 | .raw,_=>True
theorem Rep.ok {O:List Nat} {w:World}: ∀{s:Sh} {cs:List Value} {x:s.T},Rep O w s cs x→s.ok x
 | .int _,_,_,h=>h.2
 | .bool,_,_,_=>trivial
 | .sl s,_,xs,h=>by
  obtain ⟨A,c,_,_,_,h4⟩:=h
  intro x hx
  obtain ⟨i,hi⟩:=List.mem_iff_getElem?.1 hx
  obtain ⟨ad,_,_,hh⟩:=h4 (List.length_pos_of_mem hx)
  obtain ⟨cs',_,hr⟩:=hh i x hi
  exact Rep.ok hr
 | .pr _ _,_,_,h=>by
  obtain ⟨c1,c2,_,h1,h2⟩:=h
  exact ⟨Rep.ok h1,Rep.ok h2⟩
 | .raw,_,_,_=>trivial

theorem law_post {f:Func} {s:ChangeSpec} {fresh handsOn:Bool} {w':World} {args:Array Value} {ds gs:List (DataW H)} {before:List MemPlace} (hs:s.vars=[])
  (hW:DataW.Whole enc P f.params.toList s.vars false w args.toList ds gs before)
  (hres: ∀(b:Nat) (sp:Nat→Bool) (hd:Bool),DataW.TrodAll enc P w' b sp hd f.resultTypes.toList ((Value.bool true).resultList f.resultTypes.size) (s.fn H (ds++gs)).results [])
  (hargs: ∀sp:Nat→Bool,(∀p∈before,sp p.block=true)→DataW.TrodAll enc P w' 0 sp true f.params.toList args.toList (s.fn H (ds++gs)).args before)
  (hvars:(s.fn H (ds++gs)).vars=[]) (hf:Fr (fun _=>False) w w'):
  s.post enc P f false fresh handsOn false w args (.bool true) w':=by
 have hold: ∀p∈before,(fun b=>decide (b<w.heap.size)) p.block=true:=fun p hp=>by simpa using hW.lt p hp
 refine ⟨ds,gs,before,[],before,[],hW,hres _ _ _,hargs _ hold,?_,hf.keptBut _,fun h=>by cases h⟩
 rw [hs,hvars]
 exact rfl
