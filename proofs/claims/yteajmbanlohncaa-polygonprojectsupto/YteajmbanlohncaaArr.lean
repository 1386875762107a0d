import Derived.Test.YteajmbanlohncaaMore
import Derived.ChangeKeysEq
set_option linter.unusedVariables false
namespace Go.Proofs.Yteajmbanlohncaa
namespace Ev
section
variable {P : Program} {ρ : Operand → Value} {d : Option Tmp} {ty : TypeId} {pos : String} {af : Array Edge} {gd : Option (Nat × Bool)} {x y : Operand}
variable {I : Nat → Prop} {O0 : List Nat} {w0 w : World} {L : List Fact}
/-! Arrays. -/
theorem pu_builda {ps:Array (Nat×Operand)} {pv:List (Nat×Value)} {cs:Array Value} {t1 e:TypeId} {k sz:Nat} {it ie:TypeInfo} {z:Value}
  (hi:P.info? t1=some it) (hu:P.underlying t1=some (.array k e)) (hz:it.zero=some z) (he:P.info? e=some ie) (hsz:ie.size=sz)
  (hv:ps.toList.map (fun p=>(p.1,ρ p.2))=pv) (h:Instr.fill (fun i=>some (i*sz,sz)) z.cells pv=some cs):Pu P ρ ⟨d,.build t1 ps,ty,pos,af,gd⟩ (.agg cs):=pu_build (by
 subst hsz
 simp only [Program.built,hi,hu,hz,he]
 subst hv
 simpa using h)
theorem pu_ix1 {t1 e:TypeId} {k:Nat} {a:Int} {cs:Array Value} {v:Value} (ht:P.underlying t1=some (.array k e)) (hs: ∀w,(sizeOf e).run P w=.ok 1 w) (hg: ∀w,(isAgg e).run P w=.ok false w) (hx:ρ x=.agg cs) (hy:ρ y=.int .i64 a) (h:0≤a∧a<(k:Int)) (hc:cs[a.toNat]? =some v):
  Pu P ρ ⟨d,.index t1 x y,ty,pos,af,gd⟩ v:=fun w=>by
 unfold Yv
 simp [execOp,hx,hy,Instr.index,asIntOf,run_underlying ht,hs,hg,h,part,hc]
theorem pu_ixn {t1 e:TypeId} {k sz:Nat} {a:Int} {cs:Array Value} (ht:P.underlying t1=some (.array k e)) (hs: ∀w,(sizeOf e).run P w=.ok sz w) (hg: ∀w,(isAgg e).run P w=.ok true w) (hx:ρ x=.agg cs) (hy:ρ y=.int .i64 a) (h:0≤a∧a<(k:Int)):
  Pu P ρ ⟨d,.index t1 x y,ty,pos,af,gd⟩ (.agg (cs.extract (a.toNat*sz) (a.toNat*sz+sz))):=fun w=>by
 unfold Yv
 simp [execOp,hx,hy,Instr.index,asIntOf,run_underlying ht,hs,hg,h,part]
theorem flat_drop {α β:Type} {enc:α→List β} {n:Nat}: ∀{l:List α} {i:Nat} {q:α},(∀x∈l,(enc x).length=n)→l[i]? =some q→((l.flatMap enc).drop (i*n)).take n=enc q
 | [],i,q,_,h=>by simp at h
 | b::l,0,q,hl,h=>by
  simp at h; subst h
  have hb:=hl b (by simp)
  rw [Nat.zero_mul,List.drop_zero,List.flatMap_cons,List.take_append_of_le_length (by omega),List.take_of_length_le (by omega)]
 | b::l,i+1,q,hl,h=>by
  have hb:=hl b (by simp)
  have ih:=flat_drop (l:=l) (i:=i) (q:=q) (fun x hx=>hl x (by simp [hx])) (by simpa using h)
  have e:(enc b++l.flatMap enc).drop n=l.flatMap enc:=by rw [←hb]; exact List.drop_left
  rw [List.flatMap_cons,Nat.succ_mul,Nat.add_comm,←List.drop_drop,e]
  exact ih
theorem flat_at {α:Type} {enc:α→List Value} {n:Nat} {l:List α} {i:Nat} {q:α} (hl: ∀x∈l,(enc x).length=n) (h:l[i]? =some q):(l.flatMap enc).toArray.extract (i*n) (i*n+n)=(enc q).toArray:=by
 rw [←flat_drop hl h,List.extract_toArray]
 congr 1
 rw [List.extract_eq_take_drop,Nat.add_sub_cancel_left]
theorem ld_part {e te:TypeId} {gb o n:Nat} {cs ds:List Value} {w:World} (hb:Blk w gb te cs) (hg: ∀w,(isAgg e).run P w=.ok true w) (hs: ∀w,(sizeOf e).run P w=.ok n w) (hd:(cs.drop o).take n=ds) (hl:ds.length=n) (hx:ρ x=.pointer (some ((⟨gb,0,none⟩:Addr).add o))):
  Yv P ρ ⟨d,.load e x,ty,pos,af,gd⟩ w (.agg ds.toArray):=ld_agg hg hs hx hl fun j u hu=>by
 have hj:j<n:=by have:=(List.getElem?_eq_some_iff.1 hu).1; omega
 rw [←hd,List.getElem?_take_of_lt hj,List.getElem?_drop] at hu
 have:=hb.cell hu
 rw [add_lit] at this
 rw [add_lit,add_lit,Nat.add_assoc]
 exact this
theorem sub_cells {A:Addr} {o n:Nat} {cs ds:List Value} {w:World} (hc: ∀j u,cs[j]? =some u→w.cell? (A.add j)=some u) (hd:(cs.drop o).take n=ds) (hl:ds.length=n): ∀j u,ds[j]? =some u→w.cell? ((A.add o).add j)=some u:=fun j u hu=>by
 have hj:j<n:=by have:=(List.getElem?_eq_some_iff.1 hu).1; omega
 rw [←hd,List.getElem?_take_of_lt hj,List.getElem?_drop] at hu
 rw [add_add]
 exact hc _ _ hu
theorem ixa_int {k:IntKind} {ds:List Int} {i:Nat} {q:Int} (h:ds[i]? =some q):((ds.map (Value.int k)).toArray)[i]? =some (.int k q):=by simp [h]
theorem all_get {α:Type} {p:α→Prop} {ds:List α} {i:Int} {q:α} (h: ∀x∈ds,p x) (hg:get ds i=some q):p q:=h q (List.mem_of_getElem? (get_some hg).2)
theorem eqI_nil {k:Nat} {e:TypeId} {c:Nat} {xs ys:Array Value} (w:World):(Op.eqItems (k+1) e c xs ys []).run P w=.ok true w:=by simp [Op.eqItems]
theorem eqI_cons {e:TypeId} {k j:Nat} {js:List Nat} {kd:IntKind} {xs ys:Array Value} {a b:Int} {q:Bool} (hu:P.underlying e=some (.int kd)) (ha: ∀w,(isAgg e).run P w=.ok false w)
  (hx:xs[j*1]? =some (.int kd a)) (hy:ys[j*1]? =some (.int kd b)) (h: ∀w,(Op.eqItems (k+1) e 1 xs ys js).run P w=.ok q w) (w:World):(Op.eqItems (k+1) e 1 xs ys (j::js)).run P w=.ok (decide (a=b)&&q) w:=by
 simp only [Op.eqItems,Sem.run_bind,part_one ha hx,part_one ha hy,Result.andThen_ok,run_equalIn_int w k e kd kd a b hu]
 by_cases e:a=b
 · simp [e,h]
 · simp [e]
theorem get_nn {α:Type} {xs:List α} {i:Int} {q:α} (h:get xs i=some q):0≤i:=by
 unfold get at h
 split at h
 · assumption
 · cases h
theorem pu_ixs {t1 e:TypeId} {k sz:Nat} {a:Int} {α:Type} {ds:List α} {enc:α→List Value} {q:α} {vs:Array Value} (ht:P.underlying t1=some (.array k e)) (hs: ∀w,(sizeOf e).run P w=.ok sz w) (hg: ∀w,(isAgg e).run P w=.ok true w) (hx:ρ x=.agg (ds.flatMap enc).toArray) (hy:ρ y=.int .i64 a) (h:0≤a∧a<(k:Int))
  (hl: ∀b∈ds,(enc b).length=sz) (hq:ds[a.toNat]? =some q) (hv:(enc q).toArray=vs):Pu P ρ ⟨d,.index t1 x y,ty,pos,af,gd⟩ (.agg vs):=by
 subst hv
 have:=pu_ixn (d:=d) (ty:=ty) (pos:=pos) (af:=af) (gd:=gd) ht hs hg hx hy h
 rwa [flat_at hl hq] at this
end
end Ev
end Go.Proofs.Yteajmbanlohncaa
