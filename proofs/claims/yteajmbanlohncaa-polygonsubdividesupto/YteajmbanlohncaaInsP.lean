import Derived.Test.YteajmbanlohncaaIns
import Derived.Lib.AppendZerosOnto
import Derived.Lib.Overlaps
import Derived.Laws.IdiomCopy
set_option linter.unusedVariables false
namespace Go.Proofs.Yteajmbanlohncaa
namespace Ev
open Go.RowKit Go.Shelf Go.Sort
def insG {α:Type} (s:List α) (i:Int) (v:List α):Option (List α):=if 0≤i∧i≤s.length∧0<v.length∧s.length+v.length≤1099511627776 then some (s.take i.toNat++v++s.drop i.toNat) else none
section
variable {P : Program} {w : World} {tS e : TypeId} {sz : Nat}
theorem run_copy_sz (w:World) (dT sT ty elem:TypeId) (b o dLen dCap:Nat) (a:Addr) (sLen sCap k:Nat) (cs:List Value)
  (hu:P.underlying dT=some (.slice elem)) (hs:(P.info? elem).map (·.size)=some sz) (hk:Nat.min sLen dLen=k) (hn:cs.length=k*sz)
  (hsrc: ∀j v,cs[j]? =some v→w.cell? (a.add j)=some v) (hc: ∀j,j<cs.length→(w.cell? ⟨b,o+j,none⟩).isSome=true) (hf: ∀j,j<cs.length→w.frozen? ⟨b,o+j,none⟩=false) (h1: ∀v∈cs,v.oneCell'=true):
  (Builtin.copy_ #[dT,sT] ty #[.slice (some ⟨b,o,none⟩) dLen dCap,.slice (some a) sLen sCap]).run P w=.ok (goInt k) (w.setCells b o cs):=by
 have hl:=run_loadCells_list (P:=P) w a cs hsrc
 have hst:=run_storeCells_cells (P:=P) b o cs 0 w (by simpa using hc) (by simpa using hf) h1
 cases hq:P.info? elem with
 | none=>simp [hq] at hs
 | some i=>
  have hi:i.size=sz:=by simpa [hq] using hs
  simp [Builtin.copy_,run_underlying hu,Builtin.lenOf,Builtin.firstCells,sizeOf,typeInfo,hq,hi,hk,←hn,hl,hst]
theorem op_copy {ρ:Operand→Value} {d:Option Tmp} {pos:String} {af:Array Edge} {g:Option (Nat×Bool)} {x y:Operand} {t t2 ty:TypeId} {v u v':Value} {w w':World} (hx:ρ x=v) (hy:ρ y=u)
  (h:(Builtin.copy_ #[t,t2] ty #[v,u]).run P w=.ok v' w'):(execOp ρ ⟨d,.call { callee:=.builtin .copy,args:=#[x,y],argTypes:=#[t,t2] },ty,pos,af,g⟩).run P w=.ok (.value v') w':=by
 simp [execOp,resolve,invoke,builtin,hx,hy,h]
theorem Elems.take {O:List Nat} {s:Sh} {cs:List Value} {xs:List s.T} (h:Elems O w s cs xs) {i:Nat} (hi:i≤xs.length):Elems O w s (cs.take (i*s.n)) (xs.take i):=by
 have hle:i*s.n≤xs.length*s.n:=Nat.mul_le_mul_right _ hi
 refine ⟨by rw [List.length_take,List.length_take,h.1,Nat.min_eq_left hle,Nat.min_eq_left hi],fun j x hj=>?_⟩
 have hji:j<i:=by
  have:=(List.getElem?_eq_some_iff.1 hj).1
  rw [List.length_take] at this; omega
 rw [List.getElem?_take_of_lt hji] at hj
 have h1:=h.2 j x hj
 have hjn:j*s.n+s.n≤i*s.n:=by rw [←Nat.succ_mul]; exact Nat.mul_le_mul_right _ hji
 rw [List.drop_take,List.take_take,Nat.min_eq_left (by omega)]
 exact h1
theorem Elems.drop {O:List Nat} {s:Sh} {cs:List Value} {xs:List s.T} (h:Elems O w s cs xs) (i:Nat):Elems O w s (cs.drop (i*s.n)) (xs.drop i):=by
 refine ⟨by rw [List.length_drop,List.length_drop,h.1,Nat.sub_mul],fun j x hj=>?_⟩
 rw [List.getElem?_drop] at hj
 have:=h.2 _ x hj
 rw [List.drop_drop,←Nat.add_mul]
 exact this
theorem cells_eq {cur:Array Value} {o k:Nat} {cs:List Value} (hl:cs.length=k) (hx: ∀j,j<k→cur[o+j]? =cs[j]?):(cur.toList.drop o).take k=cs:=by
 apply List.ext_getElem?
 intro j
 rcases Nat.lt_or_ge j k with hj | hj
 · rw [List.getElem?_take_of_lt hj,List.getElem?_drop,←hx j hj]; simp
 · rw [List.getElem?_eq_none (by rw [List.length_take]; omega),List.getElem?_eq_none (by omega)]
theorem ins_cells {cs vs:List Value} {a b j:Nat} (hv:vs.length=b) (ha:a≤cs.length):(cs.take a++vs++cs.drop a)[j]? =if j<a then cs[j]? else if j<a+b then vs[j-a]? else cs[j-b]? :=ins_get hv ha
end
section
variable {P : Program} {w : World} {tS tI e : TypeId} {ti : TypeInfo} {z : Value} {s : Sh} (ht : P.underlying tS = some (.slice e)) (htI : P.underlying tI = some (.int .i64)) (hti : P.info? e = some ti) (hz : ti.zero = some z) (hzs : z.cells.size = s.n) (hsz : ti.size = s.n) (hby : ti.bytes ≤ 64)
include ht hti hsz
include htI hz hzs hby in
theorem insP_grow {O O':List Nat} {g o cx vb voff cv i:Nat} {xs ys:List s.T} {G G':Option Nat} (hs:Own O w e s (.slice (some ⟨g,o,none⟩) xs.length cx) xs G) (hv:Own O w e s (.slice (some ⟨vb,voff,none⟩) ys.length cv) ys G') (hi:i<xs.length) (hm:0<ys.length) (hroom:cx<xs.length+ys.length) (hlen:xs.length+ys.length≤1099511627776) (hO: ∀k∈O',k∈O∨w.heap.size≤k):
  ∃cap w1 w2 w4,(∀ty,(Builtin.append_ #[tS,tI] ty #[.slice (some ⟨g,o,none⟩) i cx,.int .i64 ((xs.length:Int)+(ys.length:Int)-(i:Int))]).run P w=.ok (.slice (some ⟨w.heap.size,0,none⟩) (xs.length+ys.length) cap) w1)∧xs.length+ys.length≤cap∧cap≤9223372036854775807∧
   (∀ty dc,(Builtin.copy_ #[tS,tS] ty #[.slice (some ⟨w.heap.size,i*s.n,none⟩) (xs.length+ys.length-i) dc,.slice (some ⟨vb,voff,none⟩) ys.length cv]).run P w1=.ok (goInt ys.length) w2)∧
   (∀ty dc sc,(Builtin.copy_ #[tS,tS] ty #[.slice (some ⟨w.heap.size,(i+ys.length)*s.n,none⟩) (xs.length+ys.length-(i+ys.length)) dc,.slice (some ⟨g,o+i*s.n,none⟩) (xs.length-i) sc]).run P w2.drew=.ok (goInt (xs.length-i:Nat)) w4)∧
   Fr (fun _=>False) w w4∧Own O' w4 e s (.slice (some ⟨w.heap.size,0,none⟩) (xs.length+ys.length) cap) (xs.take i++ys++xs.drop i) (some w.heap.size):=by
 obtain ⟨cs,hs1,hs2⟩:=hs
 obtain ⟨vs,hv1,hv2⟩:=hv
 rcases hs1.2 with ⟨h0,_,_⟩ | ⟨g',o',cap',cur,e1,hG,hg,hnc,hcm,hsize,hcs⟩
 · cases h0
 injection e1 with e1 _ e3
 injection e1 with e1
 injection e1 with e1 e2 _
 subst e1 e2 e3
 rcases hv1.2 with ⟨h0,_,_⟩ | ⟨g',o',cap',vcur,e1,hG',hvg,hvc,hvm,hvsize,hvs⟩
 · cases h0
 injection e1 with e1 _ e3
 injection e1 with e1
 injection e1 with e1 e2 _
 subst e1 e2 e3
 have hn:=s.n_pos
 have hcl:cs.length=xs.length*s.n:=hs1.1
 have hvl:vs.length=ys.length*s.n:=hv1.1
 have h1c:=hs2.one
 have h1v:=hv2.one
 have hcell: ∀j u,cs[j]? =some u→w.cell? ⟨g,o+j,none⟩=some u:=fun j u hu=>by
  have:=hs1.cell rfl hu
  rwa [add_lit] at this
 have hvcell: ∀j u,vs[j]? =some u→w.cell? ⟨vb,voff+j,none⟩=some u:=fun j u hu=>by
  have:=hv1.cell rfl hu
  rwa [add_lit] at this
 have hin:i*s.n≤xs.length*s.n:=Nat.mul_le_mul_right _ (by omega)
 have hgw:g<w.heap.size:=(Array.getElem?_eq_some_iff.1 hg).1
 have hvw:vb<w.heap.size:=(Array.getElem?_eq_some_iff.1 hvg).1
 have hinfo:(P.info? e).map (·.size)=some s.n:=by rw [hti]; simp [hsz]
 have hold:(Builtin.firstCells ti.size i (.slice (some ⟨g,o,none⟩) i cx)).run P w.drew=.ok (cs.take (i*s.n)).toArray w.drew:=by
  refine run_firstCells_some w.drew ti.size i ⟨g,o,none⟩ i cx _ (by rw [List.length_take,hcl,hsz]; omega) fun j u hu=>?_
  rw [List.getElem?_take] at hu
  split at hu
  · rw [add_lit]; exact hcell j u hu
  · cases hu
 have hfit:=growslice_fits (need:=xs.length+ys.length) (old:=cx) (bytes:=ti.bytes) (by omega) (by
  have:(xs.length+ys.length)*ti.bytes≤(xs.length+ys.length)*64:=Nat.mul_le_mul_left _ hby
  omega)
 have hik:i+(xs.length+ys.length-i)=xs.length+ys.length:=by omega
 have hk0:(xs.length:Int)+(ys.length:Int)-(i:Int)=((xs.length+ys.length-i:Nat):Int):=by omega
 have hap:=fun ty=>Lib.run_append_grow_zeros (P:=P) w tS tI ty e ti z .i64 .i64 ht htI hti hz (some ⟨g,o,none⟩) i cx (cs.take (i*s.n)) hold (xs.length+ys.length-i) (by omega) (by rw [hsz]; exact hn) (by omega) (by omega) (by
  have:(xs.length+ys.length-i)*ti.bytes≤(xs.length+ys.length-i)*64:=Nat.mul_le_mul_left _ hby
  omega) (by rw [hik]; exact hfit)
 rw [hik] at hap
 rw [←hk0] at hap
 have hc1:=grownCap_ge w (xs.length+ys.length) cx e
 have hc2:=grownCap_le_maxLen w (xs.length+ys.length) cx e (by simp only [maxLen]; omega)
 simp only [maxLen] at hc2
 generalize grownCap w (xs.length+ys.length) cx e=cap at*
 generalize hROW:(cs.take (i*s.n)).toArray++Builtin.zeroCells z.cells (xs.length+ys.length-i)++Builtin.zeroCells z.cells (cap-(xs.length+ys.length))=ROW at*
 have hRl:ROW.size=cap*s.n:=by
  rw [←hROW]
  simp only [Array.size_append,List.size_toArray,List.length_take,size_zeroCells,hzs,hcl]
  rw [Nat.min_eq_left hin,←Nat.add_mul,←Nat.add_mul]
  congr 1; omega
 have hRi: ∀j,j<i*s.n→ROW[j]? =cs[j]? :=fun j hj=>by
  rw [←hROW,Array.append_assoc,Array.getElem?_append_left (by rw [List.size_toArray,List.length_take,hcl]; omega),List.getElem?_toArray,List.getElem?_take_of_lt hj]
 have hw1h:(w.drew.alloc (.cells ROW e)).heap[w.heap.size]? =some (.cells ROW e (0,0)):=Go.heap_alloc_new w.drew _
 obtain ⟨c2,k1,k2,k3⟩:=setCells_row (g:=w.heap.size) (e:=e) vs (i*s.n) (w.drew.alloc (.cells ROW e)) ROW hw1h
 have hw2h:((w.drew.alloc (.cells ROW e)).setCells w.heap.size (i*s.n) vs).drew.heap[w.heap.size]? =some (.cells c2 e (0,0)):=k1
 obtain ⟨c3,k4,k5,k6⟩:=setCells_row (g:=w.heap.size) (e:=e) (cs.drop (i*s.n)) ((i+ys.length)*s.n) _ c2 hw2h
 have hnm:(xs.length+ys.length)*s.n≤cap*s.n:=Nat.mul_le_mul_right _ hc1
 rw [Nat.add_mul] at hnm
 have him:(i+ys.length)*s.n=i*s.n+ys.length*s.n:=Nat.add_mul _ _ _
 have hf1:Fr (fun _=>False) w (w.drew.alloc (.cells ROW e)):=(Fr.drew w _).trans (Fr.alloc w.drew _ _)
 have hf2:Fr (fun _=>False) w ((w.drew.alloc (.cells ROW e)).setCells w.heap.size (i*s.n) vs):=hf1.trans' (Fr.setCells (S:=fun k=>k=w.heap.size) vs (i*s.n) _ (.inl rfl)) (fun k hk h=>by omega)
 have hf3:Fr (fun _=>False) w (((w.drew.alloc (.cells ROW e)).setCells w.heap.size (i*s.n) vs).drew.setCells w.heap.size ((i+ys.length)*s.n) (cs.drop (i*s.n))):=(hf2.trans (Fr.drew _ _)).trans' (Fr.setCells (S:=fun k=>k=w.heap.size) _ _ _ (.inl rfl)) (fun k hk h=>by omega)
 have hdl:(cs.drop (i*s.n)).length=(xs.length-i)*s.n:=by rw [List.length_drop,hcl,Nat.sub_mul]
 have hsub:(xs.length-i)*s.n=xs.length*s.n-i*s.n:=Nat.sub_mul _ _ _
 refine ⟨cap,_,(w.drew.alloc (.cells ROW e)).setCells w.heap.size (i*s.n) vs,((w.drew.alloc (.cells ROW e)).setCells w.heap.size (i*s.n) vs).drew.setCells w.heap.size ((i+ys.length)*s.n) (cs.drop (i*s.n)),hap,hc1,hc2,fun ty dc=>?_,fun ty dc sc=>?_,hf3,?_⟩
 ·
  refine run_copy_sz (sz:=s.n) _ tS tS ty e _ _ _ _ _ _ _ _ vs ht hinfo (by simp only [Nat.min_def]; split<;>omega) hvl (fun j u hu=>?_) (fun j hj=>?_) (fun j hj=>frozen_of_row hw1h) h1v
  · rw [add_lit]; exact hf1.cell (hvcell j u hu) (fun h=>h)
  · rw [cell_of_row hw1h,Array.getElem?_eq_getElem (by rw [hRl]; omega)]; rfl
 ·
  refine run_copy_sz (sz:=s.n) _ tS tS ty e _ _ _ _ _ _ _ _ (cs.drop (i*s.n)) ht hinfo (by simp only [Nat.min_def]; split<;>omega) hdl (fun j u hu=>?_) (fun j hj=>?_) (fun j hj=>frozen_of_row hw2h) (fun u hu=>h1c u (List.mem_of_mem_drop hu))
  ·
   rw [List.getElem?_drop] at hu
   rw [add_lit,Nat.add_assoc]
   exact (hf2.trans (Fr.drew _ _)).cell (hcell _ u hu) (fun h=>h)
  · rw [cell_of_row hw2h,Array.getElem?_eq_getElem (by rw [k2,hRl]; omega)]; rfl
 ·
  have hel:=((hs2.take (Nat.le_of_lt hi)).append hv2).append (hs2.drop i)
  have hrl:(xs.take i++ys++xs.drop i).length=xs.length+ys.length:=by simp; omega
  refine ⟨cs.take (i*s.n)++vs++cs.drop (i*s.n),⟨?_,.inr ⟨w.heap.size,0,cap,c3,by rw [hrl],rfl,k4,by omega,hc2,by omega,?_⟩⟩,hel.step hf3 (fun _ h=>h.elim) hO⟩
  · rw [hel.1]
  ·
   rw [hrl]
   refine cells_eq (by simp only [List.length_append,List.length_take,List.length_drop,hcl,hvl,Nat.add_mul]; omega) fun j hj=>?_
   rw [Nat.add_mul] at hj
   rw [Nat.zero_add,ins_cells hvl (by omega),k6 j (by omega),k3 j (by omega),hdl,him]
   by_cases j1:j<i*s.n
   · rw [if_neg (by omega),if_neg (by omega),if_pos j1,hRi j j1]
   ·
    rw [if_neg j1]
    by_cases j2:j<i*s.n+ys.length*s.n
    · rw [if_neg (by omega),if_pos (by omega),if_pos j2]
    ·
     rw [if_pos (by omega),if_neg j2,List.getElem?_drop]
     congr 1; omega
theorem insP_room {O O':List Nat} {g o cx vb voff cv i:Nat} {xs ys:List s.T} {G G':Option Nat} (hs:Own O w e s (.slice (some ⟨g,o,none⟩) xs.length cx) xs G) (hv:Own O w e s (.slice (some ⟨vb,voff,none⟩) ys.length cv) ys G') (hne:vb≠g) (hgO:g∈O) (hi:i<xs.length) (hm:0<ys.length) (hroom:xs.length+ys.length≤cx) (hO: ∀k∈O',k∈O∨w.heap.size≤k):
  ∃w2 w3,(∃tA kA tB kB,w.shape? vb=some (tA,kA)∧w.shape? g=some (tB,kB)∧kB≠0∧w.frozen? ⟨vb,voff,none⟩=false∧w.frozen? ⟨vb,kA,none⟩=false)∧
   (∀ty dc sc,(Builtin.copy_ #[tS,tS] ty #[.slice (some ⟨g,o+(i+ys.length)*s.n,none⟩) (xs.length+ys.length-(i+ys.length)) dc,.slice (some ⟨g,o+i*s.n,none⟩) (xs.length+ys.length-i) sc]).run P w.drew=.ok (goInt (xs.length-i:Nat)) w2)∧
   (∀ty dc,(Builtin.copy_ #[tS,tS] ty #[.slice (some ⟨g,o+i*s.n,none⟩) (xs.length+ys.length-i) dc,.slice (some ⟨vb,voff,none⟩) ys.length cv]).run P w2=.ok (goInt ys.length) w3)∧
   Fr (fun k=>k=g) w w3∧Own O' w3 e s (.slice (some ⟨g,o,none⟩) (xs.length+ys.length) cx) (xs.take i++ys++xs.drop i) (some g):=by
 obtain ⟨cs,hs1,hs2⟩:=hs
 obtain ⟨vs,hv1,hv2⟩:=hv
 rcases hs1.2 with ⟨h0,_,_⟩ | ⟨g',o',cap',cur,e1,hG,hg,hnc,hcm,hsize,hcs⟩
 · cases h0
 injection e1 with e1 _ e3
 injection e1 with e1
 injection e1 with e1 e2 _
 subst e1 e2 e3
 rcases hv1.2 with ⟨h0,_,_⟩ | ⟨g',o',cap',vcur,e1,hG',hvg,hvc,hvm,hvsize,hvs⟩
 · cases h0
 injection e1 with e1 _ e3
 injection e1 with e1
 injection e1 with e1 e2 _
 subst e1 e2 e3
 have hn:=s.n_pos
 have hcl:cs.length=xs.length*s.n:=hs1.1
 have hvl:vs.length=ys.length*s.n:=hv1.1
 have h1c:=hs2.one
 have h1v:=hv2.one
 have hcell: ∀j u,cs[j]? =some u→w.cell? ⟨g,o+j,none⟩=some u:=fun j u hu=>by
  have:=hs1.cell rfl hu
  rwa [add_lit] at this
 have hvcell: ∀j u,vs[j]? =some u→w.cell? ⟨vb,voff+j,none⟩=some u:=fun j u hu=>by
  have:=hv1.cell rfl hu
  rwa [add_lit] at this
 have hin:i*s.n≤xs.length*s.n:=Nat.mul_le_mul_right _ (by omega)
 have hinfo:(P.info? e).map (·.size)=some s.n:=by rw [hti]; simp [hsz]
 have hcxn:(xs.length+ys.length)*s.n≤cx*s.n:=Nat.mul_le_mul_right _ hroom
 rw [Nat.add_mul] at hcxn
 have hpos:0<xs.length*s.n:=Nat.mul_pos (by omega) hn
 have him:(i+ys.length)*s.n=i*s.n+ys.length*s.n:=Nat.add_mul _ _ _
 have hdl:(cs.drop (i*s.n)).length=(xs.length-i)*s.n:=by rw [List.length_drop,hcl,Nat.sub_mul]
 have hsub:(xs.length-i)*s.n=xs.length*s.n-i*s.n:=Nat.sub_mul _ _ _
 have hg1:w.drew.heap[g]? =some (.cells cur e (0,0)):=hg
 obtain ⟨c1,k1,k2,k3⟩:=setCells_row (g:=g) (e:=e) (cs.drop (i*s.n)) (o+(i+ys.length)*s.n) w.drew cur hg1
 obtain ⟨c2,k4,k5,k6⟩:=setCells_row (g:=g) (e:=e) vs (o+i*s.n) _ c1 k1
 have hf2:Fr (fun k=>k=g) w (w.drew.setCells g (o+(i+ys.length)*s.n) (cs.drop (i*s.n))):=(Fr.drew w _).trans (Fr.setCells _ _ _ (.inl rfl))
 have hf3:=hf2.trans (Fr.setCells (g:=g) (S:=fun k=>k=g) vs (o+i*s.n) _ (.inl rfl))
 have hcur: ∀j,j<xs.length*s.n→cur[o+j]? =cs[j]? :=fun j hj=>by
  have:((cur.toList.drop o).take (xs.length*s.n))[j]? =cs[j]? :=by rw [hcs]
  rw [List.getElem?_take_of_lt hj,List.getElem?_drop] at this
  simpa using this
 refine ⟨w.drew.setCells g (o+(i+ys.length)*s.n) (cs.drop (i*s.n)),(w.drew.setCells g (o+(i+ys.length)*s.n) (cs.drop (i*s.n))).setCells g (o+i*s.n) vs,⟨e,vcur.size,e,cur.size,by simp [World.shape?,hvg],by simp [World.shape?,hg],by omega,frozen_of_row hvg,frozen_of_row hvg⟩,fun ty dc sc=>?_,fun ty dc=>?_,hf3,?_⟩
 ·
  refine run_copy_sz (sz:=s.n) _ tS tS ty e _ _ _ _ _ _ _ _ (cs.drop (i*s.n)) ht hinfo (by simp only [Nat.min_def]; split<;>omega) hdl (fun j u hu=>?_) (fun j hj=>?_) (fun j hj=>frozen_of_row hg1) (fun u hu=>h1c u (List.mem_of_mem_drop hu))
  ·
   rw [List.getElem?_drop] at hu
   rw [add_lit,Nat.add_assoc]
   exact hcell _ u hu
  · rw [cell_of_row hg1,Array.getElem?_eq_getElem (by omega)]; rfl
 ·
  refine run_copy_sz (sz:=s.n) _ tS tS ty e _ _ _ _ _ _ _ _ vs ht hinfo (by simp only [Nat.min_def]; split<;>omega) hvl (fun j u hu=>?_) (fun j hj=>?_) (fun j hj=>frozen_of_row k1) h1v
  · rw [add_lit]; exact hf2.cell (hvcell j u hu) hne
  · rw [cell_of_row k1,Array.getElem?_eq_getElem (by rw [k2]; omega)]; rfl
 ·
  have hel:=((hs2.take (Nat.le_of_lt hi)).append hv2).append (hs2.drop i)
  have hrl:(xs.take i++ys++xs.drop i).length=xs.length+ys.length:=by simp; omega
  refine ⟨cs.take (i*s.n)++vs++cs.drop (i*s.n),⟨?_,.inr ⟨g,o,cx,c2,by rw [hrl],rfl,k4,by omega,hcm,by omega,?_⟩⟩,hel.step hf3 (fun k hk=>hk▸hgO) hO⟩
  · rw [hel.1]
  ·
   rw [hrl]
   refine cells_eq (by simp only [List.length_append,List.length_take,List.length_drop,hcl,hvl,Nat.add_mul]; omega) fun j hj=>?_
   rw [Nat.add_mul] at hj
   rw [ins_cells hvl (by omega),k6 (o+j) (by omega),k3 (o+j) (by omega),hdl,him]
   by_cases j1:j<i*s.n
   · rw [if_neg (by omega),if_neg (by omega),if_pos j1,hcur j (by omega)]
   ·
    rw [if_neg j1]
    by_cases j2:j<i*s.n+ys.length*s.n
    · rw [if_pos (by omega),if_pos j2]; congr 1; omega
    ·
     rw [if_neg (by omega),if_pos (by omega),if_neg j2,List.getElem?_drop]
     congr 1; omega
end
section
variable {P : Program} {ρ : Operand → Value} {d : Option Tmp} {ty : TypeId} {pos : String} {af : Array Edge} {gd : Option (Nat × Bool)} {x lo : Operand} {w : World}
theorem sl_from {t1 e:TypeId} {g o o' n m sz a:Nat} (ha:a≤n) (hm:a<m) (ht:P.underlying t1=some (.slice e)) (hs: ∀w,(sizeOf e).run P w=.ok sz w) (hx:ρ x=.slice (some ⟨g,o,none⟩) n m) (hl:ρ lo=.int .i64 (a:Int)) (ho:o+a*sz=o'):
  Pu P ρ ⟨d,.slice t1 x (some lo) none none,ty,pos,af,gd⟩ (.slice (some ⟨g,o',none⟩) (n-a) (m-a)):=by
 have h:=pu_slice_l (d:=d) (t:=ty) (pos:=pos) (af:=af) (g:=gd) (a:=(a:Int)) ht hs hx hl ⟨by omega,by omega⟩
 rw [Int.toNat_natCast,if_neg (by omega),Option.map_some,add_lit,ho] at h
 exact h
theorem sl_to {t1 e:TypeId} {hi:Operand} {A:Option Addr} {n m sz b:Nat} (hb:b≤m) (hm:m≠0) (ht:P.underlying t1=some (.slice e)) (hs: ∀w,(sizeOf e).run P w=.ok sz w) (hx:ρ x=.slice A n m) (hh:ρ hi=.int .i64 (b:Int)):
  Pu P ρ ⟨d,.slice t1 x none (some hi) none,ty,pos,af,gd⟩ (.slice A b m):=by
 have h:=pu_slice_h (d:=d) (t:=ty) (pos:=pos) (af:=af) (g:=gd) (b:=(b:Int)) ht hs hx hh ⟨by omega,by omega⟩
 simpa [hm,Addr.add] using h
theorem op_extern {f:FuncId} {c:Call} {vs:List Value} {v:Value} {w':World} (hc:(callFunc f vs.toArray).run P w=.ok (.value v) w') (ho:c.callee=.value (.func f)) (hf:ρ (.func f)=.func (.func f) #[] #[]) (ha:c.args.toList.map ρ=vs):
  (execOp ρ ⟨d,.call c,ty,pos,af,gd⟩).run P w=.ok (.value v) w':=by
 have hm:c.args.map ρ=vs.toArray:=Array.ext' (by rw [Array.toList_map]; exact ha)
 simp [execOp,resolve,ho,hf,hm,Deferred.ofValue,invoke,hc]
end
end Ev
end Go.Proofs.Yteajmbanlohncaa
