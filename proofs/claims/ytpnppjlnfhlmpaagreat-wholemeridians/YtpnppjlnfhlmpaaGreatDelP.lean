import Derived.Test.YtpnppjlnfhlmpaaGreatCells
import Derived.Shelf.Sort.Plain
import Derived.Shelf.Slices.In.SortNone
import Derived.Shelf.Slices.CompactI
import Derived.Lib.SliceRun
import Derived.Lib.AppendZerosOnto
import Derived.Lib.Overlaps
import Derived.Laws.IdiomCopy
set_option linter.all false
namespace Go.Proofs.YtpnppjlnfhlmpaaGreat
namespace Ev
open Go.RowKit Go.Shelf Go.Sort

def srtF (s:List Int):Option (List Int):=if s.length≤1099511627776 then some (s.mergeSort fun x y=>decide (x≤y)) else none
def cpcF (s:List Int):Option (List Int):=if s.length≤1099511627776 then some (Lib.compact s) else none
theorem put_get {o:Nat} {R:List Int} {cur:Array Value} {k:Nat} (hk:k<R.length) (hcur:o+k<cur.size):(putCells (Value.int .i64) o R.toArray cur)[o+k]? =(R.map (Value.int .i64))[k]? :=by
  simp only [putCells,Array.getElem?_mapIdx,List.getElem?_map]
  rw [Array.getElem?_eq_getElem hcur]
  simp only [Option.map_some]
  rw [if_pos (by simp only [List.size_toArray]; omega),List.getElem?_eq_getElem hk]
  simp only [Option.map_some]
  congr 2
  rw [Nat.add_sub_cancel_left]
  simp [hk]
theorem sort_calls {P:Program} {ρ:Ren} (L:Lays.n189 P ρ) {O0:List Nat} {w:World} (hO: ∀k∈O0,k<w.heap.size) {A:Option Addr} {mx cx:Nat} {s:List Int} {S:Nat→Prop} {Bs:List Fact}
    (hBs:Bs=[.own (ρ.t 3) (.int .i64) (.slice A mx cx) s]) (hS:S=fun k=>k∈blocks Bs)
    (hio:Tk O0 w Bs) {r:List Int} (hb:srtF s=some r):
    Calls P (ρ.f 189) #[.slice A mx cx] w fun e w'=> ∃v',e=.returned v'∧v'=.tuple #[]∧
      Cx S O0 w w' [.own (ρ.t 3) (.int .i64) (.slice A mx cx) r]:=by
  unfold srtF at hb
  split at hb
  rotate_left
  · cases hb
  rename_i hl
  injection hb with hb
  have hst:=Cx.startTk hO hio
  subst hBs
  have hown:Own O0 w (ρ.t 3) (.int .i64) (.slice A mx cx) s (blkOf (.slice A mx cx)):=hio.1 (.own (ρ.t 3) (.int .i64) (.slice A mx cx) s) List.mem_cons_self
  obtain ⟨hsw,hform⟩:=own_ints hown
  obtain ⟨hm,_,_⟩:=hown.qad
  by_cases hz:s.length=0
  · obtain rfl:s=[]:=List.length_eq_zero_iff.1 hz
    obtain rfl:mx=0:=hm
    have hr:r=[]:=by rw [←hb]; exact List.mergeSort_nil
    rw [hr,hS]
    refine (Any.slices_Sort_int_none L A cx w).mono fun e w' ⟨he,hw'⟩=>?_
    subst hw'
    exact ⟨_,he,rfl,hst⟩
  rcases hform with ⟨_,hv1,_⟩ | ⟨g,o,cap,cur,h1,h2,h3,h4,h5,h6,h7⟩
  · rw [hv1] at hz; simp at hz
  injection h1 with e1 e2 e3
  subst e1 e2 e3
  have hSg:S g:=by rw [hS]; simp [blocks,Fact.blk,blkOf]
  have hH:Holds (Value.int .i64) w g o s.toArray:=fun k hk=>by
    have hk':k<s.length:=by simpa using hk
    refine ⟨?_,frozen_of_row h3⟩
    rw [cell_of_row h3,h7 k hk',List.getElem?_map,List.getElem?_eq_getElem hk']
    simp [hk']
  have hperm:r.Perm s:=by rw [←hb]; exact List.mergeSort_perm _ _
  have hrl:r.length=s.length:=hperm.length_eq
  have hw1: ∀x∈r,IntKind.i64.wrap x=x:=fun x hx=>hsw x (hperm.mem_iff.1 hx)
  refine (Any.slices_Sort_int L g o cx s w hH (own_lt h3) (by omega)).mono fun e w' ⟨he,q,os,hw'⟩=>?_
  rw [hb] at hw'
  refine ⟨_,he,rfl,?_⟩
  have hheap:w'.heap[g]? =some (.cells (putCells (Value.int .i64) o r.toArray cur) (ρ.t 3) (0,0)):=by
    rw [hw']
    simp only [grow,putRow,mapBlock,Sort.ahead]
    rw [Array.getElem?_append_left (by simpa using own_lt h3),Array.getElem?_modify,if_pos rfl,h3]
    rfl
  have hf:Fr S w w':=by
    rw [hw']
    refine ⟨rfl,rfl,rfl,by simp [grow,putRow,mapBlock,Sort.ahead],fun k hk hn=>?_,Nat.le_add_right _ _⟩
    have hgk:g≠k:=fun h=>hn (h▸hSg)
    simp only [grow,putRow,mapBlock,Sort.ahead]
    rw [Array.getElem?_append_left (by simpa using hk),Array.getElem?_modify,if_neg hgk]
  refine cx_row hO hf (G:=g) rfl (.inr hSg) ?_ hw1
  rw [←hrl]
  refine own_row hheap (by omega) h5 (by simpa [putCells] using h6) (by simp) fun k hk=>?_
  exact put_get hk (by omega)
theorem compact_calls {P:Program} {ρ:Ren} (L:Lays2.n20 P ρ) {O0:List Nat} {w:World} (hO: ∀k∈O0,k<w.heap.size) {A:Option Addr} {mx cx:Nat} {s:List Int} {S:Nat→Prop} {Bs:List Fact}
    (hBs:Bs=[.own (ρ.t 3) (.int .i64) (.slice A mx cx) s]) (hS:S=fun k=>k∈blocks Bs)
    (hio:Tk O0 w Bs) {r:List Int} (hb:cpcF s=some r):
    Calls P (ρ.f 20) #[.slice A mx cx] w fun e w'=> ∃v',e=.returned v'∧∃(A1:Option Addr) (m1 c1:Nat),v'=.slice A1 m1 c1∧
      Cx S O0 w w' [.own (ρ.t 3) (.int .i64) (.slice A1 m1 c1) r]:=by
  unfold cpcF at hb
  split at hb
  rotate_left
  · cases hb
  rename_i hl
  injection hb with hb
  have hst:=Cx.startTk hO hio
  subst hBs
  have hown:Own O0 w (ρ.t 3) (.int .i64) (.slice A mx cx) s (blkOf (.slice A mx cx)):=hio.1 (.own (ρ.t 3) (.int .i64) (.slice A mx cx) s) List.mem_cons_self
  obtain ⟨hsw,hform⟩:=own_ints hown
  obtain ⟨hm,_,_⟩:=hown.qad
  have hcl:(Lib.compact s).length≤s.length:=by
    unfold Lib.compact Lib.compactUpTo
    rw [List.length_map]
    exact Nat.le_trans (List.length_filter_le _ _) (by simp)
  by_cases hz:s.length=0
  · obtain rfl:s=[]:=List.length_eq_zero_iff.1 hz
    obtain rfl:mx=0:=hm
    have hr:r=[]:=by rw [hb] at hcl; exact List.length_eq_zero_iff.1 (by simpa using hcl)
    rw [hr,hS]
    refine (Any.slices_Compact_int_empty L A cx w).mono fun e w' ⟨he,hw'⟩=>?_
    subst hw'
    exact ⟨_,he,A,0,cx,rfl,hst⟩
  rcases hform with ⟨_,hv1,_⟩ | ⟨g,o,cap,cur,h1,h2,h3,h4,h5,h6,h7⟩
  · rw [hv1] at hz; simp at hz
  injection h1 with e1 e2 e3
  subst e1 e2 e3
  have hSg:S g:=by rw [hS]; simp [blocks,Fact.blk,blkOf]
  have hH:Holds (Value.int .i64) w g o s.toArray:=fun k hk=>by
    have hk':k<s.length:=by simpa using hk
    refine ⟨?_,frozen_of_row h3⟩
    rw [cell_of_row h3,h7 k hk',List.getElem?_map,List.getElem?_eq_getElem hk']
    simp [hk']
  have hw1: ∀x∈r,IntKind.i64.wrap x=x:=fun x hx=>by
    rw [←hb] at hx
    unfold Lib.compact Lib.compactUpTo at hx
    obtain ⟨j,hj,rfl⟩:=List.mem_map.1 hx
    have hj:=List.mem_range.1 (List.mem_filter.1 hj).1
    rw [getElem!_pos s.toArray j (by simpa using hj)]
    exact hsw _ (by simp)
  rw [hb] at hcl
  refine (Any.slices_Compact_int L g o cx s w hH (by omega) h4).mono fun e w' ⟨he,q,hw'⟩=>?_
  rw [hb] at he hw'
  refine ⟨_,he,some ⟨g,o,none⟩,_,_,rfl,?_⟩
  have hheap:w'.heap[g]? =some (.cells (putCells (Value.int .i64) o (r++List.replicate (s.length-r.length) 0).toArray cur) (ρ.t 3) (0,0)):=by
    rw [hw']
    simp only [putRow,mapBlock,Sort.ahead,Array.getElem?_modify,if_true,h3,Option.map_some,onCells]
  have hf:Fr S w w':=by
    rw [hw']
    refine ⟨rfl,rfl,rfl,by simp [putRow,mapBlock,Sort.ahead],fun k hk hn=>?_,Nat.le_add_right _ _⟩
    have hgk:g≠k:=fun h=>hn (h▸hSg)
    simp [putRow,mapBlock,Sort.ahead,Array.getElem?_modify,hgk]
  refine cx_row hO hf (G:=g) rfl (.inr hSg) (own_row hheap (by omega) h5 (by simpa [putCells] using h6) (by simp) fun k hk=>?_) hw1
  rw [put_get (by rw [List.length_append]; omega) (by omega),List.map_append,List.getElem?_append_left (by simpa using hk)]
end Ev
end Go.Proofs.YtpnppjlnfhlmpaaGreat

set_option linter.all false
namespace Go.Proofs.YtpnppjlnfhlmpaaGreat
namespace Ev
section
variable {P : Program} {ρ : Operand → Value} {d : Option Tmp} {ty : TypeId} {pos : String} {af : Array Edge} {gd : Option (Nat × Bool)} {x y : Operand}
variable {I : Nat → Prop} {O0 : List Nat} {w0 w : World} {L : List Fact}
theorem Cx.clr (h:Cx I O0 w0 w L) {i:Nat} {t e:TypeId} {ad:Addr} {m c:Nat} {xs:List Int} (hi:L[i]? =some (.own e (.int .i64) (.slice (some ad) m c) xs)) {k:Nat} (hk:k<xs.length)
    (ht:P.underlying t=some (.slice e)) (hv: ∀w,(zeroValue e).run P w=.ok (.int .i64 0) w) (hx:ρ x=.slice (some (ad.add k)) (m-k) (c-k)):
    Op P ρ ⟨d,.call { callee:=.builtin .clear,args:=#[x],argTypes:=#[t] },ty,pos,af,gd⟩ w fun v' w'=>Cx I O0 w0 w' (L.set i (.own e (.int .i64) (.slice (some ad) m c) (xs.take k++List.replicate (xs.length-k) 0)))∧Fr (fun k=>blkOf (.slice (some ad) m c)=some k) w w':=by
  have hown:Own (O0++blocks L) w e (.int .i64) (.slice (some ad) m c) xs (blkOf (.slice (some ad) m c)):=h.at_ hi
  obtain ⟨hsw,hform⟩:=own_ints hown
  rcases hform with ⟨h0,_,_⟩ | ⟨g,o,cap,cur,h1,h2,h3,h4,h5,h6,h7⟩
  · cases h0
  injection h1 with e1 e2 e3
  injection e1 with e1
  subst e1 e2 e3
  have hc1: ∀j,j<xs.length-k→(w.cell? ⟨g,o+k+j,none⟩).isSome=true:=fun j hj=>by
    rw [cell_of_row h3]
    have:o+k+j<cur.size:=by omega
    simp [this]
  have hrun:=Lib.run_clear_slice w t e ty (.int .i64 0) ht hv rfl rfl g (o+k) (xs.length-k) (c-k) (by omega) hc1 (fun j hj=>frozen_of_row h3)
  have hfr:Fr (fun k=>blkOf (.slice (some ⟨g,o,none⟩) xs.length c)=some k) w (w.setCells g (o+k) (List.replicate (xs.length-k) (.int .i64 0))):=Fr.setCells _ _ _ (.inl rfl)
  obtain ⟨cur',r1,r2,r3⟩:=setCells_row (List.replicate (xs.length-k) (Value.int .i64 0)) (o+k) w cur h3
  refine ⟨.tuple #[],_,?_,h.turn hi hfr (.inl rfl) fun O hO=>?_,hfr⟩
  · have hx':ρ x=.slice (some ⟨g,o+k,none⟩) (xs.length-k) (c-k):=by rw [hx,add_lit]
    simp [execOp,resolve,invoke,builtin,hx',hrun]
  · have hl:(xs.take k++List.replicate (xs.length-k) (0:Int)).length=xs.length:=by simp; omega
    have hrow:OwnC (w.setCells g (o+k) (List.replicate (xs.length-k) (.int .i64 0))) e 1 (.slice (some ⟨g,o,none⟩) xs.length c) (xs.take k++List.replicate (xs.length-k) (0:Int)).length ((xs.take k++List.replicate (xs.length-k) (0:Int)).map (Value.int .i64)) (some g):=by
      rw [hl]
      refine own_row r1 (by omega) h5 (by omega) (by rw [List.length_map,hl]) fun j hj=>?_
      rw [r3 (o+j) (by omega),List.length_replicate,List.map_append]
      by_cases q:k≤j
      · rw [if_pos (by omega),List.getElem?_append_right (by simp; omega)]
        have e1:j-((xs.take k).map (Value.int .i64)).length=o+j-(o+k):=by simp; omega
        rw [e1,List.map_replicate]
      · rw [if_neg (by omega),h7 j hj,List.getElem?_append_left (by simp; omega),List.getElem?_map,List.getElem?_map,List.getElem?_take_of_lt (by omega)]
    have hw: ∀z∈xs.take k++List.replicate (xs.length-k) (0:Int),IntKind.i64.wrap z=z:=fun z hz=>by
      rcases List.mem_append.1 hz with hz | hz
      · exact hsw z (List.mem_of_mem_take hz)
      · rw [List.eq_of_mem_replicate hz]; rfl
    exact ⟨_,hrow,ints_elems hw⟩
theorem Cx.clrT (h:Cx I O0 w0 w L) {i:Nat} {t e:TypeId} {A:Option Addr} {m c:Nat} {xs:List Int} (hi:L[i]? =some (.own e (.int .i64) (.slice A m c) xs)) {k:Nat} (hk:k<xs.length)
    (ht:P.underlying t=some (.slice e)) (hv: ∀w,(zeroValue e).run P w=.ok (.int .i64 0) w) (hx:ρ x=.slice (if c=k then A else A.map (·.add (k*1))) (m-k) (c-k)):
    Op P ρ ⟨d,.call { callee:=.builtin .clear,args:=#[x],argTypes:=#[t] },ty,pos,af,gd⟩ w fun v' w'=>Cx I O0 w0 w' (L.set i (.own e (.int .i64) (.slice A m c) (xs.take k++List.replicate (xs.length-k) 0)))∧Fr (fun k=>blkOf (.slice A m c)=some k) w w':=by
  have hown:Own (O0++blocks L) w e (.int .i64) (.slice A m c) xs (blkOf (.slice A m c)):=h.at_ hi
  obtain ⟨_,hc,_⟩:=hown.qad
  cases A with
  | none=>exact absurd (hown.none_nil' rfl) (fun q=>by rw [q] at hk; simp at hk)
  | some ad=>
    rw [if_neg (by omega),Nat.mul_one] at hx
    exact h.clr hi hk ht hv hx
end
end Ev
end Go.Proofs.YtpnppjlnfhlmpaaGreat

set_option linter.all false
namespace Go.Proofs.YtpnppjlnfhlmpaaGreat
namespace Ev
open Go.RowKit Go.Shelf Go.Sort
section
variable {P : Program} {w : World} {tS e : TypeId} {sz : Nat}
theorem Elems.take {O:List Nat} {s:Sh} {cs:List Value} {xs:List s.T} (h:Elems O w s cs xs) {i:Nat} (hi:i≤xs.length):Elems O w s (cs.take (i*s.n)) (xs.take i):=by
 have hle:i*s.n≤xs.length*s.n:=Nat.mul_le_mul_right _ hi
 refine ⟨by rw [List.length_take,List.length_take,h.1,Nat.min_eq_left hle,Nat.min_eq_left hi],fun j x hj=>?_⟩
 have hji:j<i:=by
  have:=(List.getElem?_eq_some_iff.1 hj).1
  rw [List.length_take] at this; omega
 rw [List.getElem?_take_of_lt hji] at hj
 have h1:=h.2 j x hj
 have hjn:j*s.n+s.n≤i*s.n:=by rw [←Nat.succ_mul]; exact Nat.mul_le_mul_right _ hji
 rw [List.drop_take,List.take_take,Nat.min_eq_left (by omega)]
 exact h1
theorem Elems.drop {O:List Nat} {s:Sh} {cs:List Value} {xs:List s.T} (h:Elems O w s cs xs) (i:Nat):Elems O w s (cs.drop (i*s.n)) (xs.drop i):=by
 refine ⟨by rw [List.length_drop,List.length_drop,h.1,Nat.sub_mul],fun j x hj=>?_⟩
 rw [List.getElem?_drop] at hj
 have:=h.2 _ x hj
 rw [List.drop_drop,←Nat.add_mul]
 exact this
theorem cells_eq {cur:Array Value} {o k:Nat} {cs:List Value} (hl:cs.length=k) (hx: ∀j,j<k→cur[o+j]? =cs[j]?):(cur.toList.drop o).take k=cs:=by
 apply List.ext_getElem?
 intro j
 rcases Nat.lt_or_ge j k with hj | hj
 · rw [List.getElem?_take_of_lt hj,List.getElem?_drop,←hx j hj]; simp
 · rw [List.getElem?_eq_none (by rw [List.length_take]; omega),List.getElem?_eq_none (by omega)]
end
section
variable {P : Program} {w : World} {tS tI e : TypeId} {ti : TypeInfo} {z : Value} {s : Sh} (ht : P.underlying tS = some (.slice e)) (htI : P.underlying tI = some (.int .i64)) (hti : P.info? e = some ti) (hz : ti.zero = some z) (hzs : z.cells.size = s.n) (hsz : ti.size = s.n) (hby : ti.bytes ≤ 64)
include ht hti hsz
include htI hz hzs hby in
end
section
variable {P : Program} {ρ : Operand → Value} {d : Option Tmp} {ty : TypeId} {pos : String} {af : Array Edge} {gd : Option (Nat × Bool)} {x lo : Operand} {w : World}
theorem sl_to {t1 e:TypeId} {hi:Operand} {A:Option Addr} {n m sz b:Nat} (hb:b≤m) (hm:m≠0) (ht:P.underlying t1=some (.slice e)) (hs: ∀w,(sizeOf e).run P w=.ok sz w) (hx:ρ x=.slice A n m) (hh:ρ hi=.int .i64 (b:Int)):
  Pu P ρ ⟨d,.slice t1 x none (some hi) none,ty,pos,af,gd⟩ (.slice A b m):=by
 have h:=pu_slice_h (d:=d) (t:=ty) (pos:=pos) (af:=af) (g:=gd) (b:=(b:Int)) ht hs hx hh ⟨by omega,by omega⟩
 simpa [hm,Addr.add] using h
end
end Ev
end Go.Proofs.YtpnppjlnfhlmpaaGreat

set_option linter.all false
namespace Go.Proofs.YtpnppjlnfhlmpaaGreat
namespace Ev
open Go.RowKit Go.Shelf Go.Sort
def delG {α:Type} (s:List α) (i j:Int):Option (List α):=if 0≤i∧i<j∧j≤s.length then some (s.take i.toNat++s.drop j.toNat) else none
section
variable {P : Program} {w : World} {tS e : TypeId} {sz : Nat}
theorem run_append_fit (w:World) (dT sT ty e e2:TypeId) (b o n cap:Nat) (A:Option Addr) (m c:Nat) (cs:List Value)
    (hu:P.underlying dT=some (.slice e)) (hu2:P.underlying sT=some (.slice e2)) {ti:TypeInfo} (hi:P.info? e=some ti) (hs:Src w ti.size A m cs) (hroom:n+m≤cap)
    (hc: ∀j,j<cs.length→(w.cell? ⟨b,o+n*ti.size+j,none⟩).isSome=true) (hf: ∀j,j<cs.length→w.frozen? ⟨b,o+n*ti.size+j,none⟩=false) (h1: ∀v∈cs,v.oneCell'=true):
    (Builtin.append_ #[dT,sT] ty #[.slice (some ⟨b,o,none⟩) n cap,.slice A m c]).run P w=.ok (.slice (some ⟨b,o,none⟩) (n+m) cap) (w.setCells b (o+n*ti.size) cs):=by
  have hst:=run_storeCells_cells (P:=P) b (o+n*ti.size) cs 0 w (by simpa using hc) (by simpa using hf) h1
  simp only [Nat.add_zero] at hst
  have:=Src.first (P:=P) (c:=c) hs
  simp [Builtin.append_,run_underlying hu,run_underlying hu2,sizeOf,typeInfo,hi,Builtin.lenOf,hroom,this,Addr.add_lit,hst]
theorem zeroCells_mem {z:Array Value} {n:Nat} {v:Value} (h:v∈(Builtin.zeroCells z n).toList):v∈z.toList:=by
  unfold Builtin.zeroCells at h
  rw [Array.toList_map] at h
  obtain ⟨i,hi,rfl⟩:=List.mem_map.1 h
  have hi:i<n*z.size:=by simpa using hi
  have hz:0<z.size:=Nat.pos_of_ne_zero fun q=>by rw [q] at hi; simp at hi
  have hm:=Nat.mod_lt i hz
  rw [getElem!_pos z (i%z.size) hm]
  simp
theorem run_clear_sz (w:World) (t e ty:TypeId) (z:Value) (ht:P.underlying t=some (.slice e)) (hv: ∀w,(zeroValue e).run P w=.ok z w) (hz1: ∀v∈z.cells.toList,v.oneCell'=true) (b o n c:Nat) (hn:0<n)
    (hc: ∀j,j<n*z.cells.size→(w.cell? ⟨b,o+j,none⟩).isSome=true) (hf: ∀j,j<n*z.cells.size→w.frozen? ⟨b,o+j,none⟩=false):
    (Builtin.clear_ #[t] ty #[.slice (some ⟨b,o,none⟩) n c]).run P w=.ok (.tuple #[]) (w.setCells b o (Builtin.zeroCells z.cells n).toList):=by
  have hl:(Builtin.zeroCells z.cells n).toList.length=n*z.cells.size:=by rw [Array.length_toList,size_zeroCells]
  have hst:=run_storeCells_cells (P:=P) b o (Builtin.zeroCells z.cells n).toList 0 w (by rw [hl]; simpa using hc) (by rw [hl]; simpa using hf) (fun v hv'=>hz1 v (zeroCells_mem hv'))
  simp only [Nat.add_zero] at hst
  obtain ⟨m,rfl⟩: ∃m,n=m+1:=⟨n-1,by omega⟩
  simp [Builtin.clear_,run_underlying ht,hv,hst]
end
section
variable {P : Program} {w : World} {tS e : TypeId} {ti : TypeInfo} {z : Value} {s : Sh} (ht : P.underlying tS = some (.slice e)) (hti : P.info? e = some ti) (hv : ∀ w, (zeroValue e).run P w = .ok z w) (hzs : z.cells.size = s.n) (hz1 : ∀ v ∈ z.cells.toList, v.oneCell' = true) (hsz : ti.size = s.n)
include ht hti hv hzs hz1 hsz
theorem delP_run {O O':List Nat} {g o cx i j:Nat} {xs:List s.T} {G:Option Nat} (hs:Own O w e s (.slice (some ⟨g,o,none⟩) xs.length cx) xs G) (hgO:g∈O) (hij:i<j) (hj:j≤xs.length) (hO: ∀k∈O',k∈O∨w.heap.size≤k) {A2:Option Addr} (hA:j<xs.length→A2=some ⟨g,o+j*s.n,none⟩):
    ∃w1 w2,(∀ty c2,(Builtin.append_ #[tS,tS] ty #[.slice (some ⟨g,o,none⟩) i cx,.slice A2 (xs.length-j) c2]).run P w.drew=.ok (.slice (some ⟨g,o,none⟩) (i+(xs.length-j)) cx) w1)∧
      (∀ty c3,(Builtin.clear_ #[tS] ty #[.slice (some ⟨g,o+(i+(xs.length-j))*s.n,none⟩) (j-i) c3]).run P w1=.ok (.tuple #[]) w2)∧
      Fr (fun k=>k=g) w w2∧Own O' w2 e s (.slice (some ⟨g,o,none⟩) (i+(xs.length-j)) cx) (xs.take i++xs.drop j) (some g):=by
  obtain ⟨cs,hs1,hs2⟩:=hs
  rcases hs1.2 with ⟨h0,_,_⟩ | ⟨g',o',cap',cur,e1,hG,hg,hnc,hcm,hsize,hcs⟩
  · cases h0
  injection e1 with e1 _ e3
  injection e1 with e1
  injection e1 with e1 e2 _
  subst e1 e2 e3
  have hn:=s.n_pos
  have hcl:cs.length=xs.length*s.n:=hs1.1
  have h1c:=hs2.one
  have hcell: ∀j u,cs[j]? =some u→w.cell? ⟨g,o+j,none⟩=some u:=fun j u hu=>by
    have:=hs1.cell rfl hu
    rwa [add_lit] at this
  have hdl:(cs.drop (j*s.n)).length=(xs.length-j)*s.n:=by rw [List.length_drop,hcl,Nat.sub_mul]
  have hjn:j*s.n≤xs.length*s.n:=Nat.mul_le_mul_right _ hj
  have hsub:(xs.length-j)*s.n=xs.length*s.n-j*s.n:=Nat.sub_mul _ _ _
  have hij2:i*s.n+(j-i)*s.n=j*s.n:=by rw [←Nat.add_mul]; congr 1; omega
  have hcap:xs.length*s.n≤cx*s.n:=Nat.mul_le_mul_right _ hnc
  have hsrc:Src w.drew ti.size A2 (xs.length-j) (cs.drop (j*s.n)):=by
    rw [hsz]
    refine ⟨hdl,fun h=>⟨_,hA (by omega),fun k u hu=>?_⟩⟩
    rw [List.getElem?_drop] at hu
    rw [add_lit,Nat.add_assoc]
    exact hcell _ u hu
  have hg1:w.drew.heap[g]? =some (.cells cur e (0,0)):=hg
  obtain ⟨c1,k1,k2,k3⟩:=setCells_row (g:=g) (e:=e) (cs.drop (j*s.n)) (o+i*s.n) w.drew cur hg1
  have hzl:(Builtin.zeroCells z.cells (j-i)).toList.length=(j-i)*s.n:=by rw [Array.length_toList,size_zeroCells,hzs]
  obtain ⟨c2,k4,k5,k6⟩:=setCells_row (g:=g) (e:=e) (Builtin.zeroCells z.cells (j-i)).toList (o+(i+(xs.length-j))*s.n) _ c1 k1
  have hf1:Fr (fun k=>k=g) w (w.drew.setCells g (o+i*s.n) (cs.drop (j*s.n))):=(Fr.drew w _).trans (Fr.setCells _ _ _ (.inl rfl))
  have hf2:=hf1.trans (Fr.setCells (g:=g) (S:=fun k=>k=g) (Builtin.zeroCells z.cells (j-i)).toList (o+(i+(xs.length-j))*s.n) _ (.inl rfl))
  have him:(i+(xs.length-j))*s.n=i*s.n+(xs.length*s.n-j*s.n):=by rw [Nat.add_mul,hsub]
  have hcur: ∀j,j<xs.length*s.n→cur[o+j]? =cs[j]? :=fun j hj=>by
    have:((cur.toList.drop o).take (xs.length*s.n))[j]? =cs[j]? :=by rw [hcs]
    rw [List.getElem?_take_of_lt hj,List.getElem?_drop] at this
    simpa using this
  refine ⟨w.drew.setCells g (o+i*s.n) (cs.drop (j*s.n)),_,fun ty c2'=>?_,fun ty c3=>?_,hf2,?_⟩
  · have:=run_append_fit (P:=P) w.drew tS tS ty e e g o i cx A2 (xs.length-j) c2' (cs.drop (j*s.n)) ht ht hti hsrc (by omega) (fun q hq=>by
      rw [cell_of_row hg1,hsz,Array.getElem?_eq_getElem (by omega)]; rfl) (fun q hq=>frozen_of_row hg1) (fun u hu=>h1c u (List.mem_of_mem_drop hu))
    rw [hsz] at this
    exact this
  · refine run_clear_sz _ tS e ty z ht hv hz1 g _ (j-i) c3 (by omega) (fun q hq=>?_) (fun q hq=>frozen_of_row k1)
    rw [hzs] at hq
    rw [cell_of_row k1,Array.getElem?_eq_getElem (by rw [k2,him]; omega)]; rfl
  · have hel:=(hs2.take (i:=i) (by omega)).append (hs2.drop j)
    have hrl:(xs.take i++xs.drop j).length=i+(xs.length-j):=by simp; omega
    refine ⟨cs.take (i*s.n)++cs.drop (j*s.n),⟨?_,.inr ⟨g,o,cx,c2,by rw [hrl],rfl,k4,by omega,hcm,by omega,?_⟩⟩,hel.step hf2 (fun k hk=>hk▸hgO) hO⟩
    · rw [hel.1]
    · rw [hrl]
      refine cells_eq (by simp only [List.length_append,List.length_take,List.length_drop,hcl]; omega) fun q hq=>?_
      rw [him] at hq
      rw [k6 (o+q) (by omega),k3 (o+q) (by omega),hdl,hzl,him]
      by_cases j1:q<i*s.n
      · rw [if_neg (by omega),if_neg (by omega),hcur q (by omega),List.getElem?_append_left (by rw [List.length_take]; omega),List.getElem?_take_of_lt j1]
      · rw [if_neg (by omega),if_pos (by omega),List.getElem?_append_right (by rw [List.length_take]; omega),List.length_take,hcl,List.getElem?_drop,List.getElem?_drop]
        congr 1; omega
end
section
variable {P : Program} {ρ : Operand → Value} {d : Option Tmp} {ty : TypeId} {pos : String} {af : Array Edge} {gd : Option (Nat × Bool)} {x y : Operand} {w w' : World} {v' : Value}
theorem pu_slice_3 {t1 e:TypeId} {lo hi mx:Operand} {A:Option Addr} {n m sz:Nat} {a b c:Int} (ht:P.underlying t1=some (.slice e)) (hs: ∀w,(sizeOf e).run P w=.ok sz w) (hx:ρ x=.slice A n m)
    (hl:ρ lo=.int .i64 a) (hh:ρ hi=.int .i64 b) (hm:ρ mx=.int .i64 c) (h:0≤a∧a≤b∧b≤c∧c≤m):
    Pu P ρ ⟨d,.slice t1 x (some lo) (some hi) (some mx),ty,pos,af,gd⟩ (.slice (if c.toNat=a.toNat then A else A.map (·.add (a.toNat*sz))) (b.toNat-a.toNat) (c.toNat-a.toNat)):=fun w=>by
  have h1:a≤max b 0:=by omega
  have h2:b≤max c 0:=by omega
  unfold Yv
  simp [execOp,hx,hl,hh,hm,Instr.sliceAt,Instr.slice,run_underlying ht,Instr.sliceBounds,Instr.sliceBound,asIntOf,h.1,h.2.2.2,h1,h2,hs,show (0:Int)≤b from by omega,show (0:Int)≤c from by omega]
theorem sl_from' {t1 e:TypeId} {lo:Operand} {g o o' n m sz a:Nat} (ha:a≤n) (ht:P.underlying t1=some (.slice e)) (hs: ∀w,(sizeOf e).run P w=.ok sz w) (hx:ρ x=.slice (some ⟨g,o,none⟩) n m) (hl:ρ lo=.int .i64 (a:Int)) (ho:o+a*sz=o'):
    Pu P ρ ⟨d,.slice t1 x (some lo) none none,ty,pos,af,gd⟩ (.slice (if m=a then some ⟨g,o,none⟩ else some ⟨g,o',none⟩) (n-a) (m-a)):=by
  have h:=pu_slice_l (d:=d) (t:=ty) (pos:=pos) (af:=af) (g:=gd) (a:=(a:Int)) ht hs hx hl ⟨by omega,by omega⟩
  rw [Int.toNat_natCast,Option.map_some,add_lit,ho] at h
  exact h
theorem sl_part {t1 e:TypeId} {lo hi:Operand} {g o o' n m sz a b k:Nat} (ha:a≤b) (hb:b≤m) (hm:a<m) (hk:b-a=k) (ht:P.underlying t1=some (.slice e)) (hs: ∀w,(sizeOf e).run P w=.ok sz w) (hx:ρ x=.slice (some ⟨g,o,none⟩) n m) (hl:ρ lo=.int .i64 (a:Int)) (hh:ρ hi=.int .i64 (b:Int)) (ho:o+a*sz=o'):
    Pu P ρ ⟨d,.slice t1 x (some lo) (some hi) none,ty,pos,af,gd⟩ (.slice (some ⟨g,o',none⟩) k (m-a)):=by
  have h:=pu_slice_lh (d:=d) (t:=ty) (pos:=pos) (af:=af) (g:=gd) (a:=(a:Int)) (b:=(b:Int)) ht hs hx hl hh ⟨by omega,by omega,by omega⟩
  rw [Int.toNat_natCast,Int.toNat_natCast,if_neg (by omega),Option.map_some,add_lit,ho,hk] at h
  exact h
theorem op_clear {t:TypeId} {v:Value} (hx:ρ x=v) (h:(Builtin.clear_ #[t] ty #[v]).run P w=.ok v' w'):(execOp ρ ⟨d,.call { callee:=.builtin .clear,args:=#[x],argTypes:=#[t] },ty,pos,af,gd⟩).run P w=.ok (.value v') w':=by
  simp [execOp,resolve,invoke,builtin,hx,h]
