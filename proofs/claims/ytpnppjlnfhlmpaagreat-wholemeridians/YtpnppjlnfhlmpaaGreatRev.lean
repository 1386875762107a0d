import Derived.Test.YtpnppjlnfhlmpaaGreatCells
import Derived.Shelf.SlicesG.Reverse
set_option linter.all false
namespace Go.Proofs.YtpnppjlnfhlmpaaGreat
namespace Ev
open Go.RowKit Go.Shelf Go.Sort
section
variable {I : Nat → Prop} {O0 : List Nat} {w0 w w' : World} {L : List Fact}
theorem Cx.revTail {P:Program} {ρ:Ren} (Y:SlLaysN.n35 P ρ) (h:Cx I O0 w0 w L) {i:Nat} {et:TypeId} {A:Option Addr} {m c:Nat} {xs:List Int} (hi:L[i]? =some (.own et (.int .i64) (.slice A m c) xs)) {k:Nat} (hk:k≤xs.length):
    Calls P (ρ.f 35) #[.slice (if c=k then A else A.map (·.add (k*1))) (m-k) (c-k)] w fun e w'=> ∃v,e=.returned v∧v=.tuple #[]∧Cx I O0 w0 w' (L.set i (.own et (.int .i64) (.slice A m c) (xs.take k++(xs.drop k).reverse)))∧Fr (fun b=>blkOf (.slice A m c)=some b) w w':=by
  have hown:Own (O0++blocks L) w et (.int .i64) (.slice A m c) xs (blkOf (.slice A m c)):=h.ow hi
  obtain ⟨hm,hmc,hc⟩:=hown.qad
  obtain ⟨hsw,hform⟩:=own_ints hown
  by_cases h0:m-k=0
  · rw [h0]
    refine (AnyG.slices_Reverse_int_empty Y _ _ w).mono fun e w' ⟨he,hw⟩=>?_
    subst hw
    have e1:xs.take k++(xs.drop k).reverse=xs:=by
      rw [List.drop_eq_nil_of_le (by omega),List.reverse_nil,List.append_nil,List.take_of_length_le (by omega)]
    rw [e1]
    refine ⟨_,he,rfl,?_,Fr.refl _ _⟩
    have e2:L.set i (.own et (.int .i64) (.slice A m c) xs)=L:=by
      obtain ⟨hlt,hge⟩:=List.getElem?_eq_some_iff.1 hi
      rw [←hge]; exact List.set_getElem_self hlt
    rw [e2]; exact h
  · rcases hform with ⟨hv,hx,_⟩ | ⟨g,o,cap,cur,h1,h2,h3,h4,h5,h6,h7⟩
    · rw [hx] at hm; simp at hm; omega
    injection h1 with e1 e2 e3
    subst e1 e2 e3
    have hck: ¬c=k:=by omega
    rw [if_neg hck,Option.map_some,add_lit,Nat.mul_one]
    have hH:Holds (Value.int .i64) w g (o+k) (xs.drop k).toArray:=fun j hj=>by
      have hj':j<(xs.drop k).length:=by simpa using hj
      rw [List.length_drop] at hj'
      refine ⟨?_,frozen_of_row h3⟩
      rw [cell_of_row h3,Nat.add_assoc,h7 (k+j) (by omega),List.getElem?_map,List.getElem?_eq_getElem (by omega)]
      simp [show k+j<xs.length by omega]
    have hl:(xs.drop k).length=xs.length-k:=List.length_drop
    have hr:=AnyG.slices_Reverse_int Y g (o+k) (c-k) (xs.drop k) w hH (by omega)
    rw [hl] at hr
    refine hr.mono fun e w' ⟨he,q,hw'⟩=>?_
    have hheap:w'.heap[g]? =some (.cells (putCells (Value.int .i64) (o+k) (xs.drop k).reverse.toArray cur) et (0,0)):=by
      rw [hw']
      simp only [putRow,mapBlock,Sort.ahead,Array.getElem?_modify,if_true,h3,Option.map_some,onCells]
    have hf:Fr (fun b=>blkOf (.slice (some ⟨g,o,none⟩) xs.length c)=some b) w w':=by
      rw [hw']
      refine ⟨rfl,rfl,rfl,by simp [putRow,mapBlock,Sort.ahead],fun b hb hn=>?_,Nat.le_add_right _ _⟩
      have hgk:g≠b:=fun h=>hn (by rw [←h]; rfl)
      simp [putRow,mapBlock,Sort.ahead,Array.getElem?_modify,hgk]
    have hrl:(xs.take k++(xs.drop k).reverse).length=xs.length:=by simp; omega
    refine ⟨_,he,rfl,h.turn hi hf (.inl rfl) fun O hO=>?_,hf⟩
    show Own O w' et (.int .i64) _ _ (some g)
    refine ⟨(xs.take k++(xs.drop k).reverse).map (Value.int .i64),?_,ints_elems fun x hx=>?_⟩
    · rw [hrl]
      refine own_row (n:=xs.length) hheap (by omega) h5 (by simpa [putCells] using h6) (by rw [List.length_map,hrl]) fun j hj=>?_
      simp only [putCells,Array.getElem?_mapIdx,List.getElem?_map]
      have hcur:o+j<cur.size:=by omega
      have hcj:=h7 j hj
      rw [Array.getElem?_eq_getElem hcur] at hcj⊢
      simp only [Option.map_some]
      by_cases hjk:j<k
      · rw [if_neg (by omega),List.getElem?_append_left (by rw [List.length_take]; omega),List.getElem?_take_of_lt hjk,hcj,List.getElem?_map]
      · rw [if_pos (by simp; omega),List.getElem?_append_right (by rw [List.length_take]; omega),List.length_take,show j-min k xs.length=j-k by omega]
        have hjr:j-k<(xs.drop k).reverse.length:=by simp; omega
        rw [List.getElem?_eq_getElem hjr,show o+j-(o+k)=j-k by omega]
        rw [Option.map_some]
        congr 2
        simp only [getElem!_def,List.getElem?_toArray,List.getElem?_eq_getElem hjr]
    · rcases List.mem_append.1 hx with hx | hx
      · exact hsw x (List.mem_of_mem_take hx)
      · exact hsw x (List.mem_of_mem_drop (List.mem_reverse.1 hx))
