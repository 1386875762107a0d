import Derived.Test.YtkjpldmelafooaaCells
import Derived.Shelf.Spec.SlicesInsert
import Derived.Shelf.Spec.SlicesInsertGrow
import Derived.Shelf.Slices.Delete
set_option linter.all false
namespace Go.Proofs.Ytkjpldmelafooaa
namespace Ev
open Go.RowKit Go.Shelf Go.Sort

def insF (s:List Int) (i:Int) (v:List Int):Option (List Int):=if 0≤i∧i≤s.length∧0<v.length∧s.length+v.length≤1099511627776 then some (s.take i.toNat++v++s.drop i.toNat) else none
def delF (s:List Int) (i j:Int):Option (List Int):=if 0≤i∧i≤j∧j≤s.length∧0<s.length then some (s.take i.toNat++s.drop j.toNat) else none


theorem ins_get {s v:List Value} {i m k:Nat} (hv:v.length=m) (hi:i≤s.length):(s.take i++v++s.drop i)[k]? =if k<i then s[k]? else if k<i+m then v[k-i]? else s[k-m]? :=by
 have hl:(s.take i).length=i:=by rw [List.length_take]; omega
 rw [List.append_assoc]
 by_cases h1:k<i
 · rw [if_pos h1,List.getElem?_append_left (by omega),List.getElem?_take_of_lt h1]
 ·
  rw [if_neg h1,List.getElem?_append_right (by omega),hl]
  by_cases h2:k<i+m
  · rw [if_pos h2,List.getElem?_append_left (by omega)]
  ·
   rw [if_neg h2,List.getElem?_append_right (by omega),List.getElem?_drop]
   congr 1; omega

theorem insert_calls {P:Program} {ρ:Ren} (L:Lays2.n21 P ρ) {O0:List Nat} {w:World} (hO: ∀k∈O0,k<w.heap.size) {A Av:Option Addr} {mx cx mv cv:Nat} {s v:List Int} {i:Int} {S:Nat→Prop} {Bs:List Fact}
  (hBs:Bs=[.own (ρ.t 3) (.int .i64) (.slice A mx cx) s,.own (ρ.t 3) (.int .i64) (.slice Av mv cv) v]) (hS:S=fun k=>k∈blocks Bs)
  (hio:Tk O0 w Bs) {r:List Int} (hb:insF s i v=some r):
  Calls P (ρ.f 21) #[.slice A mx cx,.int .i64 i,.slice Av mv cv] w fun e w'=> ∃v',e=.returned v'∧∃(A1:Option Addr) (m1 c1:Nat),v'=.slice A1 m1 c1∧
   Cx S O0 w w' [.own (ρ.t 3) (.int .i64) (.slice A1 m1 c1) r]:=by
 unfold insF at hb
 split at hb
 rotate_left
 · cases hb
 rename_i hcond
 obtain ⟨hi0,hi1,hv0,hlen⟩:=hcond
 injection hb with hb
 obtain ⟨i,rfl⟩:=Int.eq_ofNat_of_zero_le hi0
 simp only [Int.toNat_natCast] at hb
 have hi:i≤s.length:=by omega
 subst hBs
 -- v
 have hownv:Own O0 w (ρ.t 3) (.int .i64) (.slice Av mv cv) v (blkOf (.slice Av mv cv)):=hio.1 (.own (ρ.t 3) (.int .i64) (.slice Av mv cv) v) (List.mem_cons_of_mem _ List.mem_cons_self)
 have hown:Own O0 w (ρ.t 3) (.int .i64) (.slice A mx cx) s (blkOf (.slice A mx cx)):=hio.1 (.own (ρ.t 3) (.int .i64) (.slice A mx cx) s) List.mem_cons_self
 obtain ⟨hvw,hformv⟩:=own_ints hownv
 obtain ⟨hsw,hform⟩:=own_ints hown
 rcases hformv with ⟨_,hv1,_⟩ | ⟨vb,voff,vcap,vcur,hv1,hv2,hv3,hv4,hv5,hv6,hv7⟩
 · rw [hv1] at hv0; simp at hv0
 injection hv1 with e1 e2 e3
 subst e1 e2 e3
 have hvc: ∀j u,(v.map (Value.int .i64))[j]? =some u→w.cell? ⟨vb,voff+j,none⟩=some u:=fun j u hu=>by
  rw [cell_of_row hv3,hv7 j (by have:=(List.getElem?_eq_some_iff.1 hu).1; simpa using this),hu]
 have hw1: ∀x∈r,IntKind.i64.wrap x=x:=by
  intro x hx
  rw [←hb] at hx
  simp only [List.mem_append] at hx
  rcases hx with (hx | hx) | hx
  · exact hsw x (List.mem_of_mem_take hx)
  · exact hvw x hx
  · exact hsw x (List.mem_of_mem_drop hx)
 have hrl:r.length=s.length+v.length:=by rw [←hb]; simp; omega
 have h1v: ∀u∈v.map (Value.int .i64),u.oneCell'=true:=fun u hu=>by obtain ⟨x,_,rfl⟩:=List.mem_map.1 hu; rfl
 have h1s: ∀u∈s.map (Value.int .i64),u.oneCell'=true:=fun u hu=>by obtain ⟨x,_,rfl⟩:=List.mem_map.1 hu; rfl
 have hvl:(v.map (Value.int .i64)).length=v.length:=by simp
 have hslm:(s.map (Value.int .i64)).length=s.length:=by simp
 have hrm:r.map (Value.int .i64)=(s.map (Value.int .i64)).take i++v.map (Value.int .i64)++(s.map (Value.int .i64)).drop i:=by rw [←hb]; simp [List.map_take,List.map_drop]
 have hget: ∀k,(r.map (Value.int .i64))[k]? =if k<i then (s.map (Value.int .i64))[k]? else if k<i+v.length then (v.map (Value.int .i64))[k-i]? else (s.map (Value.int .i64))[k-v.length]? :=fun k=>by
  rw [hrm]; exact ins_get hvl (by rw [hslm]; exact hi)
 have hbig:(s.length+v.length)*8≤140737488355328:=by omega
 -- a new row
 have fresh: ∀(w':World) (cur:Array Value) (cap:Nat),Fr S w w'→w'.heap[w.heap.size]? =some (.cells cur (ρ.t 3) (0,0))→r.length≤cap→cap≤9223372036854775807→cap≤cur.size→
   (∀j,j<r.length→cur[j]? =(r.map (Value.int .i64))[j]?)→Cx S O0 w w' [.own (ρ.t 3) (.int .i64) (.slice (some ⟨w.heap.size,0,none⟩) r.length cap) r]:=by
  intro w' cur cap hf hh h1 h2 h3 h4
  exact cx_row hO hf (G:=w.heap.size) rfl (.inl (Nat.le_refl _)) (own_row hh h1 h2 (by omega) (by simp) (fun j hj=>by rw [Nat.zero_add]; exact h4 j hj)) hw1
 have hgc: ∀old,s.length+v.length≤grownCap w (s.length+v.length) old (ρ.t 3)∧grownCap w (s.length+v.length) old (ρ.t 3)≤9223372036854775807:=fun old=>by
  have h1:=grownCap_ge w (s.length+v.length) old (ρ.t 3)
  have h2:=grownCap_le_maxLen w (s.length+v.length) old (ρ.t 3) (by simp only [maxLen]; omega)
  simp only [maxLen] at h2
  exact ⟨h1,h2⟩
 have hz:(Value.int .i64 0).cells=#[.int .i64 0]:=rfl
 rcases hform with ⟨h1,h2,_⟩ | ⟨g,o,cap,cur,h1,h2,h3,h4,h5,h6,h7⟩
 ·
  -- nil
  injection h1 with e1 e2 e3
  subst e1 e2 e3 h2
  have hi':i=0:=by simpa using hi
  subst hi'
  obtain ⟨c1,c2⟩:=hgc 0
  simp only [List.length_nil,Nat.zero_add] at c1 c2
  refine (Any2.slices_Insert_int_end_grow L none 0 0 vb voff v.length cv [] (v.map (Value.int .i64)) w hv0 (Nat.le_refl _) (by omega) (by simp at hbig; omega) rfl hvl (fun _=>rfl) (by simp) hvc h1v).mono fun e w' ⟨he,hw'⟩=>?_
  simp only [Nat.zero_add] at he hw'
  have hrv:r=v:=by rw [←hb]; simp
  subst hrv
  refine ⟨_,he,some ⟨w.heap.size,0,none⟩,_,_,rfl,?_⟩
  refine fresh w' _ _ ?_ (by rw [hw']; exact Go.heap_alloc_new w.drew _) c1 c2 ?_ fun j hj=>?_
  · rw [hw']; exact drew_fr (Fr.alloc w.drew _ _)
  · simp [size_zeroCells,hz]; omega
  ·
   rw [List.nil_append,Array.getElem?_append_left (by simpa using hj)]
   simp
 ·
  injection h1 with e1 e2 e3
  subst e1 e2 e3
  have hvb:vb≠g:=fun h=>by
   have:=hio.2.1
   simp [blocks,Fact.blk,blkOf,h] at this
  have hSg:S g:=by rw [hS]; simp [blocks,Fact.blk,blkOf]
  have hcs: ∀j u,(s.map (Value.int .i64))[j]? =some u→w.cell? ⟨g,o+j,none⟩=some u:=fun j u hu=>by
   rw [cell_of_row h3,h7 j (by have:=(List.getElem?_eq_some_iff.1 hu).1; simpa using this),hu]
  by_cases hroom:s.length+v.length≤cx
  ·
   have hsome: ∀j,j<s.length+v.length→(w.cell? ⟨g,o+j,none⟩).isSome=true:=fun j hj=>by
    rw [cell_of_row h3]; simp; omega
   have inplace: ∀(w':World) (cur':Array Value),Fr S w w'→w'.heap[g]? =some (.cells cur' (ρ.t 3) (0,0))→cur'.size=cur.size→(∀j,j<r.length→cur'[o+j]? =(r.map (Value.int .i64))[j]?)→
     Cx S O0 w w' [.own (ρ.t 3) (.int .i64) (.slice (some ⟨g,o,none⟩) r.length cx) r]:=fun w' cur' hf hh hsz hj=>
    cx_row hO hf (G:=g) rfl (.inr hSg) (own_row hh (by omega) h5 (by omega) (by simp) hj) hw1
   by_cases hin:i<s.length
   ·
    refine (Any2.slices_Insert_int_shift L g o s.length cx i vb voff v.length cv (s.map (Value.int .i64)) (v.map (Value.int .i64)) w hin hv0 hroom h5 hvb hslm hvl hcs hsome (fun j _=>frozen_of_row h3) hvc h1s h1v
     (ρ.t 3) (ρ.t 3) vcur.size cur.size (by simp [World.shape?,hv3]) (by simp [World.shape?,h3]) (by omega) (frozen_of_row hv3) (frozen_of_row hv3)).mono fun e w' ⟨he,hw'⟩=>?_
    refine ⟨_,he,some ⟨g,o,none⟩,_,_,rfl,?_⟩
    obtain ⟨c1,k1,k2,k3⟩:=qhj ((s.map (Value.int .i64)).drop i) (o+(i+v.length)) w.drew cur h3
    obtain ⟨c2,k4,k5,k6⟩:=qhj (v.map (Value.int .i64)) (o+i) _ c1 k1
    rw [←hw'] at k4
    rw [←hrl]
    refine inplace w' c2 ?_ k4 (by omega) fun j hj=>?_
    ·
     rw [hw']
     exact drew_fr ((Fr.setCells _ _ _ (.inl hSg)).trans (Fr.setCells _ _ _ (.inl hSg)))
    ·
     rw [k6 _ (by omega),hget j]
     simp only [hvl]
     by_cases j1:j<i
     · rw [if_pos j1,if_neg (by omega),k3 _ (by omega),if_neg (by omega),h7 j (by omega)]
     ·
      rw [if_neg j1]
      by_cases j2:j<i+v.length
      · rw [if_pos j2,if_pos (by omega)]; congr 1; omega
      · rw [if_neg j2,if_neg (by omega),k3 _ (by omega),if_pos (by rw [List.length_drop,hslm]; omega),List.getElem?_drop]; congr 1; omega
   ·
    have hin':i=s.length:=by omega
    subst hin'
    refine (Any2.slices_Insert_int_end_room L g o s.length cx vb voff v.length cv (v.map (Value.int .i64)) w hv0 hroom h5 hvl (fun j hj=>by rw [Nat.add_assoc]; exact hsome _ (by omega)) (fun j _=>frozen_of_row h3) hvc h1v).mono fun e w' ⟨he,hw'⟩=>?_
    refine ⟨_,he,some ⟨g,o,none⟩,_,_,rfl,?_⟩
    obtain ⟨c1,k1,k2,k3⟩:=qhj (v.map (Value.int .i64)) (o+s.length) w cur h3
    rw [←hw'] at k1
    rw [←hrl]
    refine inplace w' c1 ?_ k1 (by omega) fun j hj=>?_
    · rw [hw']; exact Fr.setCells _ _ _ (.inl hSg)
    ·
     rw [k3 _ (by omega),hget j]
     simp only [hvl]
     by_cases j1:j<s.length
     · rw [if_pos j1,if_neg (by omega),h7 j j1]
     · rw [if_neg j1,if_pos (by omega),if_pos (by omega)]; congr 1; omega
  ·
   obtain ⟨c1,c2⟩:=hgc cx
   by_cases hin:i<s.length
   ·
    refine (Any2.slices_Insert_int_grow L g o s.length cx i vb voff v.length cv (s.map (Value.int .i64)) (v.map (Value.int .i64)) w hin hv0 h4 (by omega) hbig hslm hvl hcs hvc h1s h1v).mono fun e w' ⟨he,hw'⟩=>?_
    refine ⟨_,he,some ⟨w.heap.size,0,none⟩,_,_,rfl,?_⟩
    have hh:=Go.heap_alloc_new w (.cells (((s.map (Value.int .i64)).take i).toArray++Builtin.zeroCells (Value.int .i64 0).cells (s.length+v.length-i)++Builtin.zeroCells (Value.int .i64 0).cells (grownCap w (s.length+v.length) cx (ρ.t 3)-(s.length+v.length))) (ρ.t 3))
    obtain ⟨d1,k1,k2,k3⟩:=qhj (g:=w.heap.size) (v.map (Value.int .i64)) i (World.drew (w.alloc _)) _ hh
    obtain ⟨d2,k4,k5,k6⟩:=qhj (g:=w.heap.size) ((s.map (Value.int .i64)).drop i) (i+v.length) (World.drew _) d1 k1
    rw [←hw'] at k4
    rw [←hrl]
    have hsz:(((s.map (Value.int .i64)).take i).toArray++Builtin.zeroCells (Value.int .i64 0).cells (s.length+v.length-i)++Builtin.zeroCells (Value.int .i64 0).cells (grownCap w (s.length+v.length) cx (ρ.t 3)-(s.length+v.length))).size=grownCap w (s.length+v.length) cx (ρ.t 3):=by
     simp [size_zeroCells,hz]; omega
    rw [hsz] at k2 k3
    rw [k2] at k5 k6
    rw [←hrl] at c1 c2 k3 k5 k6
    refine fresh w' d2 _ ?_ k4 c1 c2 (by omega) fun j hj=>?_
    ·
     rw [hw']
     have q1:Fr S w (World.drew (w.alloc (.cells (((s.map (Value.int .i64)).take i).toArray++Builtin.zeroCells (Value.int .i64 0).cells (s.length+v.length-i)++Builtin.zeroCells (Value.int .i64 0).cells (grownCap w (s.length+v.length) cx (ρ.t 3)-(s.length+v.length))) (ρ.t 3)))):=(Fr.alloc w S _).trans (Fr.drew _ S)
     have keep: ∀(W:World) (vs:List Value) (o:Nat),Fr S w W→Fr S w (W.setCells w.heap.size o vs):=fun W vs o h=>h.trans' (S':=fun k=>k=w.heap.size) (Fr.setCells vs o W (.inl rfl)) (fun k hk hh=>by omega)
     exact keep _ _ _ ((keep _ _ _ q1).trans (Fr.drew _ S))
    ·
     rw [k6 j (by omega),hget j]
     by_cases j1:j<i
     ·
      rw [if_pos j1,if_neg (by omega),k3 _ (by omega),if_neg (by omega),Array.getElem?_append_left (by simp [size_zeroCells,hz]; omega),Array.getElem?_append_left (by simp; omega)]
      rw [List.getElem?_toArray,List.getElem?_take_of_lt j1]
     ·
      rw [if_neg j1]
      by_cases j2:j<i+v.length
      · rw [if_pos j2,if_neg (by omega),k3 _ (by omega),if_pos (by omega)]
      · rw [if_neg j2,if_pos (by rw [List.length_drop,hslm]; omega),List.getElem?_drop]; congr 1; omega
   ·
    have hin':i=s.length:=by omega
    subst hin'
    refine (Any2.slices_Insert_int_end_grow L (some ⟨g,o,none⟩) s.length cx vb voff v.length cv (s.map (Value.int .i64)) (v.map (Value.int .i64)) w hv0 h4 (by omega) hbig hslm hvl (fun h=>by cases h) (fun a ha j u hu=>by
     injection ha with ha; subst ha; rw [Addr.add_lit]; exact hcs j u hu) hvc h1v).mono fun e w' ⟨he,hw'⟩=>?_
    refine ⟨_,he,some ⟨w.heap.size,0,none⟩,_,_,rfl,?_⟩
    rw [←hrl] at c1 c2⊢
    refine fresh w' _ _ ?_ (by rw [hw']; exact Go.heap_alloc_new w.drew _) c1 c2 ?_ fun j hj=>?_
    · rw [hw']; exact drew_fr (Fr.alloc w.drew _ _)
    · rw [←hrl]; simp [size_zeroCells,hz]; omega
    ·
     rw [Array.getElem?_append_left (by simp; omega),List.getElem?_toArray,hrm]
     rw [List.take_of_length_le (by omega),List.drop_eq_nil_of_le (by omega),List.append_nil]

theorem delete_calls {P:Program} {ρ:Ren} (L:Lays2.n23 P ρ) {O0:List Nat} {w:World} (hO: ∀k∈O0,k<w.heap.size) {A:Option Addr} {mx cx:Nat} {s:List Int} {i j:Int} {S:Nat→Prop} {Bs:List Fact}
  (hBs:Bs=[.own (ρ.t 3) (.int .i64) (.slice A mx cx) s]) (hS:S=fun k=>k∈blocks Bs)
  (hio:Tk O0 w Bs) {r:List Int} (hb:delF s i j=some r):
  Calls P (ρ.f 23) #[.slice A mx cx,.int .i64 i,.int .i64 j] w fun e w'=> ∃v',e=.returned v'∧∃(A1:Option Addr) (m1 c1:Nat),v'=.slice A1 m1 c1∧
   Cx S O0 w w' [.own (ρ.t 3) (.int .i64) (.slice A1 m1 c1) r]:=by
 unfold delF at hb
 split at hb
 rotate_left
 · cases hb
 rename_i hcond
 obtain ⟨hi0,hi1,hj1,h0⟩:=hcond
 injection hb with hb
 obtain ⟨i,rfl⟩:=Int.eq_ofNat_of_zero_le hi0
 obtain ⟨j,rfl⟩:=Int.eq_ofNat_of_zero_le (Int.le_trans hi0 hi1)
 simp only [Int.toNat_natCast] at hb
 subst hBs
 have hown:Own O0 w (ρ.t 3) (.int .i64) (.slice A mx cx) s (blkOf (.slice A mx cx)):=hio.1 (.own (ρ.t 3) (.int .i64) (.slice A mx cx) s) List.mem_cons_self
 obtain ⟨hsw,hform⟩:=own_ints hown
 rcases hform with ⟨_,hv1,_⟩ | ⟨g,o,cap,cur,h1,h2,h3,h4,h5,h6,h7⟩
 · rw [hv1] at h0; simp at h0
 injection h1 with e1 e2 e3
 subst e1 e2 e3
 have hSg:S g:=by rw [hS]; simp [blocks,Fact.blk,blkOf]
 have hH:Holds (Value.int .i64) w g o s.toArray:=fun k hk=>by
  have hk':k<s.length:=by simpa using hk
  refine ⟨?_,frozen_of_row h3⟩
  rw [cell_of_row h3,h7 k hk',List.getElem?_map,List.getElem?_eq_getElem hk']
  simp [hk']
 have hw1: ∀x∈r,IntKind.i64.wrap x=x:=by
  intro x hx
  rw [←hb] at hx
  simp only [List.mem_append] at hx
  rcases hx with hx | hx
  · exact hsw x (List.mem_of_mem_take hx)
  · exact hsw x (List.mem_of_mem_drop hx)
 have hrl:r.length=s.length-(j-i):=by rw [←hb]; simp; omega
 refine (Any.slices_Delete_int L g o cx i j s w hH h4 h5 (by omega) (by omega)).mono fun e w' ⟨he,q,hw'⟩=>?_
 refine ⟨_,he,some ⟨g,o,none⟩,_,_,rfl,?_⟩
 rw [←hrl]
 have hheap:w'.heap[g]? =some (.cells (putCells (Value.int .i64) o (s.take i++s.drop j++List.replicate (j-i) 0).toArray cur) (ρ.t 3) (0,0)):=by
  rw [hw']
  simp only [putRow,mapBlock,Sort.ahead,Array.getElem?_modify,if_true,h3,Option.map_some,onCells]
 have hf:Fr S w w':=by
  rw [hw']
  refine ⟨rfl,rfl,rfl,by simp [putRow,mapBlock,Sort.ahead],fun k hk hn=>?_,Nat.le_add_right _ _⟩
  have hgk:g≠k:=fun h=>hn (h▸hSg)
  simp [putRow,mapBlock,Sort.ahead,Array.getElem?_modify,hgk]
 refine cx_row hO hf (G:=g) rfl (.inr hSg) (own_row hheap (by omega) h5 (by simpa [putCells] using h6) (by simp) fun k hk=>?_) hw1
 have hlen:(s.take i++s.drop j++List.replicate (j-i) (0:Int)).length=s.length:=by simp; omega
 have hkk:(s.take i++s.drop j++List.replicate (j-i) (0:Int))[k]? =r[k]? :=by
  rw [List.getElem?_append_left (by rw [hb]; exact hk),hb]
 have hcur:o+k<cur.size:=by omega
 simp only [putCells,Array.getElem?_mapIdx,List.getElem?_map]
 rw [Array.getElem?_eq_getElem hcur]
 simp only [Option.map_some]
 rw [if_pos (by simp only [List.size_toArray,hlen]; omega)]
 rw [List.getElem?_eq_getElem hk] at hkk⊢
 simp only [Option.map_some]
 congr 2
 rw [Nat.add_sub_cancel_left]
 rw [List.append_assoc] at hkk
 simp [getElem!_def,hkk]
