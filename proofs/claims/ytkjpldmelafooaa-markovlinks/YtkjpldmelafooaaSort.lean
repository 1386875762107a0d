import Derived.Test.YtkjpldmelafooaaCells
import Derived.Shelf.SlSortCmp.NoneTotal
set_option linter.all false
namespace Go.Proofs.Ytkjpldmelafooaa
namespace Ev
open Go.RowKit Go.Shelf Go.Sort
def sortIdx (n:Nat) (lt:Fin (n+1)→Fin (n+1)→Bool):Array (Fin (n+1)):=pdq lt (Array.ofFn fun i=>i) 0 (n+1) (Lib.bitLen (n+1)) true true
def sortL {α:Type} (cf:α→α→Int) (xs:List α):List α:=
  match h:xs.length with
  | 0=>[]
  | k+1=>(sortIdx k fun p q=>decide (cf (xs[p.1]'(by omega)) (xs[q.1]'(by omega))<0)).toList.map fun p=>xs[p.1]'(by omega)
theorem extract_all {α:Type} (a:Array α) {n:Nat} (h:a.size=n):(a.extract 0 n).toList=a.toList:=by subst h; rw [Array.extract_size]
def swoL {α:Type} (cf:α→α→Int) (xs:List α):Bool:=
  xs.all fun x=>(!decide (cf x x<0))&&xs.all fun y=>xs.all fun z=>(!(decide (cf x y<0)&&decide (cf y z<0)) || decide (cf x z<0))&&(decide (cf x y<0) || decide (cf y z<0) || !decide (cf x z<0))
theorem swoL_swo {α:Type} {cf:α→α→Int} {xs:List α} (h:swoL cf xs=true) {k:Nat} (hk:xs.length=k+1):SWO (ltOf fun p q:Fin (k+1)=>cf (xs[p.1]'(by omega)) (xs[q.1]'(by omega))):=by
  have hx:=List.all_eq_true.1 h
  have m: ∀p:Fin (k+1),xs[p.1]'(by omega)∈xs:=fun p=>List.getElem_mem _
  refine ⟨fun p=>?_,fun p q r h1 h2=>?_,fun p q r h1 h2=>?_⟩
  · have:=hx _ (m p)
    rw [Bool.and_eq_true] at this
    simpa [ltOf] using this.1
  · have h3:=hx _ (m p)
    rw [Bool.and_eq_true] at h3
    have h4:=List.all_eq_true.1 (List.all_eq_true.1 h3.2 _ (m q)) _ (m r)
    unfold ltOf at h1 h2⊢
    rw [h1,h2] at h4
    simpa using h4
  · have h3:=hx _ (m p)
    rw [Bool.and_eq_true] at h3
    have h4:=List.all_eq_true.1 (List.all_eq_true.1 h3.2 _ (m q)) _ (m r)
    unfold ltOf at h1 h2⊢
    rw [h1,h2] at h4
    simpa using h4
theorem sortL_perm {α:Type} {cf:α→α→Int} {xs:List α} (h:swoL cf xs=true):(sortL cf xs).Perm xs∧(sortL cf xs).Pairwise (fun x y=> ¬cf y x<0):=by
  unfold sortL
  split
  · rename_i h0
    obtain rfl:=List.eq_nil_of_length_eq_zero h0
    exact ⟨.refl _,.nil⟩
  · rename_i k hk
    obtain ⟨⟨p1,p2,p3⟩,s1⟩:=pdq_sorts _ (swoL_swo h hk) (Array.ofFn fun i=>i) 0 (k+1) (Lib.bitLen (k+1)) true true (Nat.zero_le _) (by simp) (Or.inl rfl)
    have hsz:(sortIdx k fun p q=>decide (cf (xs[p.1]'(by omega)) (xs[q.1]'(by omega))<0)).size=k+1:=by
      unfold sortIdx; exact p1.trans (by simp)
    refine ⟨?_,?_⟩
    · have e1:((Array.ofFn fun i:Fin (k+1)=>i).extract 0 (k+1)).toList=List.ofFn fun i:Fin (k+1)=>i:=(extract_all _ (by simp)).trans (by simp)
      have e2:((sortIdx k fun p q=>decide (cf (xs[p.1]'(by omega)) (xs[q.1]'(by omega))<0)).extract 0 (k+1)).toList=(sortIdx k fun p q=>decide (cf (xs[p.1]'(by omega)) (xs[q.1]'(by omega))<0)).toList:=extract_all _ hsz
      have hp:(sortIdx k fun p q=>decide (cf (xs[p.1]'(by omega)) (xs[q.1]'(by omega))<0)).toList.Perm (List.ofFn fun i:Fin (k+1)=>i):=by
        rw [←e1,←e2]; exact p3
      refine (hp.map _).trans (List.Perm.of_eq ?_)
      rw [List.map_ofFn]
      apply List.ext_getElem?
      intro i
      rw [List.getElem?_ofFn]
      split
      · rename_i hi
        rw [List.getElem?_eq_getElem (by omega)]; rfl
      · rw [List.getElem?_eq_none (by omega)]
    · rw [List.pairwise_map,List.pairwise_iff_getElem]
      intro i j hi hj hij
      have:=s1 i j (Nat.zero_le _) hij (by simpa [hsz] using hj)
      have gi:(sortIdx k fun p q=>decide (cf (xs[p.1]'(by omega)) (xs[q.1]'(by omega))<0)).toList[i]=(sortIdx k fun p q=>decide (cf (xs[p.1]'(by omega)) (xs[q.1]'(by omega))<0))[i]! :=by
        rw [Array.getElem_toList,getElem!_pos]
      have gj:(sortIdx k fun p q=>decide (cf (xs[p.1]'(by omega)) (xs[q.1]'(by omega))<0)).toList[j]=(sortIdx k fun p q=>decide (cf (xs[p.1]'(by omega)) (xs[q.1]'(by omega))<0))[j]! :=by
        rw [Array.getElem_toList,getElem!_pos]
      rw [gi,gj]
      have h9:decide (cf (xs[((sortIdx k fun p q=>decide (cf (xs[p.1]'(by omega)) (xs[q.1]'(by omega))<0))[j]!).1]'(by omega)) (xs[((sortIdx k fun p q=>decide (cf (xs[p.1]'(by omega)) (xs[q.1]'(by omega))<0))[i]!).1]'(by omega))<0)=false:=this
      exact of_decide_eq_false h9
theorem grow_of_fr {w w':World} (h:Fr (fun _=>False) w w'): ∃q os,w'=grow (w.drewN q) os:=by
  refine ⟨w'.drawn-w.drawn,w'.heap.extract w.heap.size w'.heap.size,?_⟩
  have h1:w'.heap=w.heap++w'.heap.extract w.heap.size w'.heap.size:=by
    apply Array.ext_getElem?
    intro i
    rcases Nat.lt_or_ge i w.heap.size with hi | hi
    · rw [Array.getElem?_append_left hi,h.block i hi id]
    · rw [Array.getElem?_append_right hi,Array.getElem?_extract]
      by_cases h2:i<w'.heap.size
      · rw [if_pos (by omega),show w.heap.size+(i-w.heap.size)=i by omega]
      · rw [if_neg (by have:=h.size; omega),Array.getElem?_eq_none (by omega)]
  have h2:=h.os
  have h3:=h.tape
  have h4:=h.output
  have h5:=h.drawn
  cases w with
  | mk hp tp dr os ou=>
    cases w' with
    | mk hp' tp' dr' os' ou'=>
      simp only [grow,World.drewN] at*
      subst h2 h3 h4
      rw [←h1]
      congr 1
      omega
section
variable {I : Nat → Prop} {O0 : List Nat} {w0 w w' : World} {L : List Fact}
