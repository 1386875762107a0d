import Derived.Test.YticemffhlapnnaaPRcrs
import Derived.Test.YticemffhlapnnaaPRpg
set_option linter.all false
namespace Go.Proofs.Yticemffhlapnnaa
open Ev
namespace Gl
open Gar
def tab {α:Type} (N:Nat) (f:Nat→α):List α:=(List.range N).map f
section
variable {α : Type} {N : Nat} {f g : Nat → α}
theorem tab_len:(tab N f).length=N:=by simp [tab]
theorem tab_at {k:Nat} (h:k<N):(tab N f)[k]? =some (f k):=by simp [tab,h]
theorem tab_none {k:Nat} (h:N≤k):(tab N f)[k]? =none:=by simp [tab]; omega
theorem get_tab {z:Int} {k:Nat} (h0:z=(k:Int)) (h1:k<N):Ev.get (tab N f) z=some (f k):=get_at h0 (tab_at h1)
theorem qek (h: ∀k,k<N→f k=g k):tab N f=tab N g:=List.map_congr_left fun k hk=>h k (List.mem_range.1 hk)
theorem tab_set (k:Nat) (v:α):(tab N f).set k v=tab N (fun j=>if j=k then v else f j):=by
 apply List.ext_getElem?
 intro j
 rw [List.getElem?_set]
 by_cases h:k=j
 ·
  subst h
  rw [if_pos rfl,tab_len]
  by_cases h1:k<N
  · rw [if_pos h1,tab_at h1,if_pos rfl]
  · rw [if_neg h1,tab_none (by omega)]
 ·
  rw [if_neg h]
  by_cases h1:j<N
  · rw [tab_at h1,tab_at h1,if_neg (Ne.symm h)]
  · rw [tab_none (by omega),tab_none (by omega)]
theorem tab_rep (v:α):List.replicate N v=tab N (fun _=>v):=by
 apply List.ext_getElem?
 intro j
 by_cases h:j<N
 · rw [tab_at h]; simp [h]
 · rw [tab_none (by omega)]; simp; omega
theorem tab_of (l:List α) (d:α):l=tab l.length (fun k=>l.getD k d):=by
 apply List.ext_getElem?
 intro j
 by_cases h:j<l.length
 · rw [tab_at h,gE h,List.getD_eq_getElem?_getD,gE h,Option.getD_some]
 · rw [tab_none (by omega),List.getElem?_eq_none (by omega)]
theorem tab_rev:(tab N f).reverse=tab N (fun k=>f (N-1-k)):=by
 apply List.ext_getElem?
 intro j
 by_cases h:j<N
 · rw [List.getElem?_reverse (by rw [tab_len]; exact h),tab_len,tab_at h,tab_at (by omega)]
 · rw [tab_none (by omega),List.getElem?_eq_none (by rw [List.length_reverse,tab_len]; omega)]
end
theorem revPass (l:List (Int×Int)) (hl:l.length≤100000) (n:Nat) (hn:l.length<n):F.qca n l=some l.reverse:=by
 obtain ⟨N,f,rfl,hN⟩: ∃(N:Nat) (f:Nat→Int×Int),l=tab N f∧N=l.length:=⟨_,_,tab_of l (0,0),rfl⟩
 rw [tab_rev]
 rw [tab_len] at hl hn
 unfold F.qca
 rw [tab_len,qak (by omega) (by omega),bB]
 have:=qbp (body:=F.qbw n) (fun k=>((k:Int),(N:Int)-1-(k:Int),tab N (fun x=>if x<k∨N<x+k+1 then f (N-1-x) else f x))) (N/ 2) (r:=(((N/ 2:Nat):Int),(N:Int)-1-((N/ 2:Nat):Int),tab N fun x=>f (N-1-x))) (fun k hk=>by
  unfold F.qbw
  dsimp only
  have e1:(N:Int)-1-(k:Int)=((N-1-k:Nat):Int):=by omega
  rw [dT (by omega),kT,get_tab e1 (by omega),bB,get_tab rfl (by omega),bB,bB]
  rw [show (k:Int).toNat=k by omega,show ((N:Int)-1-(k:Int)).toNat=N-1-k by omega,if_neg (by omega),if_neg (by omega),tab_set,get_tab e1 (by omega),bB,qak (by omega) (by omega),bB,qak (by omega) (by omega),bB,tab_set]
  rw [show (N:Int)-1-(k:Int)-1=(N:Int)-1-((k+1:Nat):Int) by omega]
  congr 4
  apply qek
  intro x hx
  by_cases e1:x=N-1-k
  · subst e1; rw [if_pos rfl,if_pos (by omega),show N-1-(N-1-k)=k by omega]
  ·
   rw [if_neg e1]
   by_cases e2:x=k
   · subst e2; rw [if_pos rfl,if_pos (by omega)]
   ·
    rw [if_neg e2]
    by_cases e3:x<k∨N<x+k+1
    · rw [if_pos e3,if_pos (by omega)]
    · rw [if_neg e3,if_neg (by omega)]) (by
  unfold F.qbw
  dsimp only
  rw [dF (by omega),kF]
  congr 4
  apply qek
  intro x hx
  by_cases e3:x<N/ 2∨N<x+N/ 2+1
  · rw [if_pos e3]
  · rw [if_neg e3]; congr 1; omega) n (by omega)
 have e0:tab N f=tab N (fun x=>if x<0∨N<x+0+1 then f (N-1-x) else f x):=qek fun x hx=>(if_neg (by omega)).symm
 rw [e0,show ((0:Int),(N:Int)-1,tab N (fun x=>if x<0∨N<x+0+1 then f (N-1-x) else f x))=((((0:Nat)):Int),(N:Int)-1-(((0:Nat)):Int),tab N (fun x=>if x<0∨N<x+0+1 then f (N-1-x) else f x)) by simp,this,bB]
def segk (a b k:Nat):List Nat:=(List.range k).map fun t=>if a<b then a+t else a-t
def seg (a b:Nat):List Nat:=segk a b (max a b-min a b)
theorem segk_succ (a b k:Nat):segk a b (k+1)=segk a b k++[if a<b then a+k else a-k]:=by simp [segk,List.range_succ]
theorem range_add (a b:Nat):List.range (a+b)=List.range a++(List.range b).map fun t=>a+t:=List.range_add
theorem seg_filter {P:Nat→Bool} {a b n:Nat} (hab:a≠b) (ha:a<n) (hb:b<n) (hP: ∀j,P j=true→min a b<j∧j<max a b):
  (seg a b).filter P=if a<b then (List.range n).filter P else ((List.range n).filter P).reverse:=by
 have hf: ∀j,¬(min a b<j∧j<max a b)→P j=false:=fun j h=>by
  cases e:P j with
  | false=>rfl
  | true=>exact absurd (hP j e) h
 have h1:(List.range n).filter P=((List.range (max a b-min a b)).map fun t=>min a b+t).filter P:=by
  rw [qgk (a:=max a b) (by omega) (fun j h1 h2=>hf j (by omega)),show max a b=min a b+(max a b-min a b) by omega,range_add,List.filter_append,qfu (fun j h=>hf j (by omega)),List.nil_append]
  congr 3
  omega
 by_cases hlt:a<b
 ·
  rw [if_pos hlt,h1]
  unfold seg segk
  congr 1
  apply List.map_congr_left
  intro t _
  rw [if_pos hlt]; omega
 ·
  rw [if_neg hlt]
  have h2:(List.range n).filter P=((List.range (max a b-min a b)).map fun t=>min a b+1+t).filter P:=by
   rw [qgk (a:=max a b+1) (by omega) (fun j h1 h2=>hf j (by omega)),show max a b+1=(min a b+1)+(max a b-min a b) by omega,range_add,List.filter_append,qfu (fun j h=>hf j (by omega)),List.nil_append]
  rw [h2,←List.filter_reverse]
  unfold seg segk
  congr 1
  have:=tab_rev (N:=max a b-min a b) (f:=fun t=>min a b+1+t)
  unfold tab at this
  rw [this]
  apply List.map_congr_left
  intro t ht
  rw [List.mem_range] at ht
  rw [if_neg hlt]; omega
open Gar Pg
def num (L:List (Nat×Nat)) (p:Nat×Nat):Nat:=L.idxOf p
def sgn (x o cx co:Nat→Nat) (p:Nat×Nat):Int:=if (!(decide (x p.1<o p.1) == decide (co p.2<cx p.2)))=true then 1 else -1
def sgl (n:Nat) (x o cx co:Nat→Nat):List Int:=(crl n x o cx co).map (sgn x o cx co)
def vov (L:List (Nat×Nat)) (p:Nat×Nat):Vis:=((num L p:Int),true)
def vun (L:List (Nat×Nat)) (p:Nat×Nat):Vis:=((num L p:Int),false)
def ps (sg:List Int) (v:Vis):Int×Int:=((inH sg v:Int),(outH sg v:Int))
def colV (n:Nat) (x o cx co:Nat→Nat) (i:Nat):List Vis:=((seg (x i) (o i)).filter (cr x o cx co i)).map fun r=>vov (crl n x o cx co) (i,r)
def rowV (n:Nat) (x o cx co:Nat→Nat) (j:Nat):List Vis:=((seg (co j) (cx j)).filter fun i=>cr x o cx co i j).map fun i=>vun (crl n x o cx co) (i,j)
theorem qej {n:Nat} {x o cx co:Nat→Nat} {i j:Nat}:(i,j)∈crl n x o cx co↔i<n∧j<n∧cr x o cx co i j=true:=by
 unfold crl
 simp only [List.mem_flatMap,List.mem_range,List.mem_map,List.mem_filter]
 constructor
 ·
  rintro ⟨a,ha,b,⟨hb1,hb2⟩,e⟩
  cases e
  exact ⟨ha,hb1,hb2⟩
 ·
  rintro ⟨h1,h2,h3⟩
  exact ⟨i,h1,j,⟨h2,h3⟩,rfl⟩
theorem qfg (n:Nat) (x o cx co:Nat→Nat):(crl n x o cx co).Nodup:=by
 unfold crl
 have: ∀k,((List.range k).flatMap fun i=>((List.range n).filter (cr x o cx co i)).map fun j=>(i,j)).Nodup:=by
  intro k
  induction k with
  | zero=>simp
  | succ k ih=>
   rw [List.range_succ,List.flatMap_append,List.nodup_append]
   refine ⟨ih,?_,?_⟩
   ·
    simp only [List.flatMap_cons,List.flatMap_nil,List.append_nil]
    refine qcg (List.Nodup.sublist List.filter_sublist List.nodup_range) fun a _ b _ e=>by cases e; rfl
   ·
    intro a ha b hb e
    simp only [List.flatMap_cons,List.flatMap_nil,List.append_nil,List.mem_map] at hb
    obtain ⟨j,_,rfl⟩:=hb
    simp only [List.mem_flatMap,List.mem_range,List.mem_map] at ha
    obtain ⟨i,hi,j',_,rfl⟩:=ha
    cases e
    omega
 exact this n
theorem num_at {L:List (Nat×Nat)} (hL:L.Nodup) {k:Nat} {p:Nat×Nat} (h:L[k]? =some p):num L p=k:=by
 obtain ⟨hk,rfl⟩:=List.getElem?_eq_some_iff.1 h
 unfold num
 have h1:L.idxOf L[k]<L.length:=List.idxOf_lt_length_of_mem (List.getElem_mem hk)
 have h2:=List.getElem_idxOf h1
 exact (List.getElem?_inj h1 hL).1 (by rw [gE h1,gE hk,h2])
theorem num_lt {L:List (Nat×Nat)} {p:Nat×Nat} (h:p∈L):num L p<L.length:=List.idxOf_lt_length_of_mem h
theorem at_num {L:List (Nat×Nat)} {p:Nat×Nat} (h:p∈L):L[num L p]? =some p:=by
 have h1:=num_lt h
 rw [gE h1]
 unfold num at h1⊢
 rw [List.getElem_idxOf h1]
theorem sgl_at {n:Nat} {x o cx co:Nat→Nat} {p:Nat×Nat} (h:p∈crl n x o cx co):(sgl n x o cx co).getD (num (crl n x o cx co) p) 0=sgn x o cx co p:=by
 unfold sgl
 rw [List.getD_eq_getElem?_getD,List.getElem?_map,at_num h]
 rfl
theorem sgn_or (x o cx co:Nat→Nat) (p:Nat×Nat):sgn x o cx co p=1∨sgn x o cx co p=-1:=by
 unfold sgn
 split
 · exact .inl rfl
 · exact .inr rfl
theorem crl_col {n:Nat} {x o cx co:Nat→Nat} {i:Nat} (hi:i<n):(crl n x o cx co).filter (fun p=>decide (p.1=i))=((List.range n).filter (cr x o cx co i)).map fun j=>(i,j):=by
 unfold crl
 have key: ∀k,((List.range k).flatMap fun i=>((List.range n).filter (cr x o cx co i)).map fun j=>(i,j)).filter (fun p=>decide (p.1=i))=if i<k then ((List.range n).filter (cr x o cx co i)).map (fun j=>(i,j)) else []:=by
  intro k
  induction k with
  | zero=>simp
  | succ k ih=>
   rw [List.range_succ,List.flatMap_append,List.filter_append,ih]
   simp only [List.flatMap_cons,List.flatMap_nil,List.append_nil]
   by_cases e:i=k
   ·
    subst e
    rw [if_neg (by omega),if_pos (by omega),List.nil_append,List.filter_eq_self]
    intro p hp
    obtain ⟨j,_,rfl⟩:=List.mem_map.1 hp
    simp
   ·
    have:(((List.range n).filter (cr x o cx co k)).map fun j=>(k,j)).filter (fun p=>decide (p.1=i))=[]:=by
     rw [List.filter_eq_nil_iff]
     intro p hp
     obtain ⟨j,_,rfl⟩:=List.mem_map.1 hp
     simp [Ne.symm e]
    rw [this,List.append_nil]
    by_cases h:i<k
    · rw [if_pos h,if_pos (by omega)]
    · rw [if_neg h,if_neg (by omega)]
 rw [key n,if_pos hi]
theorem crl_row {n:Nat} {x o cx co:Nat→Nat} {j:Nat} (hj:j<n):(crl n x o cx co).filter (fun p=>decide (p.2=j))=((List.range n).filter fun i=>cr x o cx co i j).map fun i=>(i,j):=by
 unfold crl
 have key: ∀k,((List.range k).flatMap fun i=>((List.range n).filter (cr x o cx co i)).map fun j=>(i,j)).filter (fun p=>decide (p.2=j))=((List.range k).filter fun i=>cr x o cx co i j).map fun i=>(i,j):=by
  intro k
  induction k with
  | zero=>simp
  | succ k ih=>
   rw [List.range_succ,List.flatMap_append,List.filter_append,ih,List.filter_append,List.map_append]
   congr 1
   simp only [List.flatMap_cons,List.flatMap_nil,List.append_nil]
   have h2: ∀m,(((List.range m).filter (cr x o cx co k)).map fun j=>(k,j)).filter (fun p=>decide (p.2=j))=if j<m∧cr x o cx co k j=true then [(k,j)] else []:=by
    intro m
    induction m with
    | zero=>simp
    | succ m ih2=>
     rw [range_step,List.map_append,List.filter_append,ih2]
     by_cases e:j=m
     ·
      subst e
      rw [if_neg (by omega),List.nil_append]
      by_cases h:cr x o cx co k j=true
      · rw [if_pos h,if_pos ⟨by omega,h⟩]; simp
      · rw [if_neg h,if_neg (fun q=>h q.2)]; rfl
     ·
      have:((if cr x o cx co k m=true then [m] else []).map fun j=>(k,j)).filter (fun p=>decide (p.2=j))=[]:=by
       split<;>simp [Ne.symm e]
      rw [this,List.append_nil]
      by_cases h:j<m∧cr x o cx co k j=true
      · rw [if_pos h,if_pos ⟨by omega,h.2⟩]
      · rw [if_neg h,if_neg (fun q=>h ⟨by omega,q.2⟩)]
   rw [h2 n]
   by_cases h:cr x o cx co k j=true
   · rw [if_pos ⟨hj,h⟩]; simp [h]
   · rw [if_neg (fun q=>h q.2)]; simp [h]
 exact key n
section
variable {n : Nat} {x o cx co : Nat → Nat} (g : Gd n x o cx co)
include g
omit g in
theorem Gd.cr_col (g:Gd n x o cx co) {i j:Nat} (h:cr x o cx co i j=true):min (x i) (o i)<j∧j<max (x i) (o i):=by
 unfold cr at h
 simp only [Bool.and_eq_true,decide_eq_true_eq] at h
 exact h.1
omit g in
theorem Gd.cr_row (g:Gd n x o cx co) {i j:Nat} (h:cr x o cx co i j=true):min (co j) (cx j)<i∧i<max (co j) (cx j):=by
 unfold cr at h
 simp only [Bool.and_eq_true,decide_eq_true_eq] at h
 omega
theorem Gd.colV_eq {i:Nat} (hi:i<n):colV n x o cx co i=if x i<o i then ((crl n x o cx co).filter (fun p=>decide (p.1=i))).map (vov (crl n x o cx co)) else (((crl n x o cx co).filter (fun p=>decide (p.1=i))).map (vov (crl n x o cx co))).reverse:=by
 unfold colV
 rw [seg_filter (g.ne i hi) (g.xl hi) (g.ol hi) (fun j h=>g.cr_col h),crl_col hi]
 by_cases h:x i<o i
 · rw [if_pos h,if_pos h,List.map_map]; rfl
 · rw [if_neg h,if_neg h,List.map_map,List.map_reverse]; rfl
theorem Gd.rowV_eq {j:Nat} (hj:j<n):rowV n x o cx co j=if co j<cx j then ((crl n x o cx co).filter (fun p=>decide (p.2=j))).map (vun (crl n x o cx co)) else (((crl n x o cx co).filter (fun p=>decide (p.2=j))).map (vun (crl n x o cx co))).reverse:=by
 unfold rowV
 rw [seg_filter (P:=fun i=>cr x o cx co i j) (fun e=>g.cne hj e.symm) (g.col hj) (g.cxl hj) (fun i h=>g.cr_row h),crl_row hj]
 by_cases h:co j<cx j
 · rw [if_pos h,if_pos h,List.map_map]; rfl
 · rw [if_neg h,if_neg h,List.map_map,List.map_reverse]; rfl
end
open Gar Pg
theorem filter_take_succ {α:Type} {P:α→Bool} {L:List α} {k:Nat} {p:α} (h:L[k]? =some p):(L.take (k+1)).filter P=(L.take k).filter P++(if P p=true then [p] else []):=by
 rw [List.take_add_one,h,Option.toList_some,List.filter_append]
 by_cases e:P p=true
 · rw [if_pos e]; simp [e]
 · rw [if_neg e]; simp [e]
theorem ps_over {sg:List Int} {c:Nat} (h:sg.getD c 0=1):ps sg ((c:Int),true)=(4*(c:Int)+3,4*(c:Int)+1):=by
 unfold ps inH outH
 simp only [Int.toNat_natCast,if_true,h]
 exact Prod.ext (by simp) (by simp)
theorem ps_over' {sg:List Int} {c:Nat} (h:sg.getD c 0≠1):ps sg ((c:Int),true)=(4*(c:Int)+1,4*(c:Int)+3):=by
 unfold ps inH outH
 simp only [Int.toNat_natCast,if_true,if_neg h]
 exact Prod.ext (by simp) (by simp)
theorem ps_under {sg:List Int} {c:Nat}:ps sg ((c:Int),false)=(4*(c:Int),4*(c:Int)+2):=by
 unfold ps inH outH
 exact Prod.ext (by simp) (by simp)
section
variable {n : Nat} {x o cx co : Nat → Nat} (g : Gd n x o cx co)
include g
theorem Gd.seg_loop (hL:(crl n x o cx co).length≤64) (m:Nat) (hm:2000<m):
  loopN m (F.qce m (li n x) (li n o) ((crl n x o cx co).map ip) (li n cx) (li n co)) (([]:List Int),0,tab n (fun _=>([]:List (Int×Int))),tab n (fun _=>([]:List (Int×Int))))=
   some (sgl n x o cx co,((crl n x o cx co).length:Int),tab n (fun i=>((crl n x o cx co).filter (fun p=>decide (p.1=i))).map fun p=>ps (sgl n x o cx co) (vov (crl n x o cx co) p)),tab n (fun j=>((crl n x o cx co).filter (fun p=>decide (p.2=j))).map fun p=>ps (sgl n x o cx co) (vun (crl n x o cx co) p))):=by
 have key:=qbp (body:=F.qce m (li n x) (li n o) ((crl n x o cx co).map ip) (li n cx) (li n co))
  (fun k=>((sgl n x o cx co).take k,(k:Int),tab n (fun i=>(((crl n x o cx co).take k).filter (fun p=>decide (p.1=i))).map fun p=>ps (sgl n x o cx co) (vov (crl n x o cx co) p)),tab n (fun j=>(((crl n x o cx co).take k).filter (fun p=>decide (p.2=j))).map fun p=>ps (sgl n x o cx co) (vun (crl n x o cx co) p))))
  (crl n x o cx co).length (r:=(sgl n x o cx co,((crl n x o cx co).length:Int),tab n (fun i=>((crl n x o cx co).filter (fun p=>decide (p.1=i))).map fun p=>ps (sgl n x o cx co) (vov (crl n x o cx co) p)),tab n (fun j=>((crl n x o cx co).filter (fun p=>decide (p.2=j))).map fun p=>ps (sgl n x o cx co) (vun (crl n x o cx co) p)))) (fun k hk=>?_) ?_ m (by omega)
 · exact key
 ·
  have hn:=g.hi
  obtain ⟨p,hp⟩: ∃p,(crl n x o cx co)[k]? =some p:=⟨_,gE hk⟩
  have hmem:=List.mem_of_getElem? hp
  obtain ⟨i,j⟩:=p
  obtain ⟨hi,hj,hc⟩:=qej.1 hmem
  have hnum:=num_at (qfg n x o cx co) hp
  have hsg:=sgl_at hmem
  rw [hnum] at hsg
  have h1:=g.xl hi
  have h2:=g.ol hi
  have h3:=g.cxl hj
  have h4:=g.col hj
  have hsk:(sgl n x o cx co).take (k+1)=(sgl n x o cx co).take k++[sgn x o cx co (i,j)]:=by
   rw [List.take_add_one]
   unfold sgl
   rw [List.getElem?_map,hp]
   rfl
  have hlt:((sgl n x o cx co).take k).length≤k:=by rw [List.length_take]; omega
  have hfl: ∀P:Nat×Nat→Bool,(((crl n x o cx co).take k).filter P).length≤k:=fun P=>by
   have:=List.length_filter_le P ((crl n x o cx co).take k)
   rw [List.length_take] at this; omega
  have e1:(tab n (fun a=>(((crl n x o cx co).take k).filter (fun p=>decide (p.1=a))).map fun p=>ps (sgl n x o cx co) (vov (crl n x o cx co) p))).set i ((((crl n x o cx co).take k).filter (fun p=>decide (p.1=i))).map (fun p=>ps (sgl n x o cx co) (vov (crl n x o cx co) p))++[ps (sgl n x o cx co) ((k:Int),true)])=
    tab n (fun a=>(((crl n x o cx co).take (k+1)).filter (fun p=>decide (p.1=a))).map fun p=>ps (sgl n x o cx co) (vov (crl n x o cx co) p)):=by
   rw [tab_set]
   refine qek fun a ha=>?_
   rw [filter_take_succ hp]
   by_cases e:a=i
   ·
    subst e
    rw [if_pos rfl,if_pos (by simp),List.map_append]
    congr 1
    simp only [List.map_cons,List.map_nil]
    unfold vov
    rw [hnum]
   · rw [if_neg e,if_neg (by simp; exact fun h=>e h.symm),List.append_nil]
  have e2:(tab n (fun a=>(((crl n x o cx co).take k).filter (fun p=>decide (p.2=a))).map fun p=>ps (sgl n x o cx co) (vun (crl n x o cx co) p))).set j ((((crl n x o cx co).take k).filter (fun p=>decide (p.2=j))).map (fun p=>ps (sgl n x o cx co) (vun (crl n x o cx co) p))++[ps (sgl n x o cx co) ((k:Int),false)])=
    tab n (fun a=>(((crl n x o cx co).take (k+1)).filter (fun p=>decide (p.2=a))).map fun p=>ps (sgl n x o cx co) (vun (crl n x o cx co) p)):=by
   rw [tab_set]
   refine qek fun a ha=>?_
   rw [filter_take_succ hp]
   by_cases e:a=j
   ·
    subst e
    rw [if_pos rfl,if_pos (by simp),List.map_append]
    congr 1
    simp only [List.map_cons,List.map_nil]
    unfold vun
    rw [hnum]
   · rw [if_neg e,if_neg (by simp; exact fun h=>e h.symm),List.append_nil]
  have hgc:Ev.get ((crl n x o cx co).map ip) (k:Int)=some (ip (i,j)):=get_at rfl (by rw [List.getElem?_map,hp]; rfl)
  have hj1: ∀(b:Bool) (a1 a2:Int),(a1,a2)=ps (sgl n x o cx co) ((k:Int),true)→F.qcj m ((sgl n x o cx co).take k) (k:Int)
    (tab n (fun i=>(((crl n x o cx co).take k).filter (fun p=>decide (p.1=i))).map fun p=>ps (sgl n x o cx co) (vov (crl n x o cx co) p))) (tab n (fun j=>(((crl n x o cx co).take k).filter (fun p=>decide (p.2=j))).map fun p=>ps (sgl n x o cx co) (vun (crl n x o cx co) p))) (ip (i,j)) (sgn x o cx co (i,j)) b a1 a2=
    some (.inl ((sgl n x o cx co).take (k+1),((k+1:Nat):Int),tab n (fun i=>(((crl n x o cx co).take (k+1)).filter (fun p=>decide (p.1=i))).map fun p=>ps (sgl n x o cx co) (vov (crl n x o cx co) p)),tab n (fun j=>(((crl n x o cx co).take (k+1)).filter (fun p=>decide (p.2=j))).map fun p=>ps (sgl n x o cx co) (vun (crl n x o cx co) p)))):=by
   intro b a1 a2 ha
   have q1:(ip (i,j)).1=((i:Nat):Int):=rfl
   have q2:(ip (i,j)).2=((j:Nat):Int):=rfl
   have f1:=hfl fun p=>decide (p.1=i)
   have f2:=hfl fun p=>decide (p.2=j)
   unfold F.qcj
   rw [q1,q2,qct (by simp only [List.length_cons,List.length_nil]; omega),bB,get_tab rfl hi,bB,bB,qct (by rw [List.length_map]; simp only [List.length_cons,List.length_nil]; omega),bB,bB,
    get_tab rfl hj,bB,qak (by omega) (by omega),bB,bB,qak (by omega) (by omega),bB,qct (by rw [List.length_map]; simp only [List.length_cons,List.length_nil]; omega),bB,bB,qak (by omega) (by omega),bB,
    hsk,Int.toNat_natCast,Int.toNat_natCast,ha,e1,←ps_under (sg:=sgl n x o cx co),e2]
   rfl
  unfold F.qce
  dsimp only
  rw [List.length_map,dT (show (k:Int)<((crl n x o cx co).length:Int) by omega),kT,hgc,bB]
  have q1:(ip (i,j)).1=((i:Nat):Int):=rfl
  have q2:(ip (i,j)).2=((j:Nat):Int):=rfl
  rw [q1,q2,qeg (by omega) (by omega),bB,qeg (by omega) (by omega),bB,qeg (by omega) (by omega),bB,qeg (by omega) (by omega),bB,Int.toNat_natCast,Int.toNat_natCast,
   qak (z:=4*(k:Int)) (by omega) (by omega),bB,qak (z:=4*(k:Int)+1) (by omega) (by omega),bB,bB,qak (z:=4*(k:Int)+3) (by omega) (by omega),bB]
  have hb1:decide (((x i:Nat):Int)<((o i:Nat):Int))=decide (x i<o i):=decide_eq_decide.2 (by omega)
  have hb2:decide (((co j:Nat):Int)<((cx j:Nat):Int))=decide (co j<cx j):=decide_eq_decide.2 (by omega)
  rw [hb1,hb2]
  cases hb:(!(decide (x i<o i) == decide (co j<cx j))) with
  | true=>
   have hs:sgn x o cx co (i,j)=1:=by unfold sgn; rw [if_pos hb]
   rw [kT,bB,qak (z:=4*(k:Int)+3) (by omega) (by omega),bB,bB,qak (z:=4*(k:Int)+1) (by omega) (by omega),bB]
   rw [hs] at hsg
   have q:=hj1 true _ _ (ps_over hsg).symm
   rw [hs] at q
   exact q
  | false=>
   have hs:sgn x o cx co (i,j)=-1:=by unfold sgn; rw [if_neg (by rw [hb]; decide)]
   rw [kF]
   rw [hs] at hsg
   have q:=hj1 false _ _ (ps_over' (by rw [hsg]; decide)).symm
   rw [hs] at q
   exact q
 ·
  unfold F.qce
  dsimp only
  rw [List.length_map,dF (by omega),kF,List.take_length,show (crl n x o cx co).length=(sgl n x o cx co).length by simp [sgl],List.take_length]
theorem Gd.seg_len (P:Nat×Nat→Bool):((crl n x o cx co).filter P).length≤1600:=by
 have:=List.length_filter_le P (crl n x o cx co)
 have:=g.crl_len
 omega
theorem Gd.segments (hL:(crl n x o cx co).length≤64) (m:Nat) (hm:2000<m):
  F.qff m (li n x) (li n o) ((crl n x o cx co).map ip)=some (sgl n x o cx co,tab n (fun i=>(colV n x o cx co i).map (ps (sgl n x o cx co))),tab n (fun j=>(rowV n x o cx co j).map (ps (sgl n x o cx co)))):=by
 have hn:=g.hi
 unfold F.qff
 rw [linkInverse g.px (by omega) m (by omega),bB,linkInverse g.po (by omega) m (by omega),bB,li_len,pos_ok (by omega) (by omega),bB,bB,Int.toNat_natCast,tab_rep,g.seg_loop hL m hm,bB]
 dsimp only
 let A:Nat→List (Int×Int):=fun i=>((crl n x o cx co).filter (fun p=>decide (p.1=i))).map fun p=>ps (sgl n x o cx co) (vov (crl n x o cx co) p)
 let B:Nat→List (Int×Int):=fun j=>((crl n x o cx co).filter (fun p=>decide (p.2=j))).map fun p=>ps (sgl n x o cx co) (vun (crl n x o cx co) p)
 let A':Nat→List (Int×Int):=fun i=>(colV n x o cx co i).map (ps (sgl n x o cx co))
 let B':Nat→List (Int×Int):=fun j=>(rowV n x o cx co j).map (ps (sgl n x o cx co))
 have hA: ∀i,i<n→A' i=if x i<o i then A i else (A i).reverse:=fun i hi=>by
  show (colV n x o cx co i).map (ps (sgl n x o cx co))=_
  rw [g.colV_eq hi]
  by_cases h:x i<o i
  · rw [if_pos h,if_pos h,List.map_map]; rfl
  · rw [if_neg h,if_neg h,List.map_reverse,List.map_map]; rfl
 have hB: ∀j,j<n→B' j=if co j<cx j then B j else (B j).reverse:=fun j hj=>by
  show (rowV n x o cx co j).map (ps (sgl n x o cx co))=_
  rw [g.rowV_eq hj]
  by_cases h:co j<cx j
  · rw [if_pos h,if_pos h,List.map_map]; rfl
  · rw [if_neg h,if_neg h,List.map_reverse,List.map_map]; rfl
 have lA: ∀i,(A i).length≤1600:=fun i=>by show (List.map _ _).length≤_; rw [List.length_map]; exact g.seg_len _
 have lB: ∀j,(B j).length≤1600:=fun j=>by show (List.map _ _).length≤_; rw [List.length_map]; exact g.seg_len _
 show (loopN m (F.qbv m (li n x) (li n o) (li n cx) (li n co)) (0,tab n A,tab n B)).bind _=some (sgl n x o cx co,tab n A',tab n B')
 have key:=qbp (body:=F.qbv m (li n x) (li n o) (li n cx) (li n co))
  (fun k=>((k:Int),tab n (fun i=>if i<k then A' i else A i),tab n (fun j=>if j<k then B' j else B j))) n (r:=((n:Int),tab n A',tab n B')) (fun k hk=>?_) ?_ m (by omega)
 ·
  have s0:((0:Int),tab n A,tab n B)=(((0:Nat):Int),tab n (fun i=>if i<0 then A' i else A i),tab n (fun j=>if j<0 then B' j else B j)):=by
   rw [qek (f:=fun i=>if i<0 then A' i else A i) (g:=A) (fun i _=>if_neg (by omega)),qek (f:=fun j=>if j<0 then B' j else B j) (g:=B) (fun i _=>if_neg (by omega))]
   rfl
  rw [s0,key,bB]
 ·
  have h1:=g.xl hk
  have h2:=g.ol hk
  have h3:=g.cxl hk
  have h4:=g.col hk
  have h5:=g.ne k hk
  have h6:=g.cne hk
  have setA:(tab n (fun i=>if i<k then A' i else A i)).set k (A' k)=tab n (fun i=>if i<k+1 then A' i else A i):=by
   rw [tab_set]
   refine qek fun i hi=>?_
   by_cases e:i=k
   · subst e; rw [if_pos rfl,if_pos (by omega)]
   ·
    rw [if_neg e]
    by_cases e2:i<k
    · rw [if_pos e2,if_pos (by omega)]
    · rw [if_neg e2,if_neg (by omega)]
  have setB:(tab n (fun i=>if i<k then B' i else B i)).set k (B' k)=tab n (fun i=>if i<k+1 then B' i else B i):=by
   rw [tab_set]
   refine qek fun i hi=>?_
   by_cases e:i=k
   · subst e; rw [if_pos rfl,if_pos (by omega)]
   ·
    rw [if_neg e]
    by_cases e2:i<k
    · rw [if_pos e2,if_pos (by omega)]
    · rw [if_neg e2,if_neg (by omega)]
  have idA:x k<o k→tab n (fun i=>if i<k then A' i else A i)=tab n (fun i=>if i<k+1 then A' i else A i):=fun h=>qek fun i hi=>by
   by_cases e:i=k
   · subst e; rw [if_neg (by omega),if_pos (by omega),hA i hi,if_pos h]
   ·
    by_cases e2:i<k
    · rw [if_pos e2,if_pos (by omega)]
    · rw [if_neg e2,if_neg (by omega)]
  have idB:co k<cx k→tab n (fun i=>if i<k then B' i else B i)=tab n (fun i=>if i<k+1 then B' i else B i):=fun h=>qek fun i hi=>by
   by_cases e:i=k
   · subst e; rw [if_neg (by omega),if_pos (by omega),hB i hi,if_pos h]
   ·
    by_cases e2:i<k
    · rw [if_pos e2,if_pos (by omega)]
    · rw [if_neg e2,if_neg (by omega)]
  have hj3: ∀(b:Bool) (T:List (List (Int×Int))),F.qck m (li n cx) (li n co) (k:Int) (tab n (fun j=>if j<k then B' j else B j)) b T=some (.inl (((k+1:Nat):Int),T,tab n (fun j=>if j<k+1 then B' j else B j))):=by
   intro b T
   unfold F.qck
   rw [qeg (by omega) (by omega),bB,qeg (by omega) (by omega),bB,Int.toNat_natCast]
   by_cases h:co k<cx k
   ·
    rw [dF (by omega),kF,qak (by omega) (by omega),bB,idB h]
    rfl
   ·
    rw [dT (by omega),kT,get_tab rfl hk,bB,if_neg (by omega),revPass _ (by have:=lB k; omega) m (by have:=lB k; omega),bB,qak (by omega) (by omega),bB]
    have:(B k).reverse=B' k:=by rw [hB k hk,if_neg h]
    rw [this,setB]
    rfl
  unfold F.qbv
  dsimp only
  rw [li_len,dT (show (k:Int)<(n:Int) by omega),kT,qeg (by omega) (by omega),bB,qeg (by omega) (by omega),bB,Int.toNat_natCast]
  by_cases h:x k<o k
  · rw [dF (show¬((o k:Nat):Int)<((x k:Nat):Int) by omega),kF,hj3,idA h]
  ·
   rw [dT (show ((o k:Nat):Int)<((x k:Nat):Int) by omega),kT,get_tab rfl hk,bB,if_neg (by omega),revPass _ (by have:=lA k; omega) m (by have:=lA k; omega),bB,hj3]
   have:(A k).reverse=A' k:=by rw [hA k hk,if_neg h]
   rw [this,setA]
 ·
  unfold F.qbv
  dsimp only
  rw [li_len,dF (by omega),kF]
  rw [qek (f:=fun i=>if i<n then A' i else A i) (g:=A') (fun i h=>if_pos h),qek (f:=fun i=>if i<n then B' i else B i) (g:=B') (fun i h=>if_pos h)]
