import Derived.Test.YteajmbanlohncaaPQch
import Derived.Test.YteajmbanlohncaaPQsph
import Derived.Test.YteajmbanlohncaaPQtab
import Derived.Test.YteajmbanlohncaaPQcan7
set_option linter.unusedVariables false
set_option linter.unusedSimpArgs false
namespace Go.Proofs.Yteajmbanlohncaa
open Ev
namespace Pg
theorem flatMapC {α β:Type} {f g:α→List β}: ∀{l:List α},(∀a∈l,f a=g a)→l.flatMap f=l.flatMap g
 | [],_=>rfl
 | a::l,h=>by rw [List.flatMap_cons,List.flatMap_cons,h a (by simp),flatMapC fun b hb=>h b (by simp [hb])]
def csR (part:Nat→List Vis) (vs:List (List Nat)):List (List Vis):=(vs.map fun v=>v.flatMap part).filter fun w=>!w.isEmpty
def loR (part:Nat→List Vis) (vs:List (List Nat)):Int:=(((vs.map fun v=>v.flatMap part).filter fun w=>w.isEmpty).length:Int)
theorem csR_flatten (part:Nat→List Vis) (vs:List (List Nat)):(csR part vs).flatten=vs.flatten.flatMap part:=by
 unfold csR
 induction vs with
 | nil=>rfl
 | cons v vs ih=>
  rw [List.map_cons,List.filter_cons,List.flatten_cons,List.flatMap_append,←ih]
  by_cases h:v.flatMap part=[]
  · rw [if_neg (by simp only [Bool.not_eq_true',List.isEmpty_eq_false_iff]; exact fun q=>q h),h,List.nil_append]
  · rw [if_pos (by simp only [Bool.not_eq_true',List.isEmpty_eq_false_iff]; exact h),List.flatten_cons]
theorem csR_lo (part:Nat→List Vis) (vs:List (List Nat)):((csR part vs).length:Int)+loR part vs=(vs.length:Int):=by
 unfold csR loR
 induction vs with
 | nil=>rfl
 | cons v vs ih=>
  rw [List.map_cons,List.filter_cons,List.filter_cons,List.length_cons]
  by_cases h:v.flatMap part=[]
  ·
   rw [if_neg (by simp only [Bool.not_eq_true',List.isEmpty_eq_false_iff]; exact fun q=>q h),if_pos (by simp only [List.isEmpty_iff]; exact h),List.length_cons]
   omega
  ·
   rw [if_pos (by simp only [Bool.not_eq_true',List.isEmpty_eq_false_iff]; exact h),if_neg (by simp only [List.isEmpty_iff]; exact h),List.length_cons]
   omega
theorem csR_snoc (part:Nat→List Vis) (vs:List (List Nat)) (v:List Nat):csR part (vs++[v])=if v.flatMap part=[] then csR part vs else csR part vs++[v.flatMap part]:=by
 unfold csR
 rw [List.map_append,List.filter_append]
 by_cases h:v.flatMap part=[]
 ·
  rw [if_pos h]
  simp [h]
 ·
  rw [if_neg h]
  congr 1
  rw [List.map_cons,List.map_nil,List.filter_cons,if_pos (by simp only [Bool.not_eq_true',List.isEmpty_eq_false_iff]; exact h)]
  rfl
theorem csR_congr {part part':Nat→List Vis} {vs:List (List Nat)} (h: ∀c∈vs.flatten,part c=part' c):csR part vs=csR part' vs:=by
 unfold csR
 congr 1
 refine List.map_congr_left fun v hv=>?_
 refine flatMapC fun c hc=>h c (List.mem_flatten.2 ⟨v,hv,hc⟩)
theorem loR_snoc (part:Nat→List Vis) (vs:List (List Nat)) (v:List Nat):loR part (vs++[v])=if v.flatMap part=[] then loR part vs+1 else loR part vs:=by
 unfold loR
 rw [List.map_append,List.filter_append]
 by_cases h:v.flatMap part=[]
 ·
  rw [if_pos h]
  simp [h]
 ·
  rw [if_neg h,List.map_cons,List.map_nil,List.filter_cons,if_neg (by simp only [List.isEmpty_iff]; exact h)]
  simp
def ringOf (s m:Nat):List Nat:=(List.range m).map (s+ ·)
def vsL:Nat→List (List Pt)→List (List Nat)
 | _,[]=>[]
 | s,p::l=>ringOf s p.length::vsL (s+p.length) l
theorem vsL_snoc: ∀(s:Nat) (l:List (List Pt)) (p:List Pt),vsL s (l++[p])=vsL s l++[ringOf (s+sumlen l) p.length]
 | s,[],p=>by simp [vsL,sumlen]
 | s,q::l,p=>by
  have:=vsL_snoc (s+q.length) l p
  have e:s+sumlen (q::l)=s+q.length+sumlen l:=by unfold sumlen; rw [List.map_cons,List.sum_cons]; omega
  rw [List.cons_append,vsL,vsL,this,e]
  rfl
theorem vsL_len: ∀(s:Nat) (l:List (List Pt)),(vsL s l).length=l.length
 | _,[]=>rfl
 | s,p::l=>by rw [vsL,List.length_cons,List.length_cons,vsL_len]
theorem vsL_flat: ∀(s:Nat) (l:List (List Pt)),(vsL s l).flatten=ringOf s (sumlen l)
 | s,[]=>rfl
 | s,p::l=>by
  rw [vsL,List.flatten_cons,vsL_flat]
  unfold ringOf sumlen
  rw [List.map_cons,List.sum_cons,List.range_add,List.map_append,List.map_map]
  congr 1
  refine List.map_congr_left fun k _=>?_
  show s+p.length+k=s+(p.length+k)
  omega
abbrev Psg:=Nat×(Int×Bool)
def kq (q:Psg):Int×Int:=kv (q.1:Int) q.2.1
def fstep (F:List Psg) (q:Psg):List Psg:=if kq q∈F.map kq then F else F++[q]
def firsts (Q:List Psg):List Psg:=Q.foldl fstep []
def mkM (F:List Psg):List ((Int×Int)×Int):=F.zipIdx.map fun q=>(kq q.1,(q.2:Int))
def sgs (es:List Ed) (F:List Psg):List Int:=F.map fun q=>sgX es q.1 q.2
def vn (F:List Psg) (i:Nat) (x:Int×Bool):Vis:=((((F.map kq).idxOf (kv i x.1):Nat):Int),x.2)
theorem mget_snoc (k k':Int×Int) (v:Int): ∀m:List ((Int×Int)×Int),mget (m++[(k',v)]) k=match mget m k with | some w=>some w | none=>if k=k' then some v else none
 | []=>rfl
 | p::m=>by
  rw [List.cons_append]
  unfold mget
  by_cases h:k=p.1
  · rw [if_pos h,if_pos h]
  ·
   rw [if_neg h,if_neg h]
   exact mget_snoc k k' v m
theorem mkM_snoc (F:List Psg) (q:Psg):mkM (F++[q])=mkM F++[(kq q,(F.length:Int))]:=by
 unfold mkM
 rw [List.zipIdx_append,List.map_append]
 simp
theorem mkM_get (k:Int×Int) (F:List Psg):mget (mkM F) k=if k∈F.map kq then some (((F.map kq).idxOf k:Nat):Int) else none:=by
 have key: ∀n (F:List Psg),F.length=n→mget (mkM F) k=if k∈F.map kq then some (((F.map kq).idxOf k:Nat):Int) else none:=by
  intro n
  induction n with
  | zero=>
   intro F hF
   obtain rfl:=List.eq_nil_of_length_eq_zero hF
   rfl
  | succ n ih=>
   intro F hF
   obtain ⟨G,q,rfl⟩: ∃G q,F=G++[q]:=⟨F.dropLast,F.getLast (fun h=>by rw [h] at hF; cases hF),(List.dropLast_concat_getLast _).symm⟩
   rw [mkM_snoc,mget_snoc,ih G (by rw [List.length_append,List.length_singleton] at hF; omega),List.map_append]
   by_cases h:k∈G.map kq
   · rw [if_pos h,if_pos (List.mem_append_left _ h),List.idxOf_append,if_pos h]
   ·
    rw [if_neg h]
    dsimp only
    by_cases h2:k=kq q
    ·
     rw [if_pos h2,if_pos (List.mem_append_right _ (by simp [h2])),List.idxOf_append,if_neg h]
     simp [h2]
    ·
     rw [if_neg h2,if_neg (fun h3=>by
      rcases List.mem_append.1 h3 with h3 | h3
      · exact h h3
      · simp at h3; exact h2 h3)]
 exact key _ F rfl
theorem fstep_mem (F:List Psg) (q:Psg):kq q∈(fstep F q).map kq:=by
 unfold fstep
 split
 · assumption
 · simp
theorem fstep_pre (F:List Psg) (q:Psg):F <+: fstep F q:=by
 unfold fstep
 split
 · exact List.prefix_refl _
 · exact List.prefix_append _ _
theorem fold_pre (F:List Psg): ∀(Q:List Psg) (F:List Psg),F <+: Q.foldl fstep F
 | [],F=>List.prefix_refl _
 | q::Q,F=>List.IsPrefix.trans (fstep_pre F q) (fold_pre F Q _)
theorem vn_pre {F F':List Psg} (h:F <+: F') {i:Nat} {x:Int×Bool} (hx:kv i x.1∈F.map kq):vn F' i x=vn F i x:=by
 obtain ⟨e,rfl⟩:=h
 unfold vn
 rw [List.map_append,List.idxOf_append,if_pos hx]
theorem fold_mem: ∀(Q:List Psg) (F:List Psg),∀q∈Q,kq q∈(Q.foldl fstep F).map kq
 | [],F,q,h=>by cases h
 | p::Q,F,q,h=>by
  rw [List.foldl_cons]
  rcases List.mem_cons.1 h with rfl | h
  ·
   obtain ⟨e,he⟩:=fold_pre F Q (fstep F q)
   rw [←he,List.map_append]
   exact List.mem_append_left _ (fstep_mem F q)
  · exact fold_mem Q _ q h
theorem fold_sub: ∀(Q:List Psg) (F:List Psg),∀q∈Q.foldl fstep F,q∈F∨q∈Q
 | [],F,q,h=>.inl h
 | p::Q,F,q,h=>by
  rw [List.foldl_cons] at h
  rcases fold_sub Q _ q h with h | h
  ·
   unfold fstep at h
   split at h
   · exact .inl h
   ·
    rcases List.mem_append.1 h with h | h
    · exact .inl h
    · rw [List.mem_singleton] at h; exact .inr (by simp [h])
  · exact .inr (List.mem_cons_of_mem _ h)
theorem fold_nodup: ∀(Q:List Psg) (F:List Psg),(F.map kq).Nodup→((Q.foldl fstep F).map kq).Nodup
 | [],F,h=>h
 | p::Q,F,h=>by
  rw [List.foldl_cons]
  refine fold_nodup Q _ ?_
  unfold fstep
  split
  · exact h
  ·
   rename_i hp
   rw [List.map_append,List.nodup_append]
   refine ⟨h,by simp,fun a ha b hb e=>?_⟩
   simp at hb
   subst e hb
   exact hp ha
theorem cstep_fst (es:List Ed) (i:Nat) (vis:List Vis) (F:List Psg) (x:Int×Bool):cstep es i (vis,sgs es F,mkM F) x=(vis++[vn (fstep F (i,x)) i x],sgs es (fstep F (i,x)),mkM (fstep F (i,x))):=by
 unfold cstep
 dsimp only
 rw [mkM_get]
 unfold fstep
 by_cases h:kv (i:Int) x.1∈F.map kq
 ·
  have h':kq ((i,x):Psg)∈F.map kq:=h
  rw [if_pos h,if_pos h']
  rfl
 ·
  have h': ¬kq ((i,x):Psg)∈F.map kq:=h
  rw [if_neg h,if_neg h']
  dsimp only
  rw [mkM_snoc]
  unfold sgs vn
  rw [List.map_append,List.map_append,List.idxOf_append,if_neg h,List.length_map]
  have:(List.map kq [((i,x):Psg)]).idxOf (kv (i:Int) x.1)=0:=by
   show ([kv (i:Int) x.1]).idxOf (kv (i:Int) x.1)=0
   simp
  rw [this,List.length_map,Nat.zero_add]
  rfl
theorem crow_fst (es:List Ed) (i:Nat): ∀(row:List (Int×Bool)) (vis:List Vis) (F:List Psg),crow es i (vis,sgs es F,mkM F) row=(vis++row.map (vn ((row.map (Prod.mk i)).foldl fstep F) i),sgs es ((row.map (Prod.mk i)).foldl fstep F),mkM ((row.map (Prod.mk i)).foldl fstep F))
 | [],vis,F=>by
  unfold crow
  simp
 | x::r,vis,F=>by
  have ih:=crow_fst es i r (vis++[vn (fstep F (i,x)) i x]) (fstep F (i,x))
  unfold crow at ih⊢
  rw [List.foldl_cons,cstep_fst,ih,List.map_cons,List.map_cons,List.foldl_cons,List.append_assoc]
  have hv:=vn_pre (i:=i) (x:=x) (fold_pre [] (r.map (Prod.mk i)) (fstep F (i,x))) (fstep_mem F (i,x))
  rw [hv]
  rfl
def pas (P:Nat→List (Int×Bool)) (v:List Nat):List Psg:=v.flatMap fun j=>(P j).map (Prod.mk j)
def prt' (P:Nat→List (Int×Bool)) (F:List Psg) (j:Nat):List Vis:=(P j).map (vn F j)
theorem pas_app (P:Nat→List (Int×Bool)) (v w:List Nat):pas P (v++w)=pas P v++pas P w:=by unfold pas; rw [List.flatMap_append]
theorem mem_pas {P:Nat→List (Int×Bool)} {v:List Nat} {q:Psg}:q∈pas P v↔q.1∈v∧q.2∈P q.1:=by
 unfold pas
 rw [List.mem_flatMap]
 constructor
 ·
  rintro ⟨j,hj,h⟩
  obtain ⟨x,hx,rfl⟩:=List.mem_map.1 h
  exact ⟨hj,hx⟩
 ·
  rintro ⟨h1,h2⟩
  exact ⟨q.1,h1,List.mem_map.2 ⟨q.2,h2,rfl⟩⟩
theorem prt_pre {P:Nat→List (Int×Bool)} {F F':List Psg} (h:F <+: F') {j:Nat} (hj: ∀x∈P j,kv j x.1∈F.map kq):prt' P F' j=prt' P F j:=by
 unfold prt'
 exact List.map_congr_left fun x hx=>vn_pre h (hj x hx)
theorem ringOf_succ (s m:Nat):ringOf s (m+1)=ringOf s m++[s+m]:=by
 unfold ringOf
 rw [List.range_succ,List.map_append]; rfl
theorem cpoly_fst (es:List Ed) (P:Nat→List (Int×Bool)) (s:Nat) (vis:List Vis) (F:List Psg): ∀m,cpoly es P s m (vis,sgs es F,mkM F)=(vis++(ringOf s m).flatMap (prt' P ((pas P (ringOf s m)).foldl fstep F)),sgs es ((pas P (ringOf s m)).foldl fstep F),mkM ((pas P (ringOf s m)).foldl fstep F))
 | 0=>by
  unfold cpoly ringOf pas
  simp
 | m+1=>by
  rw [cpoly_succ,cpoly_fst es P s vis F m,crow_fst,ringOf_succ,pas_app,List.foldl_append,List.flatMap_append]
  have e:pas P [s+m]=(P (s+m)).map (Prod.mk (s+m)):=by unfold pas; simp
  rw [e]
  generalize hG:(pas P (ringOf s m)).foldl fstep F=G
  have hpre:=fold_pre [] ((P (s+m)).map (Prod.mk (s+m))) G
  have hc:(ringOf s m).flatMap (prt' P (((P (s+m)).map (Prod.mk (s+m))).foldl fstep G))=(ringOf s m).flatMap (prt' P G):=by
   refine flatMapC fun j hj=>prt_pre hpre fun x hx=>?_
   have:=fold_mem (pas P (ringOf s m)) F (j,x) (mem_pas.2 ⟨hj,hx⟩)
   rw [hG] at this
   exact this
  rw [hc,List.append_assoc]
  congr 1
  congr 1
  congr 1
  simp [prt']
def fstL (P:Nat→List (Int×Bool)) (l:List (List Pt)):List Psg:=firsts (pas P (vsL 0 l).flatten)
theorem cofold_fst (es:List Ed) (P:Nat→List (Int×Bool)): ∀(n:Nat) (l:List (List Pt)),l.length=n→
  cofold es P l=(sumlen l,csR (prt' P (fstL P l)) (vsL 0 l),sgs es (fstL P l),loR (prt' P (fstL P l)) (vsL 0 l),mkM (fstL P l)):=by
 intro n
 induction n with
 | zero=>
  intro l hl
  obtain rfl:=List.eq_nil_of_length_eq_zero hl
  rfl
 | succ n ih=>
  intro l hl
  obtain ⟨k,p,rfl⟩: ∃k p,l=k++[p]:=⟨l.dropLast,l.getLast (fun h=>by rw [h] at hl; cases hl),(List.dropLast_concat_getLast _).symm⟩
  rw [List.length_append,List.length_singleton] at hl
  rw [cofold_snoc,ih k (by omega)]
  have hF:fstL P (k++[p])=(pas P (ringOf (sumlen k) p.length)).foldl fstep (fstL P k):=by
   unfold fstL firsts
   rw [vsL_snoc,List.flatten_append,pas_app,List.foldl_append,Nat.zero_add]
   simp
  have hpre:fstL P k <+: fstL P (k++[p]):=by rw [hF]; exact fold_pre [] _ _
  have hold: ∀c∈(vsL 0 k).flatten,prt' P (fstL P (k++[p])) c=prt' P (fstL P k) c:=fun c hc=>prt_pre hpre fun x hx=>fold_mem _ [] (c,x) (mem_pas.2 ⟨hc,hx⟩)
  have hold2:loR (prt' P (fstL P (k++[p]))) (vsL 0 k)=loR (prt' P (fstL P k)) (vsL 0 k):=by
   have a:=csR_lo (prt' P (fstL P (k++[p]))) (vsL 0 k)
   have b:=csR_lo (prt' P (fstL P k)) (vsL 0 k)
   rw [csR_congr hold] at a
   omega
  unfold costep
  dsimp only
  rw [cpoly_fst,←hF,List.nil_append,vsL_snoc,Nat.zero_add,csR_snoc,loR_snoc,csR_congr hold,hold2]
  have hs:sumlen (k++[p])=sumlen k+p.length:=by unfold sumlen; simp
  rw [hs]
  dsimp only
  by_cases h:(ringOf (sumlen k) p.length).flatMap (prt' P (fstL P (k++[p])))=[]
  · rw [if_neg (by rw [h]; simp),if_neg (by rw [h]; simp),if_pos h,if_pos h]
  · rw [if_pos (List.length_pos_iff.2 h),if_pos (List.length_pos_iff.2 h),if_neg h,if_neg h]
theorem codeS_fst (es:List Ed) (P:Nat→List (Int×Bool)) (l:List (List Pt)):codeS es P l=(csR (prt' P (fstL P l)) (vsL 0 l),sgs es (fstL P l),loR (prt' P (fstL P l)) (vsL 0 l)):=by
 unfold codeS
 rw [cofold_fst es P _ l rfl]
structure Nt (N:Nat) (nx:Nat→Nat) (vs:List (List Nat)) (P:Nat→List (Int×Bool)):Prop where
 nd:vs.flatten.Nodup
 cyc: ∀v∈vs,Cyc nx v
 mem: ∀c,c∈vs.flatten↔c<N
 row: ∀i,i<N→((P i).map (·.1)).Nodup
 sym: ∀i,i<N→∀x∈P i,∃k:Nat,x.1=(k:Int)∧k<N∧k≠i∧((i:Int),!x.2)∈P k
theorem idxOf_at {α:Type} [BEq α] [LawfulBEq α] {l:List α} (hn:l.Nodup) {c:Nat} (hc:c<l.length):l.idxOf l[c]=c:=by
 have h1:=List.idxOf_lt_length_of_mem (List.getElem_mem hc)
 have h2:=List.getElem_idxOf h1
 exact (List.getElem?_inj h1 hn).1 (by rw [gE h1,h2,gE hc])
def fsN (P:Nat→List (Int×Bool)) (vs:List (List Nat)):List Psg:=firsts (pas P vs.flatten)
theorem kv_eq {a b c d:Nat}:kv (a:Int) (b:Int)=kv (c:Int) (d:Int)↔(a=c∧b=d)∨(a=d∧b=c):=by
 unfold kv
 rw [Prod.mk.injEq]
 omega
section
variable {N : Nat} {nx : Nat → Nat} {vs : List (List Nat)} {P : Nat → List (Int × Bool)} (h : Nt N nx vs P)
include h
theorem Nt.fmem {q:Psg} (hq:q∈fsN P vs):q.1<N∧q.2∈P q.1:=by
 rcases fold_sub _ [] q hq with h1 | h1
 · cases h1
 ·
  obtain ⟨h2,h3⟩:=mem_pas.1 h1
  exact ⟨(h.mem _).1 h2,h3⟩
theorem Nt.fkey {i:Nat} (hi:i<N) {x:Int×Bool} (hx:x∈P i):kv i x.1∈(fsN P vs).map kq:=fold_mem _ [] (i,x) (mem_pas.2 ⟨(h.mem i).2 hi,hx⟩)
omit h in
theorem fnodup:((fsN P vs).map kq).Nodup:=fold_nodup _ [] List.nodup_nil
theorem Nt.row_inj {i:Nat} (hi:i<N) {x y:Int×Bool} (hx:x∈P i) (hy:y∈P i) (e:x.1=y.1):x=y:=by
 have hn:=h.row i hi
 obtain ⟨a,ha,rfl⟩:=List.getElem_of_mem hx
 obtain ⟨b,hb,rfl⟩:=List.getElem_of_mem hy
 unfold List.Nodup at hn
 rw [List.pairwise_map] at hn
 have hp:=List.pairwise_iff_getElem.1 hn
 rcases Nat.lt_trichotomy a b with q | q | q
 · exact absurd e (hp a b ha hb q)
 · subst q; rfl
 · exact absurd e.symm (hp b a hb ha q)
theorem Nt.same {i j:Nat} (hi:i<N) (hj:j<N) {x y:Int×Bool} (hx:x∈P i) (hy:y∈P j) (e:kv i x.1=kv j y.1):(j=i∧y=x)∨(x.1=(j:Int)∧y=((i:Int),!x.2)):=by
 obtain ⟨k,e1,hk,hne,hs⟩:=h.sym i hi x hx
 obtain ⟨m,e2,hm,hne2,hs2⟩:=h.sym j hj y hy
 rw [e1,e2,kv_eq] at e
 rcases e with ⟨rfl,rfl⟩ | ⟨rfl,rfl⟩
 · exact .inl ⟨rfl,h.row_inj hi hy hx (e2.trans e1.symm)⟩
 · exact .inr ⟨e1,h.row_inj hk hy hs e2⟩
theorem Nt.vn_inj {i j:Nat} (hi:i<N) (hj:j<N) {x y:Int×Bool} (hx:x∈P i) (hy:y∈P j) (e:vn (fsN P vs) i x=vn (fsN P vs) j y):i=j∧x=y:=by
 unfold vn at e
 obtain ⟨e1,e2⟩:=Prod.mk.inj e
 have e3:((fsN P vs).map kq).idxOf (kv i x.1)=((fsN P vs).map kq).idxOf (kv j y.1):=by omega
 have hi':=List.getElem_idxOf (List.idxOf_lt_length_of_mem (h.fkey hi hx))
 have hj':=List.getElem_idxOf (List.idxOf_lt_length_of_mem (h.fkey hj hy))
 have hk:kv i x.1=kv j y.1:=by
  rw [←hi',←hj']
  congr 1
 rcases h.same hi hj hx hy hk with ⟨rfl,rfl⟩ | ⟨a,b⟩
 · exact ⟨rfl,rfl⟩
 ·
  rw [b] at e2
  cases hx2:x.2<;>rw [hx2] at e2<;>cases e2
theorem Nt.vn_lt {i:Nat} (hi:i<N) {x:Int×Bool} (hx:x∈P i):0≤(vn (fsN P vs) i x).1∧(vn (fsN P vs) i x).1<((fsN P vs).length:Int):=by
 have:=List.idxOf_lt_length_of_mem (h.fkey hi hx)
 rw [List.length_map] at this
 unfold vn
 dsimp only
 omega
theorem Nt.vn_at {c:Nat} (hc:c<(fsN P vs).length):(fsN P vs)[c].1<N∧(fsN P vs)[c].2∈P (fsN P vs)[c].1∧vn (fsN P vs) (fsN P vs)[c].1 (fsN P vs)[c].2=((c:Int),(fsN P vs)[c].2.2):=by
 obtain ⟨h1,h2⟩:=h.fmem (List.getElem_mem hc)
 refine ⟨h1,h2,?_⟩
 unfold vn
 have e:((fsN P vs).map kq).idxOf (kv ((fsN P vs)[c].1:Int) (fsN P vs)[c].2.1)=c:=by
  have hc':c<((fsN P vs).map kq).length:=by rw [List.length_map]; exact hc
  have:=idxOf_at (fnodup (P:=P) (vs:=vs)) hc'
  rw [List.getElem_map] at this
  exact this
 rw [e]
theorem Nt.both {c:Nat} (hc:c<(fsN P vs).length) (o:Bool): ∃i,i<N∧∃x∈P i,vn (fsN P vs) i x=((c:Int),o):=by
 obtain ⟨h1,h2,h3⟩:=h.vn_at hc
 by_cases ho:(fsN P vs)[c].2.2=o
 · exact ⟨_,h1,_,h2,by rw [h3,ho]⟩
 ·
  obtain ⟨k,e1,hk,hne,hs⟩:=h.sym _ h1 _ h2
  refine ⟨k,hk,_,hs,?_⟩
  have e2:(vn (fsN P vs) k (((fsN P vs)[c].1:Int),!(fsN P vs)[c].2.2)).1=(vn (fsN P vs) (fsN P vs)[c].1 (fsN P vs)[c].2).1:=by
   unfold vn
   dsimp only
   rw [e1,show kv (k:Int) ((fsN P vs)[c].1:Int)=kv ((fsN P vs)[c].1:Int) (k:Int) from kv_eq.2 (.inr ⟨rfl,rfl⟩)]
  rw [h3] at e2
  refine Prod.ext e2 ?_
  show (!(fsN P vs)[c].2.2)=o
  revert ho
  cases (fsN P vs)[c].2.2<;>cases o<;>simp
theorem Nt.vis_mem {u:Vis}:u∈vs.flatten.flatMap (prt' P (fsN P vs))↔∃i,i<N∧∃x∈P i,vn (fsN P vs) i x=u:=by
 rw [List.mem_flatMap]
 constructor
 ·
  rintro ⟨i,hi,hu⟩
  obtain ⟨x,hx,e⟩:=List.mem_map.1 hu
  exact ⟨i,(h.mem i).1 hi,x,hx,e⟩
 ·
  rintro ⟨i,hi,x,hx,e⟩
  exact ⟨i,(h.mem i).2 hi,List.mem_map.2 ⟨x,hx,e⟩⟩
theorem Nt.vis_all {u:Vis}:u∈vs.flatten.flatMap (prt' P (fsN P vs))↔0≤u.1∧u.1<((fsN P vs).length:Int):=by
 rw [h.vis_mem]
 constructor
 ·
  rintro ⟨i,hi,x,hx,rfl⟩
  exact h.vn_lt hi hx
 ·
  rintro ⟨h1,h2⟩
  obtain ⟨c,hc⟩: ∃c:Nat,u.1=(c:Int):=⟨u.1.toNat,by omega⟩
  obtain ⟨i,hi,x,hx,e⟩:=h.both (c:=c) (by omega) u.2
  exact ⟨i,hi,x,hx,by rw [e,←hc]⟩
theorem Nt.vis_nodup:(vs.flatten.flatMap (prt' P (fsN P vs))).Nodup:=by
 refine flatMap_nodup h.nd (fun c hc=>?_) fun c hc d hd u h1 h2=>?_
 ·
  have hcn:=(h.mem c).1 hc
  refine nodup_map ?_ fun x hx y hy e=>(h.vn_inj hcn hcn hx hy e).2
  have:=h.row c hcn
  unfold List.Nodup at this⊢
  rw [List.pairwise_map] at this
  exact this.imp fun hab e=>hab (by rw [e])
 ·
  obtain ⟨x,hx,rfl⟩:=List.mem_map.1 h1
  obtain ⟨y,hy,e⟩:=List.mem_map.1 h2
  exact (h.vn_inj ((h.mem d).1 hd) ((h.mem c).1 hc) hy hx e).1.symm
theorem Nt.vis_len:(vs.flatten.flatMap (prt' P (fsN P vs))).length=2*(fsN P vs).length:=by
 have hV:(((List.range (fsN P vs).length).map fun c=>(((c:Nat):Int),true))++((List.range (fsN P vs).length).map fun c=>(((c:Nat):Int),false))).Nodup:=by
  rw [List.nodup_append]
  refine ⟨nodup_map List.nodup_range fun a _ b _ e=>by have:=(Prod.mk.inj e).1; omega,nodup_map List.nodup_range fun a _ b _ e=>by have:=(Prod.mk.inj e).1; omega,fun a ha b hb e=>?_⟩
  obtain ⟨_,_,e1⟩:=List.mem_map.1 ha
  obtain ⟨_,_,e2⟩:=List.mem_map.1 hb
  rw [←e1,←e2] at e
  cases (Prod.mk.inj e).2
 have:=len_of_same h.vis_nodup hV fun u=>by
  rw [h.vis_all,List.mem_append,List.mem_map,List.mem_map]
  constructor
  ·
   rintro ⟨h1,h2⟩
   obtain ⟨z,o⟩:=u
   dsimp only at h1 h2
   cases o with
   | true=>exact .inl ⟨z.toNat,List.mem_range.2 (by omega),by rw [Int.toNat_of_nonneg h1]⟩
   | false=>exact .inr ⟨z.toNat,List.mem_range.2 (by omega),by rw [Int.toNat_of_nonneg h1]⟩
  · rintro (⟨c,hc,rfl⟩ | ⟨c,hc,rfl⟩)<;>(have:=List.mem_range.1 hc; dsimp only; omega)
 rw [this,List.length_append,List.length_map,List.length_map,List.length_range]
 omega
theorem Nt.gv {sx:Psg→Int} (hsx: ∀q,sx q=1∨sx q=-1) (h64:(fsN P vs).length≤64) (hv:vs.length≤64):GV (csR (prt' P (fsN P vs)) vs) ((fsN P vs).map sx) (loR (prt' P (fsN P vs)) vs):=by
 have hlo:=csR_lo (prt' P (fsN P vs)) vs
 have hlo0:0≤loR (prt' P (fsN P vs)) vs:=by unfold loR; omega
 refine ⟨by rw [List.length_map]; exact h64,hlo0,by omega,fun s hs=>?_,fun c hc=>?_,fun v hv=>?_,?_,?_⟩
 ·
  obtain ⟨q,_,rfl⟩:=List.mem_map.1 hs
  exact hsx q
 ·
  unfold csR at hc
  have:=(List.mem_filter.1 hc).2
  intro e
  subst e
  cases this
 ·
  rw [csR_flatten,h.vis_all] at hv
  rw [List.length_map]; exact hv
 · rw [csR_flatten]; exact h.vis_nodup
 · rw [csR_flatten,h.vis_len,List.length_map]
end
theorem pairR_of {sg:List Int} {part:Nat→List Vis} {vs:List (List Nat)} {a b:Nat} (h:(a,b)∈allP sg (csR part vs)): ∃v∈vs,∃k u w,k<(v.flatMap part).length∧(v.flatMap part)[k]? =some u∧(v.flatMap part)[(k+1)%(v.flatMap part).length]? =some w∧a=outH sg u∧b=inH sg w:=by
 unfold allP csR at h
 obtain ⟨w,hw,hp⟩:=List.mem_flatMap.1 h
 obtain ⟨v,hv,rfl⟩:=List.mem_map.1 (List.mem_filter.1 hw).1
 unfold prs at hp
 obtain ⟨k,hk,e⟩:=List.mem_map.1 hp
 rw [List.mem_range] at hk
 have hm:(k+1)%(v.flatMap part).length<(v.flatMap part).length:=Nat.mod_lt _ (by omega)
 refine ⟨v,hv,k,_,_,hk,gE hk,gE hm,?_⟩
 rw [getD_of' hk,getD_of' hm] at e
 exact ⟨(Prod.mk.inj e).1.symm,(Prod.mk.inj e).2.symm⟩
theorem pairR_at {sg:List Int} {part:Nat→List Vis} {vs:List (List Nat)} {v:List Nat} (hv:v∈vs) {k:Nat} {u w:Vis} (hk:k<(v.flatMap part).length) (hu:(v.flatMap part)[k]? =some u) (hw:(v.flatMap part)[(k+1)%(v.flatMap part).length]? =some w):
  (outH sg u,inH sg w)∈allP sg (csR part vs):=by
 unfold allP csR
 have hm:(k+1)%(v.flatMap part).length<(v.flatMap part).length:=Nat.mod_lt _ (by omega)
 refine List.mem_flatMap.2 ⟨v.flatMap part,List.mem_filter.2 ⟨List.mem_map.2 ⟨v,hv,rfl⟩,?_⟩,?_⟩
 ·
  simp only [Bool.not_eq_true',List.isEmpty_eq_false_iff]
  intro e
  rw [e] at hk
  exact absurd hk (by simp)
 ·
  unfold prs
  refine List.mem_map.2 ⟨k,List.mem_range.2 hk,?_⟩
  rw [getD_of' hk,getD_of' hm]
  rw [gE hk] at hu
  rw [gE hm] at hw
  rw [Option.some.inj hu,Option.some.inj hw]
section
variable {nx : Nat → Nat} {vs : List (List Nat)} {part : Nat → List Vis} {sg : List Int} {lo : Int}
theorem walkR (G:GV (csR part vs) sg lo) (nd:vs.flatten.Nodup) (cyc: ∀v∈vs,Cyc nx v):
  ∃A:Nat→Nat,∀c,c∈vs.flatten→Ch (inH sg) (fun u=>muS sg (csR part vs) (outH sg u)) (A c) (part c) (A (nx c)):=by
 refine rings_vals nd cyc fun v hv=>?_
 by_cases he:v.flatMap part=[]
 · rw [he]; exact ⟨0,rfl⟩
 ·
  refine Ch.of_ring he fun k u w hk hu hw=>?_
  exact (muS_pair G (pairR_at hv hk hu hw)).2.2.1
theorem matesR (G:GV (csR part vs) sg lo) (cyc: ∀v∈vs,Cyc nx v) {f μ' A:Nat→Nat} (inv: ∀h,h<4*sg.length→μ' (μ' (f h))=f h)
  (hA: ∀c,c∈vs.flatten→Ch (fun u=>f (inH sg u)) (fun u=>μ' (f (outH sg u))) (A c) (part c) (A (nx c))):
  ∀h,h<4*sg.length→μ' (f h)=f (muS sg (csR part vs) h):=by
 have hpair: ∀a b,(a,b)∈allP sg (csR part vs)→μ' (f a)=f b:=by
  intro a b hab
  obtain ⟨v,hv,k,u,w,hk,hu,hw,rfl,rfl⟩:=pairR_of hab
  obtain ⟨y,hy⟩:=ring_ch (cyc v hv) (P:=part) (A:=A) fun c hc=>hA c (List.mem_flatten.2 ⟨v,hv,hc⟩)
  exact hy.ring hk hu hw
 intro h hh
 rcases G.pairs.2.2.2.2.2 h hh with hm | hm
 ·
  obtain ⟨⟨a,b⟩,hab,rfl⟩:=List.mem_map.1 hm
  obtain ⟨_,_,m1,m2,_⟩:=muS_pair G hab
  dsimp only
  rw [m1,hpair a b hab]
 ·
  obtain ⟨⟨a,b⟩,hab,rfl⟩:=List.mem_map.1 hm
  obtain ⟨_,_,m1,m2,l1,l2,_⟩:=muS_pair G hab
  dsimp only
  rw [m2,←hpair a b hab,inv a l1]
theorem clsR_le (G:GV (csR part vs) sg lo):cls sg.length (adjP sg.length (muS sg (csR part vs)))≤vs.length:=by
 have hs:=adjP_symm G.mt
 have hvis: ∀v∈vs,∀u∈v.flatMap part,0≤u.1∧u.1<(sg.length:Int):=fun v hv u hu=>G.2.2.2.2.2.1 u (by
  rw [csR_flatten]
  obtain ⟨c,hc,h⟩:=List.mem_flatMap.1 hu
  exact List.mem_flatMap.2 ⟨c,List.mem_flatten.2 ⟨v,hv,hc⟩,h⟩)
 -- what lies on one ring is one piece
 have hring: ∀v∈vs,∀u:Vis,u∈v.flatMap part→∀w:Vis,w∈v.flatMap part→Cn (adjP sg.length (muS sg (csR part vs))) u.1.toNat w.1.toNat:=by
  intro v hv
  have one: ∀(k:Nat) (u w:Vis),k<(v.flatMap part).length→(v.flatMap part)[k]? =some u→(v.flatMap part)[(k+1)%(v.flatMap part).length]? =some w→Cn (adjP sg.length (muS sg (csR part vs))) u.1.toNat w.1.toNat:=by
   intro k u w hk hu hw
   obtain ⟨_,_,m1,_⟩:=muS_pair G (pairR_at hv hk hu hw)
   obtain ⟨u0,u1⟩:=hvis v hv u (List.mem_of_getElem? hu)
   obtain ⟨w0,w1⟩:=hvis v hv w (List.mem_of_getElem? hw)
   have q1:outH sg u/ 4=u.1.toNat:=by unfold outH; split<;>(try split)<;>omega
   have q2:inH sg w/ 4=w.1.toNat:=by unfold inH; split<;>(try split)<;>omega
   refine Cn.one ⟨by omega,by omega,outH sg u%4,by omega,?_⟩
   rw [show 4*u.1.toNat+outH sg u%4=outH sg u by omega,m1,q2]
  have from0: ∀(k:Nat) (u:Vis),(v.flatMap part)[k]? =some u→∀w:Vis,(v.flatMap part)[0]? =some w→Cn (adjP sg.length (muS sg (csR part vs))) w.1.toNat u.1.toNat:=by
   intro k
   induction k with
   | zero=>intro u hu w hw; rw [hu] at hw; rw [Option.some.inj hw]; exact .refl _
   | succ k ih=>
    intro u hu w hw
    have hk:=(List.getElem?_eq_some_iff.1 hu).1
    have hk':k<(v.flatMap part).length:=by omega
    exact (ih _ (gE hk') w hw).trans (one k _ u hk' (gE hk') (by rw [Nat.mod_eq_of_lt hk]; exact hu))
  intro u hu w hw
  obtain ⟨i,hi,e1⟩:=List.getElem_of_mem hu
  obtain ⟨j,hj,e2⟩:=List.getElem_of_mem hw
  have h0:0<(v.flatMap part).length:=by omega
  have a:=from0 i u (by rw [gE hi,e1]) _ (gE h0)
  have b:=from0 j w (by rw [gE hj,e2]) _ (gE h0)
  exact (a.symm hs).trans b
 -- each piece lies on a ring
 have hpick: ∀c,∃k,c<sg.length→k<vs.length∧∃v,vs[k]? =some v∧∃u∈v.flatMap part,u.1.toNat=c:=by
  intro c
  by_cases hc:c<sg.length
  ·
   have hm:((c:Int),true)∈(csR part vs).flatten∨((c:Int),false)∈(csR part vs).flatten:=by
    rcases G.pairs.2.2.2.2.2 (4*c) (by omega) with hm | hm
    ·
     rw [allP_out] at hm
     obtain ⟨u,hu,e⟩:=List.mem_map.1 hm
     obtain ⟨u0,u1⟩:=G.2.2.2.2.2.1 u hu
     have q1:outH sg u/ 4=u.1.toNat:=by unfold outH; split<;>(try split)<;>omega
     obtain ⟨z,o⟩:=u
     dsimp only at q1 u0 u1
     have:z=(c:Int):=by omega
     subst this
     cases o
     · exact .inr hu
     · exact .inl hu
    ·
     have hm:=(allP_in sg (csR part vs)).mem_iff.1 hm
     obtain ⟨u,hu,e⟩:=List.mem_map.1 hm
     obtain ⟨u0,u1⟩:=G.2.2.2.2.2.1 u hu
     have q1:inH sg u/ 4=u.1.toNat:=by unfold inH; split<;>(try split)<;>omega
     obtain ⟨z,o⟩:=u
     dsimp only at q1 u0 u1
     have:z=(c:Int):=by omega
     subst this
     cases o
     · exact .inr hu
     · exact .inl hu
   have: ∃u:Vis,u∈(csR part vs).flatten∧u.1.toNat=c:=by
    rcases hm with hm | hm
    · exact ⟨_,hm,by simp⟩
    · exact ⟨_,hm,by simp⟩
   obtain ⟨u,hu,e⟩:=this
   rw [csR_flatten] at hu
   obtain ⟨d,hd,hud⟩:=List.mem_flatMap.1 hu
   obtain ⟨v,hv,hdv⟩:=List.mem_flatten.1 hd
   obtain ⟨k,hk,ek⟩:=List.getElem_of_mem hv
   exact ⟨k,fun _=>⟨hk,v,by rw [gE hk,ek],u,List.mem_flatMap.2 ⟨d,hdv,hud⟩,e⟩⟩
  · exact ⟨0,fun h=>absurd h hc⟩
 obtain ⟨F,hF⟩:=Classical.skolem.1 hpick
 have hnd:((reps sg.length (adjP sg.length (muS sg (csR part vs)))).map F).Nodup:=by
  refine nodup_map (reps_nodup _ _) fun a ha b hb e=>?_
  obtain ⟨ha1,ha2⟩:=mem_reps.1 ha
  obtain ⟨hb1,hb2⟩:=mem_reps.1 hb
  obtain ⟨_,v,hv,u,hu,eu⟩:=hF a ha1
  obtain ⟨_,v',hv',u',hu',eu'⟩:=hF b hb1
  rw [←e,hv] at hv'
  obtain rfl:=Option.some.inj hv'
  have hc:=hring v (List.mem_of_getElem? hv) u hu u' hu'
  rw [eu,eu'] at hc
  exact rep_eq hs ha2 hb2 hc
 have:=nodup_lt (N:=vs.length) hnd fun x hx=>by
  obtain ⟨a,ha,rfl⟩:=List.mem_map.1 hx
  exact (hF a (mem_reps.1 ha).1).1
 rw [List.length_map] at this
 exact this
end
theorem surj_inj {N:Nat} {f:Nat→Nat} (hs: ∀k,k<N→∃i,i<N∧f i=k): ∀i j,i<N→j<N→f i=f j→i=j:=by
 have ex: ∀k,∃i,k<N→i<N∧f i=k:=fun k=>by
  by_cases hk:k<N
  ·
   obtain ⟨i,hi⟩:=hs k hk
   exact ⟨i,fun _=>hi⟩
  · exact ⟨0,fun h=>absurd h hk⟩
 obtain ⟨g,hg⟩:=Classical.skolem.1 ex
 have hnd:((List.range N).map g).Nodup:=nodup_map List.nodup_range fun a ha b hb e=>by
  have h1:=(hg a (List.mem_range.1 ha)).2
  have h2:=(hg b (List.mem_range.1 hb)).2
  rw [←h1,←h2,e]
 have all: ∀i,i<N→∃a,a<N∧g a=i:=fun i hi=>by
  have:=nodup_all hnd (fun x hx=>by
   obtain ⟨a,ha,rfl⟩:=List.mem_map.1 hx
   exact (hg a (List.mem_range.1 ha)).1) (by simp) hi
  obtain ⟨a,ha,e⟩:=List.mem_map.1 this
  exact ⟨a,List.mem_range.1 ha,e⟩
 intro i j hi hj e
 obtain ⟨a,ha,rfl⟩:=all i hi
 obtain ⟨b,hb,rfl⟩:=all j hj
 rw [(hg a ha).2,(hg b hb).2] at e
 rw [e]
theorem inj_surj {N:Nat} {f:Nat→Nat} (hl: ∀i,i<N→f i<N) (hi: ∀i j,i<N→j<N→f i=f j→i=j): ∀k,k<N→∃i,i<N∧f i=k:=by
 intro k hk
 have hnd:((List.range N).map f).Nodup:=nodup_map List.nodup_range fun a ha b hb e=>hi a b (List.mem_range.1 ha) (List.mem_range.1 hb) e
 have:=nodup_all hnd (fun x hx=>by
  obtain ⟨a,ha,rfl⟩:=List.mem_map.1 hx
  exact hl a (List.mem_range.1 ha)) (by simp) hk
 obtain ⟨a,ha,e⟩:=List.mem_map.1 this
 exact ⟨a,List.mem_range.1 ha,e⟩
theorem sumlen_app (l r:List (List Pt)):sumlen (l++r)=sumlen l+sumlen r:=by unfold sumlen; rw [List.map_append,List.sum_append]
theorem sumlen_cons (p:List Pt) (l:List (List Pt)):sumlen (p::l)=p.length+sumlen l:=by unfold sumlen; rw [List.map_cons,List.sum_cons]
theorem dec_at: ∀(l:List (List Pt)) (i:Nat),i<sumlen l→∃l1 p l2 t,l=l1++p::l2∧t<p.length∧i=sumlen l1+t
 | [],i,h=>by simp [sumlen] at h
 | p::l,i,h=>by
  rw [sumlen_cons] at h
  by_cases hi:i<p.length
  · exact ⟨[],p,l,i,rfl,hi,by simp [sumlen]⟩
  ·
   obtain ⟨l1,q,l2,t,e,h1,h2⟩:=dec_at l (i-p.length) (by omega)
   exact ⟨p::l1,q,l2,t,by rw [e]; rfl,h1,by rw [sumlen_cons]; omega⟩
theorem eAt_dec {l1 l2:List (List Pt)} {p:List Pt} {t:Nat} (ht:t<p.length):eAt (edS 0 (l1++p::l2)) (sumlen l1+t)=mkE (sumlen l1) p t:=by
 have e:edS 0 (l1++p::l2)=edS 0 l1++(edRow (sumlen l1) p p.length++edS (sumlen l1+p.length) l2):=by
  rw [edS_app,Nat.zero_add]
  rfl
 unfold eAt
 rw [e]
 have h1:=edS_len 0 l1
 have h2:=edRow_len (sumlen l1) p p.length
 have h3:(edS 0 l1++(edRow (sumlen l1) p p.length++edS (sumlen l1+p.length) l2))[sumlen l1+t]? =some (mkE (sumlen l1) p t):=by
  rw [List.getElem?_append_right (by omega),h1,show sumlen l1+t-sumlen l1=t by omega,List.getElem?_append_left (by omega)]
  unfold edRow
  rw [List.getElem?_map,List.getElem?_range ht]
  rfl
 rw [List.getD_eq_getElem?_getD,h3]
 rfl
def nxE (es:List Ed) (i:Nat):Nat:=(eAt es i).2.2.2.toNat
theorem nx_dec {l1 l2:List (List Pt)} {p:List Pt} {t:Nat} (ht:t<p.length):nxE (edS 0 (l1++p::l2)) (sumlen l1+t)=sumlen l1+(t+1)%p.length:=by
 unfold nxE
 rw [eAt_dec ht]
 unfold mkE
 dsimp only
 omega
theorem vsL_mem: ∀(s:Nat) (l:List (List Pt)) (v:List Nat),v∈vsL s l→∃l1 p l2,l=l1++p::l2∧v=ringOf (s+sumlen l1) p.length
 | s,[],v,h=>by cases h
 | s,p::l,v,h=>by
  rw [vsL] at h
  rcases List.mem_cons.1 h with rfl | h
  · exact ⟨[],p,l,rfl,by simp [sumlen]⟩
  ·
   obtain ⟨l1,q,l2,e,e2⟩:=vsL_mem _ l v h
   exact ⟨p::l1,q,l2,by rw [e]; rfl,by rw [e2,sumlen_cons,Nat.add_assoc]⟩
theorem ringOf_at {s m i:Nat} (h:i<m):(ringOf s m)[i]? =some (s+i):=by
 unfold ringOf
 rw [List.getElem?_map,List.getElem?_range h]; rfl
theorem ringOf_len (s m:Nat):(ringOf s m).length=m:=by simp [ringOf]
structure Rg (es:List Ed) (vs:List (List Nat)):Prop where
 nd:vs.flatten.Nodup
 cyc: ∀v∈vs,Cyc (nxE es) v
 mem: ∀c,c∈vs.flatten↔c<es.length
 fst: ∀i,i<es.length→(eAt es i).2.2.1=(i:Int)
 lst: ∀i,i<es.length→(eAt es i).2.2.2=(nxE es i:Int)
 lt: ∀i,i<es.length→nxE es i<es.length
 jn: ∀i,i<es.length→(eAt es (nxE es i)).1=(eAt es i).2.1
theorem rg_edS {l:List (List Pt)} (h: ∀p∈l,p≠[]):Rg (edS 0 l) (vsL 0 l):=by
 have hN:(edS 0 l).length=sumlen l:=edS_len 0 l
 have hpos: ∀p∈l,0<p.length:=fun p hp=>List.length_pos_iff.2 (h p hp)
 have flat:=vsL_flat 0 l
 refine ⟨?_,fun v hv=>?_,fun c=>?_,fun i hi=>?_,fun i hi=>?_,fun i hi=>?_,fun i hi=>?_⟩
 ·
  rw [flat]
  exact nodup_map List.nodup_range fun a _ b _ e=>by omega
 ·
  obtain ⟨l1,p,l2,e,e2⟩:=vsL_mem 0 l v hv
  rw [Nat.zero_add] at e2
  have hp:=hpos p (by rw [e]; simp)
  subst e2
  refine ⟨fun q=>?_,fun i hi=>?_⟩
  ·
   have:=ringOf_len (sumlen l1) p.length
   rw [q] at this
   simp at this
   omega
  ·
   rw [ringOf_len] at hi⊢
   rw [ringOf_at hi,ringOf_at (Nat.mod_lt _ hp),Option.map_some,e,nx_dec hi]
 ·
  rw [flat,hN]
  unfold ringOf
  rw [List.mem_map]
  constructor
  ·
   rintro ⟨a,ha,rfl⟩
   have:=List.mem_range.1 ha
   show 0+a<_
   omega
  ·
   intro hc
   exact ⟨c,List.mem_range.2 hc,Nat.zero_add c⟩
 ·
  obtain ⟨l1,p,l2,t,e,ht,ei⟩:=dec_at l i (by omega)
  rw [e,ei,eAt_dec ht]
  rfl
 ·
  obtain ⟨l1,p,l2,t,e,ht,ei⟩:=dec_at l i (by omega)
  rw [e,ei,nx_dec ht,eAt_dec ht]
  rfl
 ·
  obtain ⟨l1,p,l2,t,e,ht,ei⟩:=dec_at l i (by omega)
  rw [e,ei,nx_dec ht,edS_len,sumlen_app,sumlen_cons]
  have:=Nat.mod_lt (t+1) (show 0<p.length by omega)
  omega
 ·
  obtain ⟨l1,p,l2,t,e,ht,ei⟩:=dec_at l i (by omega)
  have:=Nat.mod_lt (t+1) (show 0<p.length by omega)
  rw [e,ei,nx_dec ht,eAt_dec ht,eAt_dec this]
  rfl
section
variable {es : List Ed} {vs : List (List Nat)} (R : Rg es vs)
include R
theorem Rg.surj {k:Nat} (hk:k<es.length): ∃i,i<es.length∧nxE es i=k:=by
 obtain ⟨v,hv,hkv⟩:=List.mem_flatten.1 ((R.mem k).2 hk)
 obtain ⟨d,hd,e⟩:=cyc_pred (R.cyc v hv) hkv
 exact ⟨d,(R.mem d).1 (List.mem_flatten.2 ⟨v,hv,hd⟩),e⟩
theorem Rg.inj {i j:Nat} (hi:i<es.length) (hj:j<es.length) (e:nxE es i=nxE es j):i=j:=surj_inj (fun k hk=>R.surj hk) i j hi hj e
theorem Rg.adj {i k:Nat} (hi:i<es.length) (hk:k<es.length):Adj (eAt es i) (eAt es k)↔(k=nxE es i∨i=nxE es k):=by
 unfold Adj
 rw [R.fst i hi,R.fst k hk,R.lst i hi,R.lst k hk]
 omega
end
theorem adj_symm {e f:Ed}:Adj e f↔Adj f e:=by unfold Adj; omega
theorem psg_some {es:List Ed} {i k:Nat} {x:Int×Bool}:psg es i k=some x↔x.1=(k:Int)∧k≠i∧¬Adj (eAt es i) (eAt es k)∧(cr (eAt es i).1 (eAt es i).2.1 (eAt es k).1 (eAt es k).2.1).1=1∧x.2=(cr (eAt es i).1 (eAt es i).2.1 (eAt es k).1 (eAt es k).2.1).2:=by
 unfold psg
 by_cases h:k=i∨Adj (eAt es i) (eAt es k)
 ·
  rw [if_pos h]
  refine ⟨fun q=>(by cases q),fun q=>?_⟩
  rcases h with h | h
  · exact absurd h q.2.1
  · exact absurd h q.2.2.1
 ·
  rw [if_neg h]
  by_cases h2:(cr (eAt es i).1 (eAt es i).2.1 (eAt es k).1 (eAt es k).2.1).1=1
  ·
   rw [if_pos h2]
   constructor
   ·
    intro q
    obtain rfl:=Option.some.inj q
    exact ⟨rfl,fun e=>h (.inl e),fun e=>h (.inr e),h2,rfl⟩
   ·
    rintro ⟨a,_,_,_,b⟩
    rw [←a,←b]
  ·
   rw [if_neg h2]
   exact ⟨fun q=>(by cases q),fun q=>absurd q.2.2.2.1 h2⟩
theorem mem_ps {es:List Ed} {i m:Nat} {x:Int×Bool}:x∈ps es i m↔∃k,k<m∧psg es i k=some x:=by
 unfold ps
 rw [List.mem_filterMap]
 exact ⟨fun ⟨k,h1,h2⟩=>⟨k,List.mem_range.1 h1,h2⟩,fun ⟨k,h1,h2⟩=>⟨k,List.mem_range.2 h1,h2⟩⟩
section
variable {es : List Ed} (hF : FitE es) (hN : es.length ≤ 1000000000)
include hF hN
theorem srt_perm {i:Nat} (hi:i<es.length):(srt es i).Perm (ps es i es.length):=(sortL_perm (sort_eq hF hi hN 0).2).1
theorem mem_srt {i:Nat} (hi:i<es.length) {x:Int×Bool}:x∈srt es i↔∃k,k<es.length∧psg es i k=some x:=by
 rw [(srt_perm hF hN hi).mem_iff,mem_ps]
theorem nt_of {vs:List (List Nat)} (R:Rg es vs):Nt es.length (nxE es) vs (srt es):=by
 refine ⟨R.nd,R.cyc,R.mem,fun i hi=>?_,fun i hi x hx=>?_⟩
 ·
  refine ((srt_perm hF hN hi).map (·.1)).nodup_iff.2 ?_
  unfold ps List.Nodup
  rw [List.pairwise_map,List.pairwise_filterMap]
  refine List.nodup_range.imp fun {a b} hab x hx y hy e=>hab ?_
  have h1:=(psg_some.1 hx).1
  have h2:=(psg_some.1 hy).1
  omega
 ·
  obtain ⟨k,hk,h⟩:=(mem_srt hF hN hi).1 hx
  obtain ⟨h1,h2,h3,h4,h5⟩:=psg_some.1 h
  obtain ⟨c1,c2,_⟩:=cr_exch (eAt es i).1 (eAt es i).2.1 (eAt es k).1 (eAt es k).2.1
  refine ⟨k,h1,hk,h2,(mem_srt hF hN hk).2 ⟨i,hi,psg_some.2 ⟨rfl,fun e=>h2 e.symm,fun q=>h3 (adj_symm.1 q),by rw [c1,h4],?_⟩⟩⟩
  rw [c2 h4,←h5]
omit hF hN in
theorem sg_symm {i k:Nat} (o:Bool):sgX es k ((i:Int),!o)=sgX es i ((k:Int),o):=by
 unfold sgX
 dsimp only
 rw [Int.toNat_natCast,Int.toNat_natCast]
 cases o<;>rfl
omit hF hN in
theorem sg_one (q:Psg):sgX es q.1 q.2=1∨sgX es q.1 q.2=-1:=by
 unfold sgX sgE
 split<;>split<;>simp
theorem srt_strict {i:Nat} (hi:i<es.length) (ht: ¬tie es i):(srt es i).Pairwise fun x y=>cmpS es i x y<0:=by
 have h1:(srt es i).Pairwise (fun x y=> ¬cmpS es i y x<0):=(sortL_perm (sort_eq hF hi hN 0).2).2
 have hpos: ∀x∈srt es i,0<whl (eAt es i) (eAt es x.1.toNat):=by
  intro x hx
  obtain ⟨k,hk,h⟩:=(mem_srt hF hN hi).1 hx
  obtain ⟨e1,_,_,h4,_⟩:=psg_some.1 h
  have:=(cr_one h4).2
  rw [e1,Int.toNat_natCast]
  unfold Opp at this
  unfold whl
  omega
 have trans: ∀x∈srt es i,∀y∈srt es i,∀z∈srt es i,cmpS es i x y<0→cmpS es i y z≤0→cmpS es i x z<0:=by
  intro x hx y hy z hz h1 h2
  have a:=hpos x hx
  have b:=hpos y hy
  have c:=hpos z hz
  unfold cmpS at*
  generalize prt (eAt es i) (eAt es x.1.toNat)=p1 at*
  generalize prt (eAt es i) (eAt es y.1.toNat)=p2 at*
  generalize prt (eAt es i) (eAt es z.1.toNat)=p3 at*
  generalize whl (eAt es i) (eAt es x.1.toNat)=w1 at*
  generalize whl (eAt es i) (eAt es y.1.toNat)=w2 at*
  generalize whl (eAt es i) (eAt es z.1.toNat)=w3 at*
  have e1:p1*w2*w3<p2*w1*w3:=Int.mul_lt_mul_of_pos_right (by omega) c
  have e2:p2*w3*w1≤p3*w2*w1:=Int.mul_le_mul_of_nonneg_right (by omega) (by omega)
  have e3:w2*(p1*w3)<w2*(p3*w1):=by
   have q1:w2*(p1*w3)=p1*w2*w3:=by grind
   have q2:w2*(p3*w1)=p3*w2*w1:=by grind
   have q3:p2*w1*w3=p2*w3*w1:=by grind
   omega
  have:=Int.lt_of_mul_lt_mul_left e3 (by omega)
  omega
 have adjn: ∀k (hk:k+1<(srt es i).length),cmpS es i ((srt es i)[k]'(by omega)) ((srt es i)[k+1]'hk)<0:=by
  intro k hk
  have hp:=List.pairwise_iff_getElem.1 h1 k (k+1) (by omega) hk (by omega)
  have hz:cmpS es i ((srt es i)[k]'(by omega)) ((srt es i)[k+1]'hk)≠0:=fun e=>ht ⟨k+1,by omega,hk,by
   rw [getD_of' hk,show k+1-1=k from rfl,getD_of' (show k<(srt es i).length by omega)]; exact e⟩
  have hs:cmpS es i ((srt es i)[k+1]'hk) ((srt es i)[k]'(by omega))=- cmpS es i ((srt es i)[k]'(by omega)) ((srt es i)[k+1]'hk):=by
   unfold cmpS; omega
  omega
 rw [List.pairwise_iff_getElem]
 intro a b ha hb hab
 have key: ∀d,∀hd:a+1+d<(srt es i).length,cmpS es i ((srt es i)[a]'ha) ((srt es i)[a+1+d]'hd)<0:=by
  intro d
  induction d with
  | zero=>intro hd; exact adjn a hd
  | succ d ih=>
   intro hd
   exact trans _ (List.getElem_mem _) _ (List.getElem_mem (show a+1+d<_ by omega)) _ (List.getElem_mem _) (ih (by omega)) (Int.le_of_lt (adjn (a+1+d) hd))
 have:=key (b-(a+1)) (by omega)
 have e:a+1+(b-(a+1))=b:=by omega
 simp only [e] at this
 exact this
end
theorem sorted_one {α:Type} {S R:α→α→Prop}: ∀{l1 l2:List α},l1.Perm l2→l1.Pairwise S→l2.Pairwise R→(∀a∈l1,∀b∈l1,S a b→R b a→False)→l1=l2
 | [],l2,h,_,_,_=>h.nil_eq
 | a::t,[],h,_,_,_=>absurd h.length_eq (by simp)
 | a::t,b::u,h,h1,h2,h3=>by
  obtain ⟨s1,s2⟩:=List.pairwise_cons.1 h1
  obtain ⟨r1,r2⟩:=List.pairwise_cons.1 h2
  have hab:a=b:=by
   have hb:b∈a::t:=h.mem_iff.2 (by simp)
   have ha:a∈b::u:=h.mem_iff.1 (by simp)
   rcases List.mem_cons.1 hb with e | hb
   · exact e.symm
   rcases List.mem_cons.1 ha with e | ha
   · exact e
   · exact (h3 a (by simp) b (by simp [hb]) (s1 b hb) (r1 a ha)).elim
  subst hab
  rw [sorted_one ((List.perm_cons a).1 h) s2 r2 fun x hx y hy=>h3 x (by simp [hx]) y (by simp [hy])]
theorem iso_of {n:Nat} {sg sg':List Int} {μ μ' τ σ π:Nat→Nat} (t:Tau τ σ) (hl: ∀c,c<n→π c<n) (hi: ∀a b,a<n→b<n→π a=π b→a=b) (hs: ∀c,c<n→sg'.getD (π c) 0=sg.getD c 0)
  (hm: ∀h,h<4*n→μ' (Tm π (τ h))=Tm π (τ (μ h))):Iso n sg (mvd2 μ τ σ) sg' μ' π:=by
 refine ⟨hl,hi,hs,fun c s hc h4=>?_⟩
 have:=hm (σ (4*c+s)) (t.lt' (by omega))
 rw [t.r] at this
 unfold Tm at this
 rw [show (4*c+s)/ 4=c by omega,show (4*c+s)%4=s by omega] at this
 exact this
def orv (rev:Bool) (l:List (Int×Bool)):List (Int×Bool):=if rev then l.reverse else l
theorem mem_orv {rev:Bool} {l:List (Int×Bool)} {x:Int×Bool}:x∈orv rev l↔x∈l:=by
 unfold orv
 split
 · exact List.mem_reverse
 · exact Iff.rfl
def fx (φ:Nat→Nat) (x:Int×Bool):Int×Bool:=((φ x.1.toNat:Int),x.2)
def fq (φ:Nat→Nat) (q:Psg):Psg:=(φ q.1,fx φ q.2)
structure Mph (N:Nat) (nx:Nat→Nat) (P:Nat→List (Int×Bool)) (nx':Nat→Nat) (P':Nat→List (Int×Bool)) (φ ψ:Nat→Nat) (rev:Bool):Prop where
 lt: ∀i,i<N→φ i<N
 lt': ∀i,i<N→ψ i<N
 l: ∀i,i<N→ψ (φ i)=i
 r: ∀i,i<N→φ (ψ i)=i
 nx: ∀i,i<N→if rev then nx' (φ (nx i))=φ i else nx' (φ i)=φ (nx i)
 row: ∀i,i<N→P' (φ i)=orv rev ((P i).map (fx φ))
section
variable {N : Nat} {nx nx' : Nat → Nat} {vs vs' : List (List Nat)} {P P' : Nat → List (Int × Bool)} (h : Nt N nx vs P) (h' : Nt N nx' vs' P') {φ ψ : Nat → Nat} {rev : Bool} (m : Mph N nx P nx' P' φ ψ rev)
theorem fx_fx {φ ψ:Nat→Nat} {x:Int×Bool} {k:Nat} (e:x.1=(k:Int)) (hk:ψ (φ k)=k):fx ψ (fx φ x)=x:=by
 obtain ⟨z,o⟩:=x
 dsimp only at e
 subst e
 unfold fx
 dsimp only
 rw [Int.toNat_natCast,Int.toNat_natCast,hk]
include h in
theorem Nt.nxlt {i:Nat} (hi:i<N):nx i<N:=by
 obtain ⟨v,hv,hiv⟩:=List.mem_flatten.1 ((h.mem i).2 hi)
 obtain ⟨k,hk,e⟩:=List.getElem_of_mem hiv
 have:=ring_at (h.cyc v hv) (show v[k]? =some i by rw [gE hk,e])
 exact (h.mem _).1 (List.mem_flatten.2 ⟨v,hv,List.mem_of_getElem? this⟩)
include h in
theorem Nt.nxsurj {k:Nat} (hk:k<N): ∃i,i<N∧nx i=k:=by
 obtain ⟨v,hv,hkv⟩:=List.mem_flatten.1 ((h.mem k).2 hk)
 obtain ⟨d,hd,e⟩:=cyc_pred (h.cyc v hv) hkv
 exact ⟨d,(h.mem d).1 (List.mem_flatten.2 ⟨v,hv,hd⟩),e⟩
include h h' m in
theorem Mph.symm:Mph N nx' P' nx P ψ φ rev:=by
 refine ⟨m.lt',m.lt,m.r,m.l,fun j hj=>?_,fun j hj=>?_⟩
 ·
  cases rev with
  | false=>
   have:=m.nx (ψ j) (m.lt' j hj)
   simp only [Bool.false_eq_true,if_false] at this⊢
   rw [m.r j hj] at this
   rw [this,m.l _ (h.nxlt (m.lt' j hj))]
  | true=>
   simp only [if_true]
   have hn:=h'.nxlt hj
   obtain ⟨i,hi,e⟩:=h.nxsurj (m.lt' j hj)
   have:=m.nx i hi
   simp only [if_true] at this
   rw [e,m.r j hj] at this
   rw [this,m.l i hi,e]
 ·
  have:=m.row (ψ j) (m.lt' j hj)
  rw [m.r j hj] at this
  rw [this]
  have hid:((P (ψ j)).map (fx φ)).map (fx ψ)=P (ψ j):=by
   rw [List.map_map]
   conv=>rhs; rw [←List.map_id (P (ψ j))]
   refine List.map_congr_left fun x hx=>?_
   obtain ⟨k,e,hk,_⟩:=h.sym _ (m.lt' j hj) x hx
   exact fx_fx e (m.l k hk)
  unfold orv
  cases rev with
  | false=>simp only [Bool.false_eq_true,if_false]; rw [hid]
  | true=>simp only [if_true]; rw [List.map_reverse,List.reverse_reverse,hid]
include m in
theorem Mph.mem {i:Nat} (hi:i<N) {x:Int×Bool} (hx:x∈P i):fx φ x∈P' (φ i):=by
 rw [m.row i hi,mem_orv]
 exact List.mem_map.2 ⟨x,hx,rfl⟩
def piN (F F':List Psg) (φ:Nat→Nat) (c:Nat):Nat:=(F'.map kq).idxOf (kq (fq φ (F.getD c (0,(0,false)))))
include h m in
theorem Mph.keys {i j:Nat} (hi:i<N) (hj:j<N) {x y:Int×Bool} (hx:x∈P i) (hy:y∈P j):kq (fq φ (i,x))=kq (fq φ (j,y))↔kq (i,x)=kq (j,y):=by
 obtain ⟨k,e1,hk,_⟩:=h.sym i hi x hx
 obtain ⟨k',e2,hk',_⟩:=h.sym j hj y hy
 have inj: ∀a b,a<N→b<N→φ a=φ b→a=b:=fun a b ha hb e=>by rw [←m.l a ha,←m.l b hb,e]
 unfold kq fq fx
 dsimp only
 rw [e1,e2,Int.toNat_natCast,Int.toNat_natCast,kv_eq,kv_eq]
 constructor
 ·
  rintro (⟨a,b⟩ | ⟨a,b⟩)
  · exact .inl ⟨inj _ _ hi hj a,inj _ _ hk hk' b⟩
  · exact .inr ⟨inj _ _ hi hk' a,inj _ _ hk hj b⟩
 ·
  rintro (⟨a,b⟩ | ⟨a,b⟩)
  · exact .inl ⟨by rw [a],by rw [b]⟩
  · exact .inr ⟨by rw [a],by rw [b]⟩
include h m in
theorem Mph.vnum {i:Nat} (hi:i<N) {x:Int×Bool} (hx:x∈P i):vn (fsN P' vs') (φ i) (fx φ x)=((piN (fsN P vs) (fsN P' vs') φ (vn (fsN P vs) i x).1.toNat:Int),x.2):=by
 have hk:=h.fkey hi hx
 have hlt:=List.idxOf_lt_length_of_mem hk
 have hat:=List.getElem_idxOf hlt
 have hlt':=hlt
 rw [List.length_map] at hlt'
 rw [List.getElem_map] at hat
 obtain ⟨m1,m2⟩:=h.fmem (List.getElem_mem hlt')
 have e0:(vn (fsN P vs) i x).1.toNat=((fsN P vs).map kq).idxOf (kv i x.1):=by unfold Pg.vn; dsimp only; omega
 rw [e0]
 unfold piN Pg.vn
 rw [getD_of' hlt']
 have e1:=(m.keys h hi m1 hx m2).2 hat.symm
 refine Prod.ext ?_ rfl
 dsimp only
 rw [show fq φ (fsN P vs)[((fsN P vs).map kq).idxOf (kv i x.1)]=fq φ ((fsN P vs)[((fsN P vs).map kq).idxOf (kv i x.1)].1,(fsN P vs)[((fsN P vs).map kq).idxOf (kv i x.1)].2) from rfl,←e1]
 rfl
include h h' m in
theorem Mph.pi_lt {c:Nat} (hc:c<(fsN P vs).length):piN (fsN P vs) (fsN P' vs') φ c<(fsN P' vs').length∧((fsN P' vs').map kq)[piN (fsN P vs) (fsN P' vs') φ c]? =some (kq (fq φ (fsN P vs)[c])):=by
 obtain ⟨m1,m2⟩:=h.fmem (List.getElem_mem hc)
 have hk:kq (fq φ (fsN P vs)[c])∈(fsN P' vs').map kq:=h'.fkey (m.lt _ m1) (m.mem m1 m2)
 have hlt:=List.idxOf_lt_length_of_mem hk
 unfold piN
 rw [getD_of' hc]
 refine ⟨by rw [List.length_map] at hlt; exact hlt,?_⟩
 rw [gE hlt,List.getElem_idxOf]
include h h' m in
theorem Mph.pi_inj {a b:Nat} (ha:a<(fsN P vs).length) (hb:b<(fsN P vs).length) (e:piN (fsN P vs) (fsN P' vs') φ a=piN (fsN P vs) (fsN P' vs') φ b):a=b:=by
 have h1:=(m.pi_lt h h' ha).2
 have h2:=(m.pi_lt h h' hb).2
 rw [e,h2] at h1
 obtain ⟨a1,a2⟩:=h.fmem (List.getElem_mem ha)
 obtain ⟨b1,b2⟩:=h.fmem (List.getElem_mem hb)
 have:=(m.keys h b1 a1 b2 a2).1 (Option.some.inj h1)
 have hn:=fnodup (P:=P) (vs:=vs)
 have ea:((fsN P vs).map kq)[a]? =some (kq (fsN P vs)[a]):=by rw [List.getElem?_map,gE ha]; rfl
 have eb:((fsN P vs).map kq)[b]? =some (kq (fsN P vs)[b]):=by rw [List.getElem?_map,gE hb]; rfl
 have e2:kq (fsN P vs)[b]=kq (fsN P vs)[a]:=this
 rw [e2] at eb
 exact (List.getElem?_inj (by rw [List.length_map]; exact ha) hn).1 (ea.trans eb.symm)
include h h' m in
theorem Mph.len_le:(fsN P vs).length≤(fsN P' vs').length:=by
 have hnd:((List.range (fsN P vs).length).map (piN (fsN P vs) (fsN P' vs') φ)).Nodup:=nodup_map List.nodup_range fun a ha b hb e=>m.pi_inj h h' (List.mem_range.1 ha) (List.mem_range.1 hb) e
 have:=nodup_lt (N:=(fsN P' vs').length) hnd fun x hx=>by
  obtain ⟨c,hc,rfl⟩:=List.mem_map.1 hx
  exact (m.pi_lt h h' (List.mem_range.1 hc)).1
 rw [List.length_map,List.length_range] at this
 exact this
include h h' m in
theorem Mph.len:(fsN P' vs').length=(fsN P vs).length:=Nat.le_antisymm ((m.symm h h').len_le h' h) (m.len_le h h')
include h h' m in
theorem Mph.sg {sx sx':Psg→Int} (hx: ∀i,i<N→∀x∈P i,sx' (φ i,fx φ x)=sx (i,x)) (hs: ∀(i k:Nat) (o:Bool),sx' (k,((i:Int),!o))=sx' (i,((k:Int),o))) {c:Nat} (hc:c<(fsN P vs).length):
  ((fsN P' vs').map sx').getD (piN (fsN P vs) (fsN P' vs') φ c) 0=((fsN P vs).map sx).getD c 0:=by
 obtain ⟨p1,p2⟩:=m.pi_lt h h' hc
 obtain ⟨m1,m2⟩:=h.fmem (List.getElem_mem hc)
 rw [getD_of' (by rw [List.length_map]; exact p1),getD_of' (by rw [List.length_map]; exact hc),List.getElem_map,List.getElem_map]
 have e1:sx (fsN P vs)[c]=sx' (fq φ (fsN P vs)[c]):=(hx _ m1 _ m2).symm
 rw [e1]
 obtain ⟨n1,n2⟩:=h'.fmem (List.getElem_mem p1)
 rw [List.getElem?_map,gE p1] at p2
 have p3:=Option.some.inj p2
 rcases h'.same (m.lt _ m1) n1 (m.mem m1 m2) n2 p3.symm with ⟨a,b⟩ | ⟨a,b⟩
 ·
  have:(fsN P' vs')[piN (fsN P vs) (fsN P' vs') φ c]=fq φ (fsN P vs)[c]:=Prod.ext a b
  rw [this]
 ·
  have e2:(fsN P' vs')[piN (fsN P vs) (fsN P' vs') φ c]=((fsN P' vs')[piN (fsN P vs) (fsN P' vs') φ c].1,((φ (fsN P vs)[c].1:Int),!(fx φ (fsN P vs)[c].2).2)):=Prod.ext rfl b
  rw [e2,hs]
  congr 1
  exact Prod.ext rfl (Prod.ext a.symm rfl)
end
theorem inH_tm {sg sg':List Int} {π:Nat→Nat} {c:Nat} (o:Bool) (h:sg'.getD (π c) 0=sg.getD c 0):Tm π (inH sg ((c:Int),o))=inH sg' ((π c:Int),o)∧Tm π (outH sg ((c:Int),o))=outH sg' ((π c:Int),o):=by
 unfold Tm inH outH
 dsimp only
 rw [Int.toNat_natCast,Int.toNat_natCast,h]
 constructor
 ·
  have: ∀b,b<4→4*π ((4*c+b)/ 4)+(4*c+b)%4=4*π c+b:=fun b hb=>by
   rw [show (4*c+b)/ 4=c by omega]; omega
  apply this
  split
  · split<;>omega
  · omega
 ·
  have: ∀b,b<4→4*π ((4*c+b)/ 4)+(4*c+b)%4=4*π c+b:=fun b hb=>by
   rw [show (4*c+b)/ 4=c by omega]; omega
  apply this
  split
  · split<;>omega
  · omega
def tv (rev:Bool) (h:Nat):Nat:=if rev then rv h else h
theorem tv_tau (rev:Bool):Tau (tv rev) (tv rev):=by
 cases rev with
 | true=>exact rv_tau
 | false=>exact ⟨fun _=>rfl,fun _=>rfl,fun _=>rfl,fun _=>rfl⟩
theorem rv_in (sg:List Int) (u:Vis):rv (inH sg u)=outH sg u∧rv (outH sg u)=inH sg u:=by
 unfold rv inH outH turnN
 cases u.2<;>simp only [Bool.false_eq_true,if_false,if_true]
 · omega
 · split<;>omega
theorem Mph.mates {N:Nat} {nx nx':Nat→Nat} {vs vs':List (List Nat)} {P P':Nat→List (Int×Bool)} (h:Nt N nx vs P) (h':Nt N nx' vs' P') {φ ψ:Nat→Nat} {rev:Bool} (m:Mph N nx P nx' P' φ ψ rev) {sx sx':Psg→Int} (hx: ∀i,i<N→∀x∈P i,sx' (φ i,fx φ x)=sx (i,x)) (hs: ∀(i k:Nat) (o:Bool),sx' (k,((i:Int),!o))=sx' (i,((k:Int),o)))
  (h1: ∀q,sx q=1∨sx q=-1) (h1': ∀q,sx' q=1∨sx' q=-1) (h64:(fsN P vs).length≤64) (hv:vs.length≤64) (hv':vs'.length≤64):
  ∀k,k<4*(fsN P vs).length→muS ((fsN P' vs').map sx') (csR (prt' P' (fsN P' vs')) vs') (Tm (piN (fsN P vs) (fsN P' vs') φ) (tv rev k))=Tm (piN (fsN P vs) (fsN P' vs') φ) (tv rev (muS ((fsN P vs).map sx) (csR (prt' P (fsN P vs)) vs) k)):=by
 have G:=h.gv h1 h64 hv
 have hlen:=m.len h h'
 have G':=h'.gv h1' (by omega) hv'
 have M':=G'.mt
 obtain ⟨A,hA⟩:=walkR G' h'.nd h'.cyc
 have hsg:=fun c hc=>m.sg h h' hx hs (c:=c) hc
 have hpl:=fun c hc=>(m.pi_lt h h' (c:=c) hc).1
 have hvn:=fun i hi x hx=>m.vnum h (vs':=vs') (i:=i) hi (x:=x) hx
 have hvl:=fun i hi x hx=>h.vn_lt (i:=i) hi (x:=x) hx
 generalize hπ:piN (fsN P vs) (fsN P' vs') φ=π at*
 generalize hμ:muS ((fsN P' vs').map sx') (csR (prt' P' (fsN P' vs')) vs')=μ' at*
 have flt: ∀k,k<4*(fsN P vs).length→Tm π (tv rev k)<4*((fsN P' vs').map sx').length:=fun k hk=>by
  have hq:=(tv_tau rev).q k
  have:=hpl (tv rev k/ 4) (by omega)
  rw [List.length_map]
  unfold Tm
  omega
 have inout: ∀i,i<N→∀x∈P i,Tm π (inH ((fsN P vs).map sx) (vn (fsN P vs) i x))=inH ((fsN P' vs').map sx') (vn (fsN P' vs') (φ i) (fx φ x))∧Tm π (outH ((fsN P vs).map sx) (vn (fsN P vs) i x))=outH ((fsN P' vs').map sx') (vn (fsN P' vs') (φ i) (fx φ x)):=fun i hi x hx=>by
  obtain ⟨l0,l1⟩:=hvl i hi x hx
  have e:vn (fsN P vs) i x=(((vn (fsN P vs) i x).1.toNat:Int),x.2):=Prod.ext (by dsimp only; omega) rfl
  have:=inH_tm (sg:=(fsN P vs).map sx) (sg':=(fsN P' vs').map sx') (π:=π) (c:=(vn (fsN P vs) i x).1.toNat) x.2 (hsg _ (by omega))
  rw [←e,←hvn i hi x hx] at this
  exact this
 have res:=matesR (part:=prt' P (fsN P vs)) (vs:=vs) (sg:=(fsN P vs).map sx) G h.cyc (f:=fun k=>Tm π (tv rev k)) (μ':=μ') (A:=fun c=>if rev then μ' (A (nx' (φ c))) else A (φ c)) (fun k hk=>by
   rw [List.length_map] at hk
   exact (M'.2 _ (flt k hk)).2.2.1) (fun c hc=>by
  have hcn:=(h.mem c).1 hc
  have hch:=hA (φ c) ((h'.mem _).2 (m.lt c hcn))
  have hnx:=m.nx c hcn
  unfold prt' at hch⊢
  rw [m.row c hcn] at hch
  cases rev with
  | false=>
   simp only [Bool.false_eq_true,if_false,orv,tv] at hch hnx⊢
   rw [hnx,List.map_map] at hch
   rw [Ch.map] at hch⊢
   refine Ch.congr (fun x hx=>?_) hch
   obtain ⟨a,b⟩:=inout c hcn x hx
   exact ⟨a.symm,congrArg μ' b.symm⟩
  | true=>
   simp only [if_true,orv,tv] at hch hnx⊢
   rw [hnx]
   rw [List.map_reverse,List.map_map] at hch
   have hr:=Ch.rev (m:=μ') (E:=inH ((fsN P' vs').map sx')) (S:=outH ((fsN P' vs').map sx')) (fun u hu=>?_) hch
   ·
    rw [List.reverse_reverse,Ch.map] at hr
    rw [Ch.map]
    refine Ch.congr (fun x hx=>?_) hr
    obtain ⟨a,b⟩:=inout c hcn x hx
    rw [(rv_in _ _).1,(rv_in _ _).2]
    exact ⟨b.symm,congrArg μ' a.symm⟩
   ·
    rw [List.mem_reverse] at hu
    obtain ⟨x,hx,rfl⟩:=List.mem_map.1 hu
    have hl:=h'.vn_lt (m.lt c hcn) (m.mem hcn hx)
    exact (M'.2 _ (ends_lt hl.1 (by rw [List.length_map]; exact hl.2)).2).2.2.1)
 intro k hk
 exact res k (by rw [List.length_map]; exact hk)
theorem Mph.lo_le {N:Nat} {nx nx':Nat→Nat} {vs vs':List (List Nat)} {P P':Nat→List (Int×Bool)} (h:Nt N nx vs P) (h':Nt N nx' vs' P') {φ ψ:Nat→Nat} {rev:Bool} (m:Mph N nx P nx' P' φ ψ rev) (F F':List Psg):loR (prt' P F) vs≤loR (prt' P' F') vs':=by
 have hclo: ∀v∈vs,∀c∈v,∃d∈v,nx' (φ c)=φ d:=by
  intro v hv c hc
  have hcn:=(h.mem c).1 (List.mem_flatten.2 ⟨v,hv,hc⟩)
  cases rev with
  | false=>
   have:=m.nx c hcn
   simp only [Bool.false_eq_true,if_false] at this
   obtain ⟨k,hk,e⟩:=List.getElem_of_mem hc
   exact ⟨nx c,List.mem_of_getElem? (ring_at (h.cyc v hv) (show v[k]? =some c by rw [gE hk,e])),this⟩
  | true=>
   obtain ⟨d,hd,e⟩:=cyc_pred (h.cyc v hv) hc
   have hdn:=(h.mem d).1 (List.mem_flatten.2 ⟨v,hv,hd⟩)
   have:=m.nx d hdn
   simp only [if_true] at this
   rw [e] at this
   exact ⟨d,hd,this⟩
 have mk: ∀v,∃v',v∈vs→v'∈vs'∧(∃c∈v,φ c∈v')∧∀b∈v',∃d∈v,b=φ d:=by
  intro v
  by_cases hv:v∈vs
  ·
   obtain ⟨c,hcm⟩:=List.exists_mem_of_ne_nil v (h.cyc v hv).1
   have hcn:=(h.mem c).1 (List.mem_flatten.2 ⟨v,hv,hcm⟩)
   have hm:=(h'.mem _).2 (m.lt c hcn)
   obtain ⟨v',hv',hfc⟩:=List.mem_flatten.1 hm
   refine ⟨v',fun _=>⟨hv',⟨c,hcm,hfc⟩,?_⟩⟩
   refine cyc_closed (h'.cyc v' hv') (S:=fun b=> ∃d∈v,b=φ d) (fun b ⟨d,hd,e⟩=>?_) hfc ⟨c,hcm,rfl⟩
   obtain ⟨d',hd',e'⟩:=hclo v hv d hd
   exact ⟨d',hd',by rw [e,e']⟩
  · exact ⟨[],fun h=>absurd h hv⟩
 obtain ⟨G,hG⟩:=Classical.skolem.1 mk
 have key:(vs.filter fun v=>(v.flatMap (prt' P F)).isEmpty).length≤(vs'.filter fun v=>(v.flatMap (prt' P' F')).isEmpty).length:=by
  have hvn:vs.Nodup:=by
   have:=h.nd
   unfold List.Nodup at this
   rw [List.pairwise_flatten] at this
   refine List.Pairwise.imp_of_mem (fun {a b} ha hb h1 e=>?_) this.2
   subst e
   obtain ⟨c,hcm⟩:=List.exists_mem_of_ne_nil a (h.cyc a ha).1
   exact h1 c hcm c hcm rfl
  have hnd:((vs.filter fun v=>(v.flatMap (prt' P F)).isEmpty).map G).Nodup:=by
   refine nodup_map (List.Nodup.sublist List.filter_sublist hvn) fun a ha b hb e=>?_
   have ha:=(List.mem_filter.1 ha).1
   have hb:=(List.mem_filter.1 hb).1
   obtain ⟨_,⟨c,hcm,hfc⟩,_⟩:=hG b hb
   obtain ⟨_,_,h3⟩:=hG a ha
   rw [←e] at hfc
   obtain ⟨d,hd,e2⟩:=h3 _ hfc
   have hcn:=(h.mem c).1 (List.mem_flatten.2 ⟨b,hb,hcm⟩)
   have hdn:=(h.mem d).1 (List.mem_flatten.2 ⟨a,ha,hd⟩)
   have:c=d:=by rw [←m.l c hcn,←m.l d hdn,e2]
   subst this
   have hn:=h.nd
   unfold List.Nodup at hn
   rw [List.pairwise_flatten] at hn
   obtain ⟨i,hi1,e3⟩:=List.getElem_of_mem ha
   obtain ⟨j,hj1,e4⟩:=List.getElem_of_mem hb
   rcases Nat.lt_trichotomy i j with q | q | q
   · exact absurd rfl (List.pairwise_iff_getElem.1 hn.2 i j hi1 hj1 q c (e3▸hd) c (e4▸hcm))
   · subst q; rw [←e3,←e4]
   · exact absurd rfl (List.pairwise_iff_getElem.1 hn.2 j i hj1 hi1 q c (e4▸hcm) c (e3▸hd))
  have:=sub_len (l2:=vs'.filter fun v=>(v.flatMap (prt' P' F')).isEmpty) hnd fun w hw=>by
   obtain ⟨v,hv,rfl⟩:=List.mem_map.1 hw
   obtain ⟨hv,hem⟩:=List.mem_filter.1 hv
   obtain ⟨h1,_,h3⟩:=hG v hv
   rw [List.isEmpty_iff,List.flatMap_eq_nil_iff] at hem
   refine List.mem_filter.2 ⟨h1,?_⟩
   rw [List.isEmpty_iff,List.flatMap_eq_nil_iff]
   intro b hb
   obtain ⟨d,hd,e⟩:=h3 b hb
   have hdn:=(h.mem d).1 (List.mem_flatten.2 ⟨v,hv,hd⟩)
   have h0:=hem d hd
   unfold prt' at h0⊢
   rw [List.map_eq_nil_iff] at h0⊢
   rw [e,m.row d hdn,h0]
   unfold orv
   split<;>rfl
  rw [List.length_map] at this
  exact this
 have conv: ∀(part:Nat→List Vis) (vs:List (List Nat)),loR part vs=((vs.filter fun v=>(v.flatMap part).isEmpty).length:Int):=by
  intro part vs
  unfold loR
  rw [List.filter_map,List.length_map]
  rfl
 rw [conv,conv]
 omega
theorem gen2_iso {n:Nat} {sg sg' M M':List Int} {μ μ' π:Nat→Nat} (hM:MT (4*n) M μ) (hM':MT (4*n) M' μ') (I:Iso n sg μ sg' μ' π):gen2 n μ'=gen2 n μ:=by
 have ex: ∀y,∃c,y<n→c<n∧π c=y:=fun y=>by
  by_cases hy:y<n
  ·
   obtain ⟨c,hc⟩:=inj_surj I.lt I.inj y hy
   exact ⟨c,fun _=>hc⟩
  · exact ⟨0,fun h=>absurd h hy⟩
 obtain ⟨ρ,hρ⟩:=Classical.skolem.1 ex
 have rl: ∀c,c<n→ρ (π c)=c:=fun c hc=>I.inj _ _ (hρ _ (I.lt c hc)).1 hc (hρ _ (I.lt c hc)).2
 have mu: ∀h,h<4*n→μ' (Tm π h)=Tm π (μ h):=fun h hh=>by
  have:=I.mu (h/ 4) (h%4) (by omega) (by omega)
  rw [show 4*(h/ 4)+h%4=h by omega] at this
  exact this
 have tq: ∀h,Tm π h/ 4=π (h/ 4)∧Tm π h%4=h%4:=fun h=>by unfold Tm; omega
 have tr: ∀h,Tm ρ h/ 4=ρ (h/ 4)∧Tm ρ h%4=h%4:=fun h=>by unfold Tm; omega
 have tl: ∀h,h<4*n→Tm π h<4*n:=fun h hh=>by have:=I.lt (h/ 4) (by omega); unfold Tm; omega
 have tl': ∀h,h<4*n→Tm ρ h<4*n:=fun h hh=>by have:=(hρ (h/ 4) (by omega)).1; unfold Tm; omega
 have fg: ∀h,h<4*n→Tm π (Tm ρ h)=h:=fun h hh=>by
  have:=(hρ (h/ 4) (by omega)).2
  obtain ⟨a,b⟩:=tr h
  unfold Tm at a b⊢
  rw [a,b,this]; omega
 have gf: ∀h,h<4*n→Tm ρ (Tm π h)=h:=fun h hh=>by
  have:=rl (h/ 4) (by omega)
  obtain ⟨a,b⟩:=tq h
  unfold Tm at a b⊢
  rw [a,b,this]; omega
 have tt: ∀h k,turnN (Tm π h) k=Tm π (turnN h k):=fun h k=>by
  obtain ⟨a,b⟩:=tq h
  have c:turnN h k/ 4=h/ 4:=turn_q h k
  have d:turnN h k%4=(h%4+k)%4:=by unfold turnN; omega
  unfold turnN at c d⊢
  rw [a,b]
  unfold Tm
  rw [c,d]
 have hfc: ∀h,h<4*n→fc μ' (Tm π h)=Tm π (fc μ h):=fun h hh=>by unfold fc; rw [mu h hh,tt]
 have hp:cls n (adjP n μ)=cls n (adjP n μ'):=by
  refine cls_eq_of (adjP_symm hM) (adjP_symm hM') π ρ I.lt (fun a ha=>(hρ a ha).1) (fun a ha=>(hρ a ha).2) rl (fun a b hab=>?_) fun a b hab=>?_
  ·
   obtain ⟨h1,h2,s,hs,rfl⟩:=hab
   refine Cn.one ⟨I.lt a h1,I.lt _ h2,s,hs,?_⟩
   rw [I.mu a s h1 hs]; omega
  ·
   obtain ⟨h1,h2,s,hs,h3⟩:=hab
   obtain ⟨q1,q2⟩:=hρ a h1
   have:=I.mu (ρ a) s q1 hs
   rw [q2] at this
   have hl:=(hM.2 (4*ρ a+s) (by omega)).2.1
   refine Cn.one ⟨q1,(hρ b h2).1,s,hs,?_⟩
   rw [←h3,this,show (4*π (μ (4*ρ a+s)/ 4)+μ (4*ρ a+s)%4)/ 4=π (μ (4*ρ a+s)/ 4) by omega,rl _ (by omega)]
 have hfcs:cls (4*n) (adjF n μ)=cls (4*n) (adjF n μ'):=by
  refine cls_eq_of adjF_symm adjF_symm (Tm π) (Tm ρ) tl tl' fg gf (fun a b hab=>?_) fun a b hab=>?_
  ·
   obtain ⟨h1,h2,h3⟩:=hab
   refine Cn.one ⟨tl a h1,tl b h2,?_⟩
   rcases h3 with h3 | h3
   · left; rw [hfc a h1,h3]
   · right; rw [hfc b h2,h3]
  ·
   obtain ⟨h1,h2,h3⟩:=hab
   refine Cn.one ⟨tl' a h1,tl' b h2,?_⟩
   have e1:=hfc _ (tl' a h1)
   have e2:=hfc _ (tl' b h2)
   rw [fg a h1] at e1
   rw [fg b h2] at e2
   rcases h3 with h3 | h3
   · left; rw [h3,e1,gf _ (fc_lt hM (tl' a h1))]
   · right; rw [h3,e2,gf _ (fc_lt hM (tl' b h2))]
 unfold gen2
 rw [hp,hfcs]
end Pg
end Go.Proofs.Yteajmbanlohncaa
