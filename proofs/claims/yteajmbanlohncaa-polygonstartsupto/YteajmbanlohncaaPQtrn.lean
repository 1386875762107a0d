import Derived.Test.YteajmbanlohncaaPQmph
import Derived.Test.YteajmbanlohncaaPQfew
set_option linter.unusedVariables false
set_option linter.unusedSimpArgs false
namespace Go.Proofs.Yteajmbanlohncaa
open Ev
namespace Pg
def endsE (rev:Bool) (e:Ed):Pt×Pt:=if rev then (e.2.1,e.1) else (e.1,e.2.1)
theorem T_rev (a b c:Pt):T b a c=- T a b c:=T_swap a b c
theorem cr_flip (a b c d:Pt):cr b a d c=cr a b c d:=by
 rw [cr_swap]
 obtain ⟨x1,x2,x3⟩:=cr_exch d c a b
 obtain ⟨y1,y2,y3⟩:=cr_exch c d a b
 rw [cr_swap c d a b] at x1 x2 x3
 have e1:(cr a b d c).1=(cr a b c d).1:=x1.trans y1.symm
 refine Prod.ext e1 ?_
 by_cases h:(cr c d a b).1=1
 · rw [x2 h,y2 h]
 · rw [(x3 h).2,(y3 h).2]
structure Gm (es es':List Ed) (φ:Nat→Nat) (rev:Bool):Prop where
 len:es'.length=es.length
 lt: ∀i,i<es.length→φ i<es.length
 at': ∀i,i<es.length→endsE false (eAt es' (φ i))=endsE rev (eAt es i)
 inj: ∀i k,i<es.length→k<es.length→φ i=φ k→i=k
theorem starts_inj {es:List Ed} (hg:GenE es) {i k:Nat} (hi:i<es.length) (hk:k<es.length) (e:(eAt es i).1=(eAt es k).1):i=k:=by
 apply Classical.byContradiction
 intro hne
 refine (hg i hi).1 k hk (fun q=>hne q.symm) (.inl ?_)
 rw [e]
 exact ⟨rfl,rfl⟩
theorem ends_inj {es:List Ed} {vs:List (List Nat)} (R:Rg es vs) (hg:GenE es) (rev:Bool) {i k:Nat} (hi:i<es.length) (hk:k<es.length) (e:endsE rev (eAt es i)=endsE rev (eAt es k)):i=k:=by
 cases rev with
 | false=>exact starts_inj hg hi hk (Prod.mk.inj e).1
 | true=>
  have e1:(eAt es i).2.1=(eAt es k).2.1:=(Prod.mk.inj e).1
  rw [←R.jn i hi,←R.jn k hk] at e1
  exact R.inj hi hk (starts_inj hg (R.lt i hi) (R.lt k hk) e1)
theorem eAt_mem {es:List Ed} {i:Nat} (hi:i<es.length):eAt es i∈es:=by
 unfold eAt
 rw [getD_of' hi]
 exact List.getElem_mem hi
theorem gm_of {es es':List Ed} {vs:List (List Nat)} (R:Rg es vs) (hg:GenE es) {rev:Bool} (hp:(es'.map (endsE false)).Perm (es.map (endsE rev))): ∃φ,Gm es es' φ rev:=by
 have hl:es'.length=es.length:=by have:=hp.length_eq; rwa [List.length_map,List.length_map] at this
 have ex: ∀i,∃j,i<es.length→j<es.length∧endsE false (eAt es' j)=endsE rev (eAt es i):=fun i=>by
  by_cases hi:i<es.length
  ·
   have:endsE rev (eAt es i)∈es'.map (endsE false):=hp.mem_iff.2 (List.mem_map.2 ⟨_,eAt_mem hi,rfl⟩)
   obtain ⟨e,he,h2⟩:=List.mem_map.1 this
   obtain ⟨j,hj,h3⟩:=List.getElem_of_mem he
   refine ⟨j,fun _=>⟨by omega,?_⟩⟩
   unfold eAt
   rw [getD_of' hj,h3]
   exact h2
  · exact ⟨0,fun h=>absurd h hi⟩
 obtain ⟨φ,hφ⟩:=Classical.skolem.1 ex
 refine ⟨φ,hl,fun i hi=>(hφ i hi).1,fun i hi=>(hφ i hi).2,fun i k hi hk e=>ends_inj R hg rev hi hk ?_⟩
 rw [←(hφ i hi).2,←(hφ k hk).2,e]
section
variable {es es' : List Ed} {vs vs' : List (List Nat)} {φ : Nat → Nat} {rev : Bool} (hF : FitE es) (hF' : FitE es') (hN : es.length ≤ 1000000000) (R : Rg es vs) (R' : Rg es' vs') (hg : GenE es) (G : Gm es es' φ rev)
include G in
theorem Gm.a {i:Nat} (hi:i<es.length):(eAt es' (φ i)).1=if rev then (eAt es i).2.1 else (eAt es i).1:=by
 have:=G.at' i hi
 unfold endsE at this
 cases rev<;>exact (Prod.mk.inj this).1
include G in
theorem Gm.b {i:Nat} (hi:i<es.length):(eAt es' (φ i)).2.1=if rev then (eAt es i).1 else (eAt es i).2.1:=by
 have:=G.at' i hi
 unfold endsE at this
 cases rev<;>exact (Prod.mk.inj this).2
include G in
theorem Gm.surj {j:Nat} (hj:j<es.length): ∃i,i<es.length∧φ i=j:=inj_surj G.lt G.inj j hj
include R hg G in
theorem Gm.starts {j k:Nat} (hj:j<es.length) (hk:k<es.length) (e:(eAt es' j).1=(eAt es' k).1):j=k:=by
 obtain ⟨i,hi,rfl⟩:=G.surj hj
 obtain ⟨m,hm,rfl⟩:=G.surj hk
 rw [G.a hi,G.a hm] at e
 cases rev with
 | false=>
  simp only [Bool.false_eq_true,if_false] at e
  rw [starts_inj hg hi hm e]
 | true=>
  simp only [if_true] at e
  rw [←R.jn i hi,←R.jn m hm] at e
  rw [R.inj hi hm (starts_inj hg (R.lt i hi) (R.lt m hm) e)]
include R R' hg G in
theorem Gm.nx {i:Nat} (hi:i<es.length):if rev then nxE es' (φ (nxE es i))=φ i else nxE es' (φ i)=φ (nxE es i):=by
 have hn:=R.lt i hi
 have hl:=G.len
 cases rev with
 | false=>
  simp only [Bool.false_eq_true,if_false]
  have h1:=R'.jn (φ i) (by rw [hl]; exact G.lt i hi)
  have h2:=G.b hi
  have h3:=G.a hn
  simp only [Bool.false_eq_true,if_false] at h2 h3
  refine G.starts R hg (by have:=R'.lt (φ i) (by rw [hl]; exact G.lt i hi); omega) (G.lt _ hn) ?_
  rw [h1,h2,h3,R.jn i hi]
 | true=>
  simp only [if_true]
  have h1:=R'.jn (φ (nxE es i)) (by rw [hl]; exact G.lt _ hn)
  have h2:=G.b hn
  have h3:=G.a hi
  simp only [if_true] at h2 h3
  refine G.starts R hg (by have:=R'.lt (φ (nxE es i)) (by rw [hl]; exact G.lt _ hn); omega) (G.lt _ hi) ?_
  rw [h1,h2,h3,R.jn i hi]
include R R' hg G in
theorem Gm.adj {i k:Nat} (hi:i<es.length) (hk:k<es.length):Adj (eAt es' (φ i)) (eAt es' (φ k))↔Adj (eAt es i) (eAt es k):=by
 have hl:=G.len
 have hiN:=G.lt i hi
 have hkN:=G.lt k hk
 rw [R.adj hi hk,R'.adj (by rw [hl]; exact G.lt i hi) (by rw [hl]; exact G.lt k hk)]
 have ni:=G.nx R R' hg hi
 have nk:=G.nx R R' hg hk
 cases rev with
 | false=>
  simp only [Bool.false_eq_true,if_false] at ni nk
  rw [ni,nk]
  constructor
  ·
   rintro (e | e)
   · exact .inl (G.inj _ _ hk (R.lt i hi) e)
   · exact .inr (G.inj _ _ hi (R.lt k hk) e)
  ·
   rintro (e | e)
   · exact .inl (congrArg φ e)
   · exact .inr (congrArg φ e)
 | true=>
  simp only [if_true] at ni nk
  constructor
  ·
   rintro (e | e)
   ·
    obtain ⟨p,hp,rfl⟩:=R.surj hi
    have:=G.nx R R' hg hp
    simp only [if_true] at this
    rw [this] at e
    exact .inr (by rw [G.inj _ _ hk hp e])
   ·
    obtain ⟨p,hp,rfl⟩:=R.surj hk
    have:=G.nx R R' hg hp
    simp only [if_true] at this
    rw [this] at e
    exact .inl (by rw [G.inj _ _ hi hp e])
  ·
   rintro (e | e)
   · rw [e]; exact .inr ni.symm
   · rw [e]; exact .inl nk.symm
include G in
theorem Gm.cr {i k:Nat} (hi:i<es.length) (hk:k<es.length):cr (eAt es' (φ i)).1 (eAt es' (φ i)).2.1 (eAt es' (φ k)).1 (eAt es' (φ k)).2.1=cr (eAt es i).1 (eAt es i).2.1 (eAt es k).1 (eAt es k).2.1:=by
 rw [G.a hi,G.b hi,G.a hk,G.b hk]
 cases rev with
 | false=>rfl
 | true=>exact cr_flip _ _ _ _
include R R' hg G in
theorem Gm.psg {i k:Nat} (hi:i<es.length) (hk:k<es.length) {x:Int×Bool} (h:psg es i k=some x):psg es' (φ i) (φ k)=some (fx φ x):=by
 obtain ⟨h1,h2,h3,h4,h5⟩:=psg_some.1 h
 refine psg_some.2 ⟨?_,fun e=>h2 (G.inj _ _ hk hi e),fun q=>h3 ((G.adj R R' hg hi hk).1 q),by rw [G.cr hi hk]; exact h4,by rw [G.cr hi hk]; exact h5⟩
 unfold fx
 rw [h1,Int.toNat_natCast]
include R R' hg G in
theorem Gm.psg' {i k:Nat} (hi:i<es.length) (hk:k<es.length) {y:Int×Bool} (h:Pg.psg es' (φ i) (φ k)=some y): ∃x,Pg.psg es i k=some x∧fx φ x=y:=by
 obtain ⟨h1,h2,h3,h4,h5⟩:=psg_some.1 h
 rw [G.cr hi hk] at h4 h5
 refine ⟨((k:Int),y.2),psg_some.2 ⟨rfl,fun e=>h2 (by rw [e]),fun q=>h3 ((G.adj R R' hg hi hk).2 q),h4,h5⟩,?_⟩
 unfold fx
 dsimp only
 rw [Int.toNat_natCast,←h1]
include hF hF' hN R R' hg G in
theorem Gm.perm {i:Nat} (hi:i<es.length):(srt es' (φ i)).Perm ((srt es i).map (fx φ)):=by
 have hl:=G.len
 have hN':es'.length≤1000000000:=by omega
 have hiN:φ i<es'.length:=by rw [hl]; exact G.lt i hi
 have T:=nt_of hF hN R
 have T':=nt_of hF' hN' R'
 have nd: ∀{l:List (Int×Bool)},(l.map (·.1)).Nodup→l.Nodup:=fun {l} h=>by
  unfold List.Nodup at h⊢
  rw [List.pairwise_map] at h
  exact h.imp fun hab e=>hab (by rw [e])
 refine nd_perm' (nd (T'.row _ hiN)) (nodup_map (nd (T.row i hi)) fun x hx y hy e=>?_) fun y=>?_
 ·
  obtain ⟨k,e1,hk,_⟩:=T.sym i hi x hx
  obtain ⟨m,e2,hm,_⟩:=T.sym i hi y hy
  unfold fx at e
  obtain ⟨q1,q2⟩:=Prod.mk.inj e
  rw [e1,e2,Int.toNat_natCast,Int.toNat_natCast] at q1
  have:=G.inj k m hk hm (by omega)
  exact Prod.ext (by rw [e1,e2,this]) q2
 ·
  rw [mem_srt hF' hN' hiN,List.mem_map]
  constructor
  ·
   rintro ⟨j,hj,h⟩
   obtain ⟨k,hk,rfl⟩:=G.surj (show j<es.length by omega)
   obtain ⟨x,hx,e⟩:=G.psg' R R' hg hi hk h
   exact ⟨x,(mem_srt hF hN hi).2 ⟨k,hk,hx⟩,e⟩
  ·
   rintro ⟨x,hx,rfl⟩
   obtain ⟨k,hk,h⟩:=(mem_srt hF hN hi).1 hx
   exact ⟨φ k,by rw [hl]; exact G.lt k hk,G.psg R R' hg hi hk h⟩
include hF hN G in
theorem Gm.cmp {i:Nat} (hi:i<es.length) {x y:Int×Bool} (hx:x∈srt es i) (hy:y∈srt es i):cmpS es' (φ i) (fx φ x) (fx φ y)=if rev then -cmpS es i x y else cmpS es i x y:=by
 have one: ∀{x:Int×Bool},x∈srt es i→prt (eAt es' (φ i)) (eAt es' (fx φ x).1.toNat)=(if rev then whl (eAt es i) (eAt es x.1.toNat)-prt (eAt es i) (eAt es x.1.toNat) else prt (eAt es i) (eAt es x.1.toNat))∧whl (eAt es' (φ i)) (eAt es' (fx φ x).1.toNat)=whl (eAt es i) (eAt es x.1.toNat):=by
  intro x hx
  obtain ⟨k,hk,h⟩:=(mem_srt hF hN hi).1 hx
  obtain ⟨h1,_,_,h4,_⟩:=psg_some.1 h
  have hop:=(cr_one h4).2
  unfold fx
  dsimp only
  rw [h1,Int.toNat_natCast,Int.toNat_natCast]
  unfold prt whl
  rw [G.a hi,G.b hi,G.a hk,G.b hk]
  unfold Opp at hop
  cases rev with
  | false=>simp only [Bool.false_eq_true,if_false]; exact ⟨trivial,trivial⟩
  | true=>
   simp only [if_true]
   rw [T_rev (eAt es k).1 (eAt es k).2.1,T_rev (eAt es k).1 (eAt es k).2.1]
   omega
 obtain ⟨p1,w1⟩:=one hx
 obtain ⟨p2,w2⟩:=one hy
 unfold cmpS
 rw [p1,p2,w1,w2]
 cases rev with
 | false=>rfl
 | true=>
  simp only [if_true]
  grind
include hF hF' hN R R' hg G in
theorem Gm.row {i:Nat} (hi:i<es.length):orv rev ((srt es i).map (fx φ))=srt es' (φ i)∧(srt es' (φ i)).Pairwise fun x y=>cmpS es' (φ i) x y<0:=by
 have hl:=G.len
 have hN':es'.length≤1000000000:=by omega
 have hiN:φ i<es'.length:=by rw [hl]; exact G.lt i hi
 have hs:=srt_strict hF hN hi (hg i hi).2
 have h2:(srt es' (φ i)).Pairwise (fun x y=> ¬cmpS es' (φ i) y x<0):=(sortL_perm (Pg.sort_eq hF' hiN hN' 0).2).2
 have h1:(orv rev ((srt es i).map (fx φ))).Pairwise fun x y=>cmpS es' (φ i) x y<0:=by
  have c:=fun x hx y hy=>G.cmp hF hN hi (x:=x) (y:=y) hx hy
  cases rev with
  | false=>
   unfold orv
   simp only [Bool.false_eq_true,if_false] at c⊢
   rw [List.pairwise_map]
   exact List.Pairwise.imp_of_mem (fun {a b} ha hb h=>by rw [c a ha b hb]; exact h) hs
  | true=>
   unfold orv
   simp only [if_true] at c⊢
   rw [List.pairwise_reverse,List.pairwise_map]
   refine List.Pairwise.imp_of_mem (fun {a b} ha hb h=>?_) hs
   rw [c b hb a ha]
   have:cmpS es i b a=- cmpS es i a b:=by unfold cmpS; omega
   omega
 have hp:(orv rev ((srt es i).map (fx φ))).Perm (srt es' (φ i)):=by
  refine List.Perm.trans ?_ (G.perm hF hF' hN R R' hg hi).symm
  unfold orv
  split
  · exact List.reverse_perm _
  · exact List.Perm.refl _
 have e:=sorted_one hp h1 h2 fun a _ b _ s r=>r s
 exact ⟨e,by rw [←e]; exact h1⟩
include hF hF' hN R R' hg G in
theorem Gm.gen:GenE es':=by
 have hl:=G.len
 intro j hj
 obtain ⟨i,hi,rfl⟩:=G.surj (show j<es.length by omega)
 refine ⟨fun k' hk' hne=>?_,?_⟩
 ·
  obtain ⟨k,hk,rfl⟩:=G.surj (show k'<es.length by omega)
  have hki:k≠i:=fun e=>hne (by rw [e])
  have hb:=(hg i hi).1 k hk hki
  unfold BadP at hb⊢
  rw [not_or,not_or] at hb
  rintro (b | ⟨b,c⟩ | ⟨b,c⟩)
  ·
   have hb1:=hb.1
   rw [G.a hi,G.a hk] at b
   cases rev with
   | false=>exact hb1 b
   | true=>
    simp only [if_true] at b
    rw [←R.jn i hi,←R.jn k hk] at b
    exact (hg (nxE es i) (R.lt i hi)).1 (nxE es k) (R.lt k hk) (fun e=>hki (R.inj hk hi e)) (.inl b)
  ·
   rw [R'.fst _ hk',R'.lst _ hj] at b
   have ni:=G.nx R R' hg hi
   have nk:=G.nx R R' hg hk
   rw [G.a hi,G.b hi,G.a hk] at c
   cases rev with
   | false=>
    simp only [Bool.false_eq_true,if_false] at ni c
    rw [ni] at b
    refine hb.2.1 ⟨?_,c⟩
    rw [R.fst k hk,R.lst i hi]
    intro e
    exact b (by rw [show k=nxE es i by omega])
   | true=>
    simp only [if_true] at nk c
    rw [←R.jn k hk] at c
    have hne2:nxE es k≠i:=fun e=>by
     rw [e] at nk
     exact b (by rw [nk])
    refine (hg i hi).1 (nxE es k) (R.lt k hk) hne2 (.inr (.inl ⟨?_,(On_swap _ _ _).1 c⟩))
    rw [R.fst _ (R.lt k hk),R.lst i hi]
    intro e
    exact hki (R.inj hk hi (by omega))
  ·
   rw [G.adj R R' hg hi hk] at b
   rw [G.cr hi hk] at c
   exact hb.2.2 ⟨b,c⟩
 ·
  rintro ⟨k,h1,h2,h3⟩
  have hp:=List.pairwise_iff_getElem.1 (G.row hF hF' hN R R' hg hi).2 (k-1) k (by omega) h2 (by omega)
  rw [getD_of' h2,getD_of' (show k-1<(srt es' (φ i)).length by omega)] at h3
  omega
include hF hF' hN R R' hg G in
theorem Gm.mph: ∃ψ,Mph es.length (nxE es) (srt es) (nxE es') (srt es') φ ψ rev:=by
 have ex: ∀j,∃i,j<es.length→i<es.length∧φ i=j:=fun j=>by
  by_cases hj:j<es.length
  ·
   obtain ⟨i,hi⟩:=G.surj hj
   exact ⟨i,fun _=>hi⟩
  · exact ⟨0,fun h=>absurd h hj⟩
 obtain ⟨ψ,hψ⟩:=Classical.skolem.1 ex
 exact ⟨ψ,G.lt,fun j hj=>(hψ j hj).1,fun i hi=>G.inj _ _ (hψ _ (G.lt i hi)).1 hi (hψ _ (G.lt i hi)).2,fun j hj=>(hψ j hj).2,fun i hi=>G.nx R R' hg hi,fun i hi=>(G.row hF hF' hN R R' hg hi).1.symm⟩
include G in
theorem Gm.sg {i:Nat} (hi:i<es.length) {x:Int×Bool} {k:Nat} (e:x.1=(k:Int)) (hk:k<es.length):sgX es' (φ i) (fx φ x)=sgX es i x:=by
 have one: ∀{i k:Nat},i<es.length→k<es.length→sgE (eAt es' (φ i)) (eAt es' (φ k))=sgE (eAt es i) (eAt es k):=by
  intro i k hi hk
  unfold sgE
  rw [G.a hi,G.b hi,G.a hk,G.b hk]
  cases rev with
  | false=>rfl
  | true=>
   simp only [if_true]
   have:((eAt es i).1.1-(eAt es i).2.1.1)*((eAt es k).1.2.1-(eAt es k).2.1.2.1)-((eAt es i).1.2.1-(eAt es i).2.1.2.1)*((eAt es k).1.1-(eAt es k).2.1.1)=((eAt es i).2.1.1-(eAt es i).1.1)*((eAt es k).2.1.2.1-(eAt es k).1.2.1)-((eAt es i).2.1.2.1-(eAt es i).1.2.1)*((eAt es k).2.1.1-(eAt es k).1.1):=by grind
   rw [this]
 unfold sgX fx
 dsimp only
 rw [e,Int.toNat_natCast,Int.toNat_natCast,one hi hk,one hk hi]
end
theorem count_fst {es:List Ed} {vs:List (List Nat)} (h:Nt es.length (nxE es) vs (srt es)):countS es=2*(fsN (srt es) vs).length:=by
 rw [←h.vis_len]
 have hp:vs.flatten.Perm (List.range es.length):=nd_perm' h.nd List.nodup_range fun a=>by rw [h.mem,List.mem_range]
 have e: ∀v:List Nat,(v.flatMap (prt' (srt es) (fsN (srt es) vs))).length=(v.map fun i=>(srt es i).length).sum:=by
  intro v
  rw [List.length_flatMap]
  congr 1
  exact List.map_congr_left fun i _=>by unfold prt'; rw [List.length_map]
 rw [e]
 unfold countS
 exact (List.Perm.sum_nat (hp.map fun i=>(srt es i).length)).symm
theorem vd_ne {l:List (List Pt)} (hv:Vd l): ∀p∈l,p≠[]:=fun p hp e=>by
 have:=(hv.1 p hp).1
 rw [e] at this
 simp at this
theorem vd_len {l:List (List Pt)} (hv:Vd l):l.length≤64:=by
 have key: ∀l:List (List Pt),(∀p∈l,3≤p.length)→3*l.length≤sumlen l:=by
  intro l
  induction l with
  | nil=>intro _; simp
  | cons p r ih=>
   intro h
   have h1:=h p List.mem_cons_self
   have h2:=ih fun q hq=>h q (List.mem_cons_of_mem _ hq)
   rw [sumlen_cons,List.length_cons]
   omega
 have h1:=key l fun p hp=>(hv.1 p hp).1
 have h2:=hv.2
 omega
structure Pj (l:List (List Pt)):Prop where
 fit:FitE (edS 0 l)
 le:(edS 0 l).length≤1000000000
 rg:Rg (edS 0 l) (vsL 0 l)
 nt:Nt (edS 0 l).length (nxE (edS 0 l)) (vsL 0 l) (srt (edS 0 l))
 vl:(vsL 0 l).length≤64
theorem pj_of {l:List (List Pt)} (hv:Vd l):Pj l:=by
 have hF:FitE (edS 0 l):=fit_edS 0 fun p hp=>(hv.1 p hp).2
 have hN:(edS 0 l).length≤1000000000:=by rw [edS_len]; have:=hv.2; omega
 have R:=rg_edS (vd_ne hv)
 exact ⟨hF,hN,R,nt_of hF hN R,by rw [vsL_len]; exact vd_len hv⟩
def fL (l:List (List Pt)):List Psg:=fsN (srt (edS 0 l)) (vsL 0 l)
def cL (l:List (List Pt)):List (List Vis):=csR (prt' (srt (edS 0 l)) (fL l)) (vsL 0 l)
def sL (l:List (List Pt)):List Int:=(fL l).map fun q=>sgX (edS 0 l) q.1 q.2
def oL (l:List (List Pt)):Int:=loR (prt' (srt (edS 0 l)) (fL l)) (vsL 0 l)
theorem Pj.gv {l:List (List Pt)} (p:Pj l) (h:(fL l).length≤64):GV (cL l) (sL l) (oL l):=p.nt.gv (fun q=>sg_one q) h p.vl
open Classical in
theorem proj_net {l:List (List Pt)} (hv:Vd l):projS l=if GenE (edS 0 l) then (if 64<(fL l).length then ([],[],0,5) else if Int.tdiv (gen2 (sL l).length (muS (sL l) (cL l))) 2=0 then (sL l,mtS (sL l) (cL l),oL l,0) else ([],[],0,7)) else ([],[],0,15):=by
 have p:=pj_of hv
 have hc:=count_fst p.nt
 have hcode:codeS (edS 0 l) (srt (edS 0 l)) l=(cL l,sL l,oL l):=codeS_fst _ _ _
 unfold projS
 rw [if_pos hv]
 by_cases hg:GenE (edS 0 l)
 case neg=>rw [if_neg hg,if_neg hg]
 rw [if_pos hg,if_pos hg,hcode]
 have hc':countS (edS 0 l)=2*(fL l).length:=hc
 by_cases h:64<(fL l).length
 · rw [if_pos h,if_pos (by omega)]
 ·
  rw [if_neg h,if_neg (by omega)]
  unfold gdS
  rw [if_pos (p.gv (by omega))]
theorem proj_net_ok {l:List (List Pt)} (h:(projS l).2.2.2=0):Vd l∧GenE (edS 0 l)∧(fL l).length≤64∧Int.tdiv (gen2 (sL l).length (muS (sL l) (cL l))) 2=0∧projS l=(sL l,mtS (sL l) (cL l),oL l,0):=by
 have hv:=proj_ok h
 rw [proj_net hv] at h⊢
 by_cases hg:GenE (edS 0 l)
 case neg=>rw [if_neg hg] at h; cases h
 rw [if_pos hg] at h⊢
 by_cases h1:64<(fL l).length
 case pos=>rw [if_pos h1] at h; cases h
 rw [if_neg h1] at h⊢
 by_cases h2:Int.tdiv (gen2 (sL l).length (muS (sL l) (cL l))) 2=0
 case neg=>rw [if_neg h2] at h; cases h
 rw [if_pos h2]
 exact ⟨hv,hg,by omega,h2,rfl⟩
theorem proj_same {l l':List (List Pt)} (h:(projS l).2.2.2=0) (hv':Vd l') (hfew:l.length<20) {rev:Bool} (hp:((edS 0 l').map (endsE false)).Perm ((edS 0 l).map (endsE rev))) (m:Nat) (hm:200000<m):
  (projS l').2.2.2=0∧∃M1,(if rev then F.mirror_Reverse m (projS l).1 (projS l).2.1 (projS l).2.2.1=some (sL l,M1,oL l,0) else (sL l,M1,oL l,0)=projS l)∧
   F.canon_Same m (projS l').1 (projS l').2.1 (projS l').2.2.1 (sL l) M1 (oL l)=some true:=by
 obtain ⟨hv,hg,h64,h0,he⟩:=proj_net_ok h
 have p:=pj_of hv
 have p':=pj_of hv'
 obtain ⟨φ,G⟩:=gm_of p.rg hg hp
 have hl:=G.len
 have hg':=G.gen p.fit p'.fit p.le p.rg p'.rg hg
 obtain ⟨ψ,mp⟩:=G.mph p.fit p'.fit p.le p.rg p'.rg hg
 have nt':=p'.nt
 rw [hl] at nt'
 have hlen:(fL l').length=(fL l).length:=mp.len p.nt nt'
 have hsx: ∀i,i<(edS 0 l).length→∀x∈srt (edS 0 l) i,sgX (edS 0 l') (φ i) (fx φ x)=sgX (edS 0 l) i x:=fun i hi x hx=>by
  obtain ⟨k,e,hk,_⟩:=p.nt.sym i hi x hx
  exact G.sg hi e hk
 have GG:=p.gv h64
 have GG':=p'.gv (show (fL l').length≤64 by omega)
 have hmates:=mp.mates (sx:=fun q=>sgX (edS 0 l) q.1 q.2) (sx':=fun q=>sgX (edS 0 l') q.1 q.2) p.nt nt' hsx (fun i k o=>sg_symm o) (fun q=>sg_one q) (fun q=>sg_one q) h64 p.vl p'.vl
 have hpsg:=fun c hc=>mp.sg (sx:=fun q=>sgX (edS 0 l) q.1 q.2) (sx':=fun q=>sgX (edS 0 l') q.1 q.2) p.nt nt' hsx (fun i k o=>sg_symm o) (c:=c) hc
 have hpl:=fun c hc=>(mp.pi_lt p.nt nt' (c:=c) hc).1
 have hpi:=fun a b ha hb e=>mp.pi_inj p.nt nt' (a:=a) (b:=b) ha hb e
 have hlo:oL l'=oL l:=Int.le_antisymm ((mp.symm p.nt nt').lo_le nt' p.nt (fL l') (fL l)) (mp.lo_le p.nt nt' (fL l) (fL l'))
 have hsl:(sL l).length=(fL l).length:=by unfold sL; rw [List.length_map]
 have hsl':(sL l').length=(fL l).length:=by unfold sL; rw [List.length_map,hlen]
 have D:DV (sL l) (mtS (sL l) (cL l)) (oL l) (muS (sL l) (cL l)):=GG.dv h0
 have I:Iso (sL l).length (sL l) (mvd2 (muS (sL l) (cL l)) (tv rev) (tv rev)) (sL l') (muS (sL l') (cL l')) (piN (fL l) (fL l') φ):=by
  rw [hsl]
  refine iso_of (tv_tau rev) (fun c hc=>?_) (fun a b ha hb e=>hpi a b ha hb e) (fun c hc=>hpsg c hc) fun k hk=>hmates k hk
  have:piN (fL l) (fL l') φ c<(fL l').length:=hpl c hc
  omega
 -- the first drawing,turned back if need be
 have hDM: ∃M1,DV (sL l) M1 (oL l) (mvd2 (muS (sL l) (cL l)) (tv rev) (tv rev))∧(if rev then F.mirror_Reverse m (projS l).1 (projS l).2.1 (projS l).2.2.1=some (sL l,M1,oL l,0) else (sL l,M1,oL l,0)=projS l):=by
  cases rev with
  | false=>exact ⟨_,D,by simp only [Bool.false_eq_true,if_false]; exact he.symm⟩
  | true=>
   refine ⟨_,D.mir rv_tau (sg':=sL l) rfl D.sgn false (fun h hh=>by
    have hs:=D.sgn _ (List.getElem_mem (show h/ 4<(sL l).length by omega))
    have e:(sL l).getD (h/ 4) 0=(sL l)[h/ 4]'(by omega):=getD_of' (by omega) 0
    have q1:rv h/ 4=h/ 4:=by unfold rv turnN; omega
    have q2:rv h%4=(h%4+2)%4:=by unfold rv turnN; omega
    unfold Outg
    rw [show tv true h=rv h from rfl,q1,q2,e]
    generalize (sL l)[h/ 4]'(by omega)=z at*
    simp only [Bool.false_eq_true,iff_false]
    omega) (fun μ' h' hm'=>faces_turn D.mt.iv h' rv_tau hm' rv_turn),?_⟩
   simp only [if_true]
   rw [he]
   exact reverse_eq D m (by omega)
 obtain ⟨M1,DM,hM1⟩:=hDM
 have M':MT (4*(sL l).length) (mtS (sL l') (cL l')) (muS (sL l') (cL l')):=by
  have:=GG'.mt
  rw [hsl'] at this
  rw [hsl]; exact this
 have hgen:gen2 (sL l').length (muS (sL l') (cL l'))=0:=by
  rw [hsl',←hsl,gen2_iso DM.mt M' I]
  exact DM.g0
 have h0':Int.tdiv (gen2 (sL l').length (muS (sL l') (cL l'))) 2=0:=by rw [hgen]; rfl
 have he':projS l'=(sL l',mtS (sL l') (cL l'),oL l',0):=by
  rw [proj_net hv',if_pos hg',if_neg (by omega),if_pos h0']
 have D':DV (sL l') (mtS (sL l') (cL l')) (oL l') (muS (sL l') (cL l')):=GG'.dv h0'
 rw [hlo] at D'
 have hK:cls (sL l).length (adjP (sL l).length (mvd2 (muS (sL l) (cL l)) (tv rev) (tv rev)))<20:=by
  have h1:=parts_mir D.mt.iv (mt_mir D.mt (tv_tau rev)).iv (tv_tau rev) (fun k _=>by unfold mvd2; rw [(tv_tau rev).l])
  rw [h1]
  have h2:cls (sL l).length (adjP (sL l).length (muS (sL l) (cL l)))≤(vsL 0 l).length:=clsR_le GG
  rw [vsL_len] at h2
  omega
 have hsame:=(same_of_iso DM D' (by rw [hsl',hsl]) I hK m hm).2
 refine ⟨by rw [he'],M1,hM1,?_⟩
 rw [he']
 dsimp only
 rw [hlo]
 exact hsame
end Pg
end Go.Proofs.Yteajmbanlohncaa
