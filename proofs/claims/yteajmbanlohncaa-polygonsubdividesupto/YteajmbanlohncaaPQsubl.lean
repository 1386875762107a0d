import Derived.Test.YteajmbanlohncaaPQlaw1
import Derived.Test.YteajmbanlohncaaPQfew
import Derived.Test.YteajmbanlohncaaPQsub2
set_option linter.unusedVariables false
set_option linter.unusedSimpArgs false
namespace Go.Proofs.Yteajmbanlohncaa
open Ev
namespace Pg
theorem refrow {l:List (List Pt)} {k:Nat} {p:List Pt} (hg:l[k]? =some p) (n:Nat) (hl:p.length<n) (hp:p.length≤1000000000):loopN n (F.ref46_Valid_b1 n l (k:Int)) 0=some (if∀x∈p,Fit x then .inl (p.length:Int) else .inr false):=by
 have hs:=scan_loop (body:=F.ref46_Valid_b1 n l (k:Int)) (fun k=>(k:Int)) p.length (fun k=>if Fit (p.getD k (0,(0,0))) then none else some false) (e:=(p.length:Int)) (fun j hj=>by
  unfold F.ref46_Valid_b1
  dsimp only
  rw [get_nat,hg,bB,dT (by omega),kT,bB,get_nat,gE hj,bB,fits_eq p[j] n,bB]
  have e:p.getD j (0,(0,0))=p[j]:=by simp [List.getD,gE hj]
  rw [e]
  by_cases hf:Fit p[j]
  · rw [dT hf,Bool.not_true,kF,chk_ok (by omega) (by omega),bB,if_pos hf]; rfl
  · rw [dF hf,if_neg hf]; rfl) (by
  unfold F.ref46_Valid_b1
  dsimp only
  rw [get_nat,hg,bB,dF (by omega),kF]) n hl
 refine hs.trans ?_
 by_cases hf: ∀x∈p,Fit x
 ·
  rw [if_pos hf,findSome_none]
  intro k hk
  rw [if_pos (by
   simp only [List.getD,gE hk,Option.getD_some]
   exact hf _ (List.getElem_mem hk))]
 ·
  rw [if_neg hf]
  have: ∃k,∃h:k<p.length,¬Fit p[k]:=by
   apply Classical.byContradiction
   intro hc
   apply hf
   intro x hx
   obtain ⟨k,hk,rfl⟩:=List.mem_iff_getElem.1 hx
   exact Classical.byContradiction fun hx=>hc ⟨k,hk,hx⟩
  obtain ⟨k,hk,hx⟩:=this
  rw [findSome_one (q:=false) (k:=k) (fun k q' h=>by
   by_cases hc:Fit (p.getD k (0,(0,0)))
   · rw [if_pos hc] at h; cases h
   · rw [if_neg hc] at h; injection h with h; exact h.symm) hk (by
   simp only [List.getD,gE hk,Option.getD_some,if_neg hx]; simp)]
theorem refv_eq (l:List (List Pt)) (n:Nat) (hb:sumlen l≤1000000) (hl:l.length≤1000000) (hn:1000000<n):F.ref46_Valid n l=some (decide (Vd l)):=by
 have hs:=scan_loop (body:=F.ref46_Valid_b0 n l) (fun k=>((sumlen (l.take k):Int),(k:Int))) l.length
  (fun k=>if 3≤(l.getD k []).length∧∀x∈l.getD k [],Fit x then none else some false) (e:=((sumlen l:Int),(l.length:Int))) (fun k hk=>by
  unfold F.ref46_Valid_b0
  dsimp only
  have hg:l[k]? =some l[k]:=gE hk
  have e:l.getD k []=l[k]:=by simp [List.getD,hg]
  have hsu:=sumlen_take_succ hg
  have hle:=sumlen_take_le l (k+1)
  have hme:=sumlen_mem (List.getElem_mem hk:l[k]∈l)
  rw [dT (by omega),kT,get_nat,hg,bB,e]
  by_cases h3:3≤l[k].length
  case neg=>rw [dT (by omega),if_neg (fun h=>h3 h.1)]; rfl
  rw [dF (by omega),kF,bB,chk_ok (by omega) (by omega),bB,refrow hg n (by omega) (by omega),bB]
  by_cases h5: ∀x∈l[k],Fit x
  ·
   rw [if_pos h5,if_pos ⟨h3,h5⟩]
   dsimp only
   rw [chk_ok (by omega) (by omega),bB,hsu,Int.natCast_add]; rfl
  · rw [if_neg h5,if_neg (fun h=>h5 h.2)]) (by
  unfold F.ref46_Valid_b0
  dsimp only
  rw [dF (by omega),kF,List.take_length]) n (by omega)
 unfold F.ref46_Valid
 rw [show ((0:Int),(0:Int))=(fun k:Nat=>((sumlen (l.take k):Int),(k:Int))) 0 from by simp [sumlen],hs,bB]
 by_cases hall: ∀k,k<l.length→3≤(l.getD k []).length∧∀x∈l.getD k [],Fit x
 ·
  rw [findSome_none (fun k hk=>if_pos (hall k hk))]
  dsimp only
  refine congrArg some (decide_eq_decide.mpr ⟨fun h=>⟨fun p hp=>?_,by omega⟩,fun h=>by have:=h.2; omega⟩)
  obtain ⟨k,hk,rfl⟩:=List.mem_iff_getElem.1 hp
  have:=hall k hk
  rwa [getD_of' hk] at this
 ·
  have: ∃k,k<l.length∧¬(3≤(l.getD k []).length∧∀x∈l.getD k [],Fit x):=by
   apply Classical.byContradiction
   intro hc
   exact hall fun k hk=>Classical.byContradiction fun hx=>hc ⟨k,hk,hx⟩
  obtain ⟨k,hk,hx⟩:=this
  have hv: ¬Vd l:=fun h=>hx (by rw [getD_of' hk]; exact h.1 _ (List.getElem_mem hk))
  rw [findSome_one (q:=false) (k:=k) (fun k q' h=>by
   by_cases hc:(3≤(l.getD k []).length∧∀x∈l.getD k [],Fit x)
   · rw [if_pos hc] at h; cases h
   · rw [if_neg hc] at h; injection h with h; exact h.symm) hk (by rw [if_neg hx]; simp),dF hv]
theorem half_of {z:Int} (h:Int.tmod z 2=0):2*Int.tdiv z 2=z:=by
 have:=Int.mul_tdiv_add_tmod z 2
 omega
theorem abs_eq {z:Int} (h1: -100000≤z) (h2:z≤100000) (n:Nat):F.ref46_abs n z=some (if z<0 then 0-z else z):=by
 unfold F.ref46_abs
 by_cases h:z<0
 · rw [dT h,kT,chk_ok (by omega) (by omega),bB,if_pos h]
 · rw [dF h,kF,if_neg h]
theorem abs_mod {z:Int}:Int.tmod (if z<0 then 0-z else z) 2=0↔Int.tmod z 2=0:=by
 split
 · rw [Int.zero_sub,Int.neg_tmod]; omega
 · exact Iff.rfl
def Ev2 (a b:Pt):Prop:=Int.tmod (a.1+b.1) 2=0∧Int.tmod (a.2.1+b.2.1) 2=0∧Int.tmod (a.2.2+b.2.2) 2=0
instance (a b:Pt):Decidable (Ev2 a b):=by unfold Ev2; infer_instance
def mdP (a b:Pt):Pt:=(Int.tdiv (a.1+b.1) 2,(Int.tdiv (a.2.1+b.2.1) 2,Int.tdiv (a.2.2+b.2.2) 2))
theorem even_eq {a b:Pt} (ha:Fit a) (hb:Fit b) (n:Nat):F.ref46_Even n a.1 a.2.1 a.2.2 b.1 b.2.1 b.2.2=some (decide (Ev2 a b)):=by
 unfold Fit at ha hb
 have e1: ∀z:Int,decide (Int.tmod (if z<0 then 0-z else z) 2=0)=decide (Int.tmod z 2=0):=fun z=>decide_eq_decide.mpr abs_mod
 unfold F.ref46_Even
 rw [chk_ok (by omega) (by omega),bB,abs_eq (by omega) (by omega),bB,nz_ok (by decide),bB,e1,chk_ok (by omega) (by omega),bB,abs_eq (by omega) (by omega),bB,bB,e1,chk_ok (by omega) (by omega),bB,abs_eq (by omega) (by omega),bB,bB,e1,conds,conds]
 rfl
theorem tdiv_rng {z:Int} (h1: -2000≤z) (h2:z≤2000): -2000≤Int.tdiv z 2∧Int.tdiv z 2≤2000:=by
 have a:=Int.mul_tdiv_add_tmod z 2
 have b:=Int.tmod_lt_of_pos z (show (0:Int)<2 by decide)
 have c: -2<Int.tmod z 2:=by
  have:=Int.neg_tmod z 2
  have d:=Int.tmod_lt_of_pos (-z) (show (0:Int)<2 by decide)
  omega
 omega
theorem mid_eq {a b:Pt} (ha:Fit a) (hb:Fit b) (n:Nat):F.ref46_Middle n a.1 a.2.1 a.2.2 b.1 b.2.1 b.2.2=some (mdP a b):=by
 unfold Fit at ha hb
 have r1:=tdiv_rng (z:=a.1+b.1) (by omega) (by omega)
 have r2:=tdiv_rng (z:=a.2.1+b.2.1) (by omega) (by omega)
 have r3:=tdiv_rng (z:=a.2.2+b.2.2) (by omega) (by omega)
 unfold F.ref46_Middle
 rw [chk_ok (by omega) (by omega),bB,nz_ok (by decide),bB,chk_ok (by omega) (by omega),bB,chk_ok (by omega) (by omega),bB,bB,chk_ok (by omega) (by omega),bB,chk_ok (by omega) (by omega),bB,bB,chk_ok (by omega) (by omega),bB]
 rfl
theorem eqPt (xs:List Pt) (n:Nat) (hx:xs.length<n) (hb:xs.length≤1000000):F.slices_Equal_Point_Point n xs xs=some true:=by
 unfold F.slices_Equal_Point_Point
 rw [dT rfl,Bool.not_true,kF]
 have hs:=scan_loop (body:=F.slices_Equal_Point_Point_b0 n xs xs) (fun k=>(k:Int)) xs.length (fun k=>(none:Option Bool)) (e:=(xs.length:Int)) (fun k hk=>by
  unfold F.slices_Equal_Point_Point_b0
  dsimp only
  rw [dT (by omega),kT,get_nat,gE hk,bB,bB]
  generalize xs[k]=x
  rw [show (!(decide (x.1=x.1)&&(decide (x.2.1=x.2.1)&&(decide (x.2.2=x.2.2)&&true))))=false from by simp,kF,chk_ok (by omega) (by omega),bB]
  rfl) (by
  unfold F.slices_Equal_Point_Point_b0
  dsimp only
  rw [dF (by omega),kF]) n hx
 rw [findSome_none (fun _ _=>rfl)] at hs
 have h0:((0:Int))=((0:Nat):Int):=rfl
 rw [h0,hs,bB]
def rowK (p:List Pt) (b:Bool) (e:Nat) (m:Pt) (t:Nat):List Pt:=if b=true∧e<t then p.take (e+1)++m::(p.take t).drop (e+1) else p.take t
theorem rowK_succ {p:List Pt} {b:Bool} {e:Nat} {m:Pt} {t:Nat} (ht:t<p.length):rowK p b e m (t+1)=rowK p b e m t++p[t]::(if b=true∧t=e then [m] else []):=by
 have hg:p.take (t+1)=p.take t++[p[t]]:=by rw [List.take_add_one,gE ht]; rfl
 unfold rowK
 by_cases hb:b=true
 ·
  rcases Nat.lt_trichotomy t e with h | h | h
  · rw [if_neg (by omega),if_neg (by omega),if_neg (by omega),hg]
  ·
   subst h
   rw [if_pos ⟨hb,by omega⟩,if_neg (by omega),if_pos ⟨hb,rfl⟩,List.drop_of_length_le (by rw [List.length_take]; omega),hg,List.append_assoc]; rfl
  ·
   rw [if_pos ⟨hb,by omega⟩,if_pos ⟨hb,h⟩,if_neg (by omega),hg,List.drop_append_of_le_length (by rw [List.length_take]; omega)]
   simp
 · rw [if_neg (fun h=>hb h.1),if_neg (fun h=>hb h.1),if_neg (fun h=>hb h.1),hg]
theorem rowK_end {p:List Pt} {b:Bool} {e:Nat} {m:Pt} (he:e<p.length):rowK p b e m p.length=if b then putP p e m else p:=by
 unfold rowK putP
 cases b with
 | true=>rw [if_pos ⟨rfl,he⟩,List.take_length]; rfl
 | false=>rw [if_neg (fun h=>by cases h.1),List.take_length]; rfl
theorem rowK_len {p:List Pt} {b:Bool} {e:Nat} {m:Pt} {t:Nat}:(rowK p b e m t).length≤p.length+1:=by
 unfold rowK
 split
 · rw [List.length_append,List.length_cons,List.length_take,List.length_drop,List.length_take]; omega
 · rw [List.length_take]; omega
section
variable {l : List (List Pt)} {c e : Nat} {a b : Pt} (hs : sumlen l ≤ 10000) (hl : l.length ≤ 10000) (fa : Fit a) (fb : Fit b)
include hs hl fa fb
omit hl in
theorem sub_row {k:Nat} (hk:k<l.length) {B:List (List Pt)} (hB:B.length=l.length) (n:Nat) (hn:20000<n):
  loopN n (F.polygon_Subdivide_b1 n (c:Int) (e:Int) (a.1+b.1) (a.2.1+b.2.1) (a.2.2+b.2.2) (k:Int) l[k]) (0,B.set k [])=some ((l[k].length:Int),B.set k (rowK l[k] (decide (k=c)) e (mdP a b) l[k].length)):=by
 have hpl:=sumlen_mem (List.getElem_mem hk)
 unfold Fit at fa fb
 have r1:=tdiv_rng (z:=a.1+b.1) (by omega) (by omega)
 have r2:=tdiv_rng (z:=a.2.1+b.2.1) (by omega) (by omega)
 have r3:=tdiv_rng (z:=a.2.2+b.2.2) (by omega) (by omega)
 have e0:((0:Int),B.set k [])=(fun t:Nat=>((t:Int),B.set k (rowK l[k] (decide (k=c)) e (mdP a b) t))) 0:=by
  unfold rowK
  simp
 rw [e0]
 refine count_loop (fun t:Nat=>((t:Int),B.set k (rowK l[k] (decide (k=c)) e (mdP a b) t))) l[k].length (fun t ht=>?_) ?_ n (by omega)
 ·
  have hrl:=rowK_len (p:=l[k]) (b:=decide (k=c)) (e:=e) (m:=mdP a b) (t:=t)
  have hget: ∀X:List Pt,Ev.get (B.set k X) (k:Int)=some X:=fun X=>by rw [get_nat,List.getElem?_set_self (by omega)]
  have hset: ∀X Y:List Pt,(B.set k X).set (k:Int).toNat Y=B.set k Y:=fun X Y=>by rw [Int.toNat_natCast,List.set_set]
  rw [rowK_succ ht]
  generalize hA:rowK l[k] (decide (k=c)) e (mdP a b) t=A at*
  unfold F.polygon_Subdivide_b1
  dsimp only
  rw [dT (by omega),kT,get_nat,gE ht,bB,hget,bB,bB,lim_ok (by simp; omega),bB,bB]
  have off:F.polygon_Subdivide_j2 n (a.1+b.1) (a.2.1+b.2.1) (a.2.2+b.2.2) (k:Int) (t:Int) (B.set k A) l[k][t] A false=some (.inl (((t+1:Nat):Int),B.set k (A++[l[k][t]]))):=by
   unfold F.polygon_Subdivide_j2
   rw [kF,chk_ok (by omega) (by omega),bB,hset]; rfl
  by_cases hkc:k=c
  ·
   rw [dT (show (k:Int)=(c:Int) by omega),kT]
   by_cases hte:t=e
   ·
    rw [dT (show (t:Int)=(e:Int) by omega),if_pos ⟨dT hkc,hte⟩]
    unfold F.polygon_Subdivide_j2
    rw [kT,hset,hget,bB,bB,nz_ok (by decide),bB,chk_ok (by omega) (by omega),bB,bB,chk_ok (by omega) (by omega),bB,bB,chk_ok (by omega) (by omega),bB,lim_ok (by simp; omega),bB,bB,chk_ok (by omega) (by omega),bB,hset,List.append_assoc]; rfl
   · rw [dF (show¬(t:Int)=(e:Int) by omega),off,if_neg (fun h=>hte h.2)]
  · rw [dF (show¬(k:Int)=(c:Int) by omega),kF,off,if_neg (fun h=>hkc (of_decide_eq_true h.1))]
 ·
  unfold F.polygon_Subdivide_b1
  dsimp only
  rw [dF (by omega),kF]
theorem sub_rows (hc:c<l.length) (he:e<l[c].length) (n:Nat) (hn:20000<n):
  loopN n (F.polygon_Subdivide_b0 n l (c:Int) (e:Int) (a.1+b.1) (a.2.1+b.2.1) (a.2.2+b.2.2)) (0,List.replicate (l.length:Int).toNat [])=some ((l.length:Int),l.set c (putP l[c] e (mdP a b))):=by
 have e0:((0:Int),List.replicate (l.length:Int).toNat ([]:List Pt))=(fun k:Nat=>((k:Int),(l.set c (putP l[c] e (mdP a b))).take k++List.replicate (l.length-k) [])) 0:=by simp
 rw [e0]
 refine count_loop (fun k:Nat=>((k:Int),(l.set c (putP l[c] e (mdP a b))).take k++List.replicate (l.length-k) [])) l.length (fun k hk=>?_) ?_ n (by omega)
 ·
  have hB:((l.set c (putP l[c] e (mdP a b))).take k++List.replicate (l.length-k) ([]:List Pt)).length=l.length:=by
   rw [List.length_append,List.length_take,List.length_set,List.length_replicate]; omega
  have htl:((l.set c (putP l[c] e (mdP a b))).take k).length=k:=by rw [List.length_take,List.length_set]; omega
  have hself:(l.set c (putP l[c] e (mdP a b))).take k++List.replicate (l.length-k) ([]:List Pt)=((l.set c (putP l[c] e (mdP a b))).take k++List.replicate (l.length-k) ([]:List Pt)).set k []:=by
   rw [List.set_append_right _ _ (by omega),htl,Nat.sub_self]
   congr 1
   obtain ⟨r,hr⟩: ∃r,l.length-k=r+1:=⟨l.length-k-1,by omega⟩
   rw [hr,List.replicate_succ]; rfl
  have hrow:rowK l[k] (decide (k=c)) e (mdP a b) l[k].length=(l.set c (putP l[c] e (mdP a b)))[k]'(by rw [List.length_set]; exact hk):=by
   rw [List.getElem_set]
   by_cases h:c=k
   ·
    subst h
    rw [rowK_end he,dT rfl,if_pos rfl,if_pos rfl]
   ·
    rw [if_neg h]
    unfold rowK
    rw [if_neg (fun z=>h (of_decide_eq_true z.1).symm),List.take_length]
  unfold F.polygon_Subdivide_b0
  dsimp only
  rw [dT (by omega),kT,get_nat,gE hk,bB,hself,sub_row hs fa fb hk hB n hn,bB]
  dsimp only
  rw [chk_ok (by omega) (by omega),bB,hrow]
  rw [show ((k:Int)+1)=((k+1:Nat):Int) from by omega]
  congr 3
  rw [List.set_append_right _ _ (by omega),htl,Nat.sub_self,List.take_add_one,gE (by rw [List.length_set]; exact hk),List.append_assoc]
  congr 1
  obtain ⟨r,hr⟩: ∃r,l.length-k=r+1:=⟨l.length-k-1,by omega⟩
  rw [hr,List.replicate_succ,show l.length-(k+1)=r by omega]; rfl
 ·
  unfold F.polygon_Subdivide_b0
  dsimp only
  rw [dF (by omega),kF,Nat.sub_self,List.replicate_zero,List.append_nil,List.take_of_length_le (by rw [List.length_set]; exact Nat.le_refl _)]
end
end Pg
open Pg in
theorem law46_PolygonSubdivides_true (x0:List (List (Int×(Int×Int)))) (z1 z2:Int) (o0:Ev.Sh.ok (.sl (.sl (.pr (.int .i64) (.pr (.int .i64) (.int .i64))))) x0) (o1:Ev.Sh.ok (.int .i64) z1) (o2:Ev.Sh.ok (.int .i64) z2) (b0:Ev.Sh.bulk (.sl (.sl (.pr (.int .i64) (.pr (.int .i64) (.int .i64))))) x0≤1048576) (b1:Ev.Sh.bulk (.int .i64) z1≤1048576) (b2:Ev.Sh.bulk (.int .i64) z2≤1048576):
  ∃n,F.law46_PolygonSubdivides n x0 z1 z2=some true:=by
 have s1:=sumlen_bulk x0
 have s2:=len_bulk x0
 have hs1:sumlen x0≤1048576:=Nat.le_trans s1 b0
 have hs2:x0.length≤1048576:=Nat.le_trans s2 b0
 refine ⟨200000000,?_⟩
 unfold F.law46_PolygonSubdivides
 rw [awake46,bB,Bool.not_true,kF,few_eq x0 200000000 (by omega) (by omega) (by decide),bB]
 by_cases hf:Few x0
 case neg=>rw [dF hf]; rfl
 rw [dT hf,Bool.not_true,kF]
 have hf1:=hf.1
 have hf2:=hf.2
 have hvq:=valid_eq x0 200000000 (by omega) (by omega) (by omega) (by omega) (by decide)
 have hrv:=refv_eq x0 200000000 (by omega) (by omega) (by decide)
 by_cases hv:Vd x0
 case neg=>
  have hsub:F.polygon_Subdivide 200000000 x0 z1 z2=some ([],1):=by
   unfold F.polygon_Subdivide
   rw [hvq,bB,dF hv]; rfl
  rw [hsub,bB,hrv,bB,dF hv]; rfl
 have hed:=edges_eq x0 200000000 (by omega) (by omega) (by omega) (by omega)
 have hel:=edS_len 0 x0
 have hpre: ∀X:Option (List (List Pt)×Int),(F.polygon_valid 200000000 x0).bind (fun y5=>cond (!y5) (some ([],1)) ((F.polygon_edges 200000000 x0).bind fun y11=>cond (decide ((y11.length:Int)=100)) (some ([],1)) X))=X:=fun X=>by
  rw [hvq,bB,dT hv,Bool.not_true,kF,hed,bB,dF (by omega),kF]
 have two:F.polygon_Subdivide 200000000 x0 z1 z2=some ([],2)→(F.law46_PolygonSubdivides_j0 200000000 x0 z1 z2 ([],2) true)=some true:=fun _=>rfl
 have hsubu:F.polygon_Subdivide 200000000 x0 z1 z2=_:=hpre _
 by_cases c1:z1<0
 ·
  rw [dT c1,kT] at hsubu
  rw [hsubu,bB,hrv,bB,dT hv,Bool.not_true,kF,dT c1,kT]; rfl
 rw [dF c1,kF] at hsubu
 by_cases c2:(x0.length:Int)≤z1
 ·
  rw [dT c2,kT] at hsubu
  rw [hsubu,bB,hrv,bB,dT hv,Bool.not_true,kF,dF c1,kF,dT c2,kT]; rfl
 rw [dF c2,kF] at hsubu
 by_cases c3:z2<0
 ·
  rw [dT c3,kT] at hsubu
  rw [hsubu,bB,hrv,bB,dT hv,Bool.not_true,kF,dF c1,kF,dF c2,kF,dT c3,kT]; rfl
 rw [dF c3,kF] at hsubu
 obtain ⟨c,rfl⟩: ∃c:Nat,z1=(c:Int):=⟨z1.toNat,by omega⟩
 obtain ⟨e,rfl⟩: ∃e:Nat,z2=(e:Int):=⟨z2.toNat,by omega⟩
 have hc:c<x0.length:=by omega
 have hg:Ev.get x0 (c:Int)=some x0[c]:=by rw [get_nat,gE hc]
 rw [hg,bB] at hsubu
 by_cases c4:(x0[c].length:Int)≤(e:Int)
 ·
  rw [dT c4,kT] at hsubu
  rw [hsubu,bB,hrv,bB,dT hv,Bool.not_true,kF,dF c1,kF,dF c2,kF,dF c3,kF,hg,bB,dT c4]; rfl
 rw [dF c4,kF] at hsubu
 have he:e<x0[c].length:=by omega
 have hpl:=sumlen_mem (List.getElem_mem hc)
 have hpv:=hv.1 _ (List.getElem_mem hc)
 have hlt:=Nat.mod_lt (e+1) (show 0<x0[c].length by omega)
 obtain ⟨a,ha⟩: ∃a,x0[c][e]? =some a:=⟨_,gE he⟩
 obtain ⟨b,hb⟩: ∃b,x0[c][(e+1)%x0[c].length]? =some b:=⟨_,gE hlt⟩
 have fa:Pg.Fit a:=hpv.2 a (List.mem_of_getElem? ha)
 have fb:Pg.Fit b:=hpv.2 b (List.mem_of_getElem? hb)
 have ga:Ev.get x0[c] (e:Int)=some a:=by rw [get_nat]; exact ha
 have gb:Ev.get x0[c] (Int.tmod ((e:Int)+1) (x0[c].length:Int))=some b:=by
  have:Int.tmod ((e:Int)+1) (x0[c].length:Int)=(((e+1)%x0[c].length:Nat):Int):=Int.ofNat_tmod (e+1) x0[c].length
  rw [this,get_nat]; exact hb
 have fa':=fa
 have fb':=fb
 unfold Pg.Fit at fa' fb'
 rw [bB,ga,bB,bB,chk_ok (by omega) (by omega),bB,bB,nz_ok (by omega),bB,gb,bB,chk_ok (by omega) (by omega),bB,chk_ok (by omega) (by omega),bB,chk_ok (by omega) (by omega),bB,nz_ok (by decide),bB] at hsubu
 have hstart: ∀Y:List (List Pt)×Int,(F.ref46_Valid 200000000 x0).bind (fun y35=>cond (!y35) (cond (decide (Y.2=1)) (some (decide ((Y.1.length:Int)=0))) (some false)) (cond (decide ((c:Int)<0)) (F.law46_PolygonSubdivides_j0 200000000 x0 c e Y true) (cond (decide ((x0.length:Int)≤(c:Int))) (F.law46_PolygonSubdivides_j0 200000000 x0 c e Y true) (cond (decide ((e:Int)<0)) (F.law46_PolygonSubdivides_j0 200000000 x0 c e Y true) ((Ev.get x0 (c:Int)).bind fun x45=>F.law46_PolygonSubdivides_j0 200000000 x0 c e Y (decide ((x45.length:Int)≤(e:Int))))))))=F.law46_PolygonSubdivides_j0 200000000 x0 c e Y false:=fun Y=>by
  rw [hrv,bB,dT hv,Bool.not_true,kF,dF c1,kF,dF c2,kF,dF c3,kF,hg,bB,dF c4]
 have hj: ∀Y:List (List Pt)×Int,F.law46_PolygonSubdivides_j0 200000000 x0 c e Y false=cond (!(decide (Ev2 a b))) (cond (decide (Y.2=10)) (some (decide ((Y.1.length:Int)=0))) (some false)) (cond (!(decide (Y.2=0))) (some false) (cond (!(decide ((Y.1.length:Int)=(x0.length:Int)))) (some false) (((loopN 200000000 (F.law46_PolygonSubdivides_b1 200000000 x0 c e Y a b) 0).bind fun o160=>match o160 with
  | (.inl v116_1)=>(F.polygon_Project 200000000 x0).bind fun y265=>(F.polygon_Project 200000000 Y.1).bind fun y287=>cond (!(decide (y265.2.2.2=0))) (some true) (cond (decide (y287.2.2.2=15)) (some true) (cond (decide (y287.2.2.2=0)) ((F.diagram_Equal 200000000 y287.1 y287.2.1 y287.2.2.1 y265.1 y265.2.1 y265.2.2.1).bind fun y313=>some y313) (some false)))
  | (.inr q)=>some q)))):=fun Y=>by
  unfold F.law46_PolygonSubdivides_j0
  rw [kF,hg,bB,ga,bB,bB,chk_ok (by omega) (by omega),bB,bB,nz_ok (by omega),bB,gb,bB,even_eq fa fb,bB]
  rfl
 by_cases hev:Ev2 a b
 case neg=>
  have hodd:F.polygon_Subdivide 200000000 x0 c e=some ([],10):=by
   rw [hsubu]
   by_cases q1:Int.tmod (a.1+b.1) 2=0
   ·
    rw [dT q1,Bool.not_true,kF,bB]
    by_cases q2:Int.tmod (a.2.1+b.2.1) 2=0
    ·
     rw [dT q2,Bool.not_true,kF,bB]
     by_cases q3:Int.tmod (a.2.2+b.2.2) 2=0
     · exact absurd ⟨q1,q2,q3⟩ hev
     · rw [dF q3]; rfl
    · rw [dF q2]; rfl
   · rw [dF q1]; rfl
  rw [hodd,bB,hstart,hj,dF hev]; rfl
 have heven:F.polygon_Subdivide 200000000 x0 c e=some (x0.set c (putP x0[c] e (mdP a b)),0):=by
  rw [hsubu,dT hev.1,Bool.not_true,kF,bB,dT hev.2.1,Bool.not_true,kF,bB,dT hev.2.2,Bool.not_true,kF,pos_ok (by omega) (by omega),bB,sub_rows (by omega) (by omega) fa fb hc he 200000000 (by decide),bB]
 rw [heven,bB,hstart,hj,dT hev,Bool.not_true,kF]
 dsimp only
 rw [dT rfl,Bool.not_true,kF,dT (by rw [List.length_set]),Bool.not_true,kF]
 have hloop:loopN 200000000 (F.law46_PolygonSubdivides_b1 200000000 x0 c e (x0.set c (putP x0[c] e (mdP a b)),0) a b) 0=some (.inl (x0.length:Int)):=by
  have hs:=scan_loop (body:=F.law46_PolygonSubdivides_b1 200000000 x0 c e (x0.set c (putP x0[c] e (mdP a b)),0) a b) (fun k=>(k:Int)) x0.length (fun k=>(none:Option Bool)) (e:=(x0.length:Int)) (fun k hk=>by
   have hkl:=sumlen_mem (List.getElem_mem hk)
   unfold F.law46_PolygonSubdivides_b1
   dsimp only
   rw [dT (by omega),kT,get_nat,gE hk,bB]
   by_cases hkc:k=c
   ·
    subst hkc
    have hw:F.slices_Insert_Point_Point 200000000 x0[k] ((e:Int)+1) [((mdP a b).1,((mdP a b).2.1,(mdP a b).2.2))]=some (putP x0[k] e (mdP a b)):=by
     unfold F.slices_Insert_Point_Point insG
     rw [if_pos ⟨by omega,by omega,by simp,by simp; omega⟩,show ((e:Int)+1).toNat=e+1 by omega]
     unfold putP
     rw [List.append_assoc]; rfl
    rw [dT rfl,kT]
    unfold F.slices_Clone_Point_Point
    rw [lim_ok (by simp; omega),bB,bB,List.nil_append,chk_ok (by omega) (by omega),bB,mid_eq fa fb,bB,hw,bB,get_nat,List.getElem?_set_self hk,bB,eqPt _ _ (by rw [putP_len he]; omega) (by rw [putP_len he]; omega),bB,Bool.not_true,kF,chk_ok (by omega) (by omega),bB]
    rfl
   ·
    rw [dF (by omega),kF,get_nat,List.getElem?_set_ne (fun h=>hkc h.symm),gE hk,bB,eqPt _ _ (by omega) (by omega),bB,Bool.not_true,kF,chk_ok (by omega) (by omega),bB]
    rfl) (by
   unfold F.law46_PolygonSubdivides_b1
   dsimp only
   rw [dF (by omega),kF]) 200000000 (by omega)
  rw [findSome_none (fun _ _=>rfl)] at hs
  exact hs
 rw [hloop,bB]
 dsimp only
 have hset:x0.set c (putP x0[c] e (mdP a b))=x0.take c++putP x0[c] e (mdP a b)::x0.drop (c+1):=by rw [List.set_eq_take_append_cons_drop,if_pos hc]
 have hx:x0=x0.take c++x0[c]::x0.drop (c+1):=by rw [List.getElem_cons_drop,List.take_append_drop]
 have hsum:sumlen (x0.take c++putP x0[c] e (mdP a b)::x0.drop (c+1))=sumlen x0+1:=by
  have h1:sumlen x0=sumlen (x0.take c++x0[c]::x0.drop (c+1)):=congrArg sumlen hx
  rw [sumlen_app,sumlen_cons] at h1
  rw [sumlen_app,sumlen_cons,putP_len he]; omega
 have hlen:(x0.take c++putP x0[c] e (mdP a b)::x0.drop (c+1)).length=x0.length:=by rw [←hset,List.length_set]
 rw [hset,proj_eq x0 200000000 (by omega) (by omega) (by decide),bB,proj_eq _ 200000000 (by omega) (by omega) (by decide),bB]
 by_cases h0:(projS x0).2.2.2=0
 case neg=>rw [dF h0]; rfl
 rw [dT h0,Bool.not_true,kF]
 have hmid:Mid (x0[c].getD e p0) (x0[c].getD ((e+1)%x0[c].length) p0) (mdP a b):=by
  have g1:x0[c].getD e p0=a:=by rw [List.getD_eq_getElem?_getD,ha]; rfl
  have g2:x0[c].getD ((e+1)%x0[c].length) p0=b:=by rw [List.getD_eq_getElem?_getD,hb]; rfl
  rw [g1,g2]
  exact ⟨half_of hev.1,half_of hev.2.1,half_of hev.2.2⟩
 have h0':=h0
 rw [hx] at h0'
 have hpp:=proj_put (l1:=x0.take c) (l2:=x0.drop (c+1)) he (by rw [←hx]; omega) hmid h0'
 rw [←hx] at hpp
 rcases hpp with hpp | hpp
 · rw [hpp]; rfl
 ·
  rw [hpp,h0]
  have hsm:=proj_small x0
  rw [equalD (projS x0) 200000000 (by omega) (by omega) (by omega) (by omega),bB]
  rfl
end Go.Proofs.Yteajmbanlohncaa
