import Derived.Test.YteajmbanlohncaaPQtrn
import Derived.Test.YteajmbanlohncaaPQawake
import Derived.Test.YteajmbanlohncaaPQtab
set_option linter.unusedVariables false
set_option linter.unusedSimpArgs false
namespace Go.Proofs.Yteajmbanlohncaa
open Ev
namespace Pg
def segP (p:List Pt) (i:Nat):Pt×Pt:=(p.getD i p0,p.getD ((i+1)%p.length) p0)
def segs (p:List Pt):List (Pt×Pt):=(List.range p.length).map (segP p)
def swp (b:Bool) (x:Pt×Pt):Pt×Pt:=if b then (x.2,x.1) else x
theorem edS_segs (b:Bool): ∀(s:Nat) (l:List (List Pt)),(edS s l).map (endsE b)=l.flatMap fun p=>(segs p).map (swp b)
 | s,[]=>rfl
 | s,p::l=>by
  have e:edS s (p::l)=edRow s p p.length++edS (s+p.length) l:=rfl
  rw [e,List.map_append,edS_segs b,List.flatMap_cons]
  congr 1
  unfold edRow segs
  rw [List.map_map,List.map_map]
  refine List.map_congr_left fun i _=>?_
  cases b<;>rfl
theorem perm_by {α:Type} {n:Nat} {f f':Nat→α} {g:Nat→Nat} (hl: ∀i,i<n→g i<n) (hi: ∀i j,i<n→j<n→g i=g j→i=j) (he: ∀i,i<n→f' i=f (g i)):((List.range n).map f').Perm ((List.range n).map f):=by
 have h1:((List.range n).map g).Perm (List.range n):=nd_perm' (nodup_map List.nodup_range fun a ha b hb e=>hi a b (List.mem_range.1 ha) (List.mem_range.1 hb) e) List.nodup_range fun k=>by
  rw [List.mem_map,List.mem_range]
  constructor
  ·
   rintro ⟨i,hi,rfl⟩
   exact hl i (List.mem_range.1 hi)
  ·
   intro hk
   obtain ⟨i,h1,h2⟩:=inj_surj hl hi k hk
   exact ⟨i,List.mem_range.2 h1,h2⟩
 have h2:=h1.map f
 rw [List.map_map] at h2
 have e:(List.range n).map f'=(List.range n).map (f∘g):=List.map_congr_left fun i hi=>he i (List.mem_range.1 hi)
 rw [e]
 exact h2
theorem mod_step {n a:Nat} (h:a<2*n):a%n=if a<n then a else a-n:=by
 by_cases h1:a<n
 · rw [if_pos h1,Nat.mod_eq_of_lt h1]
 · rw [if_neg h1,Nat.mod_eq_sub_mod (by omega),Nat.mod_eq_of_lt (by omega)]
theorem roll_at {p:List Pt} {k i:Nat} (hk:k<p.length) (hi:i<p.length):(p.drop k++p.take k).getD i p0=p.getD ((i+k)%p.length) p0:=by
 rw [List.getD_eq_getElem?_getD,List.getD_eq_getElem?_getD,mod_step (by omega)]
 by_cases h:i<p.length-k
 · rw [List.getElem?_append_left (by rw [List.length_drop]; exact h),List.getElem?_drop,if_pos (by omega),Nat.add_comm]
 ·
  rw [List.getElem?_append_right (by rw [List.length_drop]; omega),List.length_drop,List.getElem?_take,if_pos (by omega),if_neg (by omega)]
  congr 2
  omega
theorem roll_perm {p:List Pt} {k:Nat} (hk:k<p.length):(segs (p.drop k++p.take k)).Perm (segs p):=by
 have hl:(p.drop k++p.take k).length=p.length:=by rw [List.length_append,List.length_drop,List.length_take]; omega
 unfold segs
 rw [hl]
 refine perm_by (g:=fun i=>(i+k)%p.length) (fun i hi=>Nat.mod_lt _ (by omega)) (fun i j hi hj e=>?_) fun i hi=>?_
 ·
  rw [mod_step (by omega),mod_step (by omega)] at e
  split at e<;>split at e<;>omega
 ·
  unfold segP
  rw [hl,roll_at hk hi,roll_at hk (Nat.mod_lt _ (by omega))]
  congr 2
  rw [mod_step (show i+1<2*p.length by omega),mod_step (show i+k<2*p.length by omega)]
  have a1:=mod_step (n:=p.length) (a:=i+1+k)
  have a2:=mod_step (n:=p.length) (a:=i+k+1)
  split<;>split<;>(rw [mod_step (by omega),mod_step (by omega)]; split<;>split<;>omega)
theorem turn_perm (p:List Pt):(segs p.reverse).Perm ((segs p).map (swp true)):=by
 unfold segs
 rw [List.length_reverse,List.map_map]
 by_cases h0:p.length=0
 · rw [h0]; exact List.Perm.refl _
 refine perm_by (g:=fun i=>p.length-1-(i+1)%p.length) (fun i hi=>by omega) (fun i j hi hj e=>?_) fun i hi=>?_
 ·
  have h1:=Nat.mod_lt (i+1) (show 0<p.length by omega)
  have h2:=Nat.mod_lt (j+1) (show 0<p.length by omega)
  have e2:(i+1)%p.length=(j+1)%p.length:=by omega
  rw [mod_step (by omega),mod_step (by omega)] at e2
  split at e2<;>split at e2<;>omega
 ·
  have rev_at: ∀j,j<p.length→p.reverse.getD j p0=p.getD (p.length-1-j) p0:=fun j hj=>by
   rw [List.getD_eq_getElem?_getD,List.getD_eq_getElem?_getD,List.getElem?_reverse hj]
  have h1:=Nat.mod_lt (i+1) (show 0<p.length by omega)
  show segP p.reverse i=swp true (segP p (p.length-1-(i+1)%p.length))
  unfold segP swp
  simp only [if_true]
  rw [List.length_reverse,rev_at i hi,rev_at _ h1]
  congr 2
  rw [mod_step (show i+1<2*p.length by omega)]
  split
  · rw [mod_step (by omega)]; split<;>omega
  · rw [mod_step (by omega)]; split<;>omega
def rollP (k:Nat) (p:List Pt):List Pt:=p.drop (k%p.length)++p.take (k%p.length)
theorem swp_false (l:List (Pt×Pt)):l.map (swp false)=l:=by
 conv=>rhs; rw [←List.map_id l]
 exact List.map_congr_left fun x _=>rfl
theorem rolls_perm (k:Nat): ∀(l:List (List Pt)),(∀p∈l,p≠[])→((edS 0 (l.map (rollP k)).reverse).map (endsE false)).Perm ((edS 0 l).map (endsE false)):=by
 intro l hl
 rw [edS_segs,edS_segs]
 induction l with
 | nil=>exact List.Perm.refl _
 | cons p l ih=>
  rw [List.map_cons,List.reverse_cons,List.flatMap_append,List.flatMap_cons]
  refine List.Perm.trans (List.Perm.append (ih fun q hq=>hl q (by simp [hq])) ?_) List.perm_append_comm
  show List.Perm (((segs (rollP k p)).map (swp false))++[]) ((segs p).map (swp false))
  rw [List.append_nil,swp_false,swp_false]
  exact roll_perm (Nat.mod_lt _ (List.length_pos_iff.2 (hl p (by simp))))
theorem turns_perm: ∀(l:List (List Pt)),((edS 0 (l.map List.reverse)).map (endsE false)).Perm ((edS 0 l).map (endsE true)):=by
 intro l
 rw [edS_segs,edS_segs]
 induction l with
 | nil=>exact List.Perm.refl _
 | cons p l ih=>
  rw [List.map_cons,List.flatMap_cons,List.flatMap_cons,swp_false]
  exact List.Perm.append (turn_perm p) ih
theorem sum_map {f:List Pt→List Pt} (hf: ∀p,(f p).length=p.length) (l:List (List Pt)):sumlen (l.map f)=sumlen l:=by
 unfold sumlen
 rw [List.map_map]
 congr 1
 exact List.map_congr_left fun p _=>hf p
theorem sum_rev (l:List (List Pt)):sumlen l.reverse=sumlen l:=by
 unfold sumlen
 rw [List.map_reverse]
 exact List.Perm.sum_nat (List.reverse_perm _)
theorem roll_len (k:Nat) (p:List Pt):(rollP k p).length=p.length:=by
 unfold rollP
 rw [List.length_append,List.length_drop,List.length_take]
 omega
theorem vd_roll {l:List (List Pt)} (hv:Vd l) (k:Nat):Vd (l.map (rollP k)).reverse:=by
 refine ⟨fun p hp=>?_,by rw [sum_rev,sum_map (roll_len k)]; exact hv.2⟩
 rw [List.mem_reverse] at hp
 obtain ⟨q,hq,rfl⟩:=List.mem_map.1 hp
 refine ⟨by rw [roll_len]; exact (hv.1 q hq).1,fun x hx=>?_⟩
 unfold rollP at hx
 rcases List.mem_append.1 hx with hx | hx
 · exact (hv.1 q hq).2 x (List.mem_of_mem_drop hx)
 · exact (hv.1 q hq).2 x (List.mem_of_mem_take hx)
theorem vd_turn {l:List (List Pt)} (hv:Vd l):Vd (l.map List.reverse):=by
 refine ⟨fun p hp=>?_,by rw [sum_map (fun p=>List.length_reverse)]; exact hv.2⟩
 obtain ⟨q,hq,rfl⟩:=List.mem_map.1 hp
 refine ⟨by rw [List.length_reverse]; exact (hv.1 q hq).1,fun x hx=>(hv.1 q hq).2 x (List.mem_reverse.1 hx)⟩
theorem concat_eq (x y:List Pt) (n:Nat) (hn:3<n) (hx:x.length≤1000000) (hy:y.length≤1000000):F.slices_Concat_Point_Point n [x,y]=some (x++y):=by
 unfold F.slices_Concat_Point_Point
 have h1:loopN n (F.slices_Concat_Point_Point_b0 n [x,y]) (0,0)=some (((x.length+y.length:Nat):Int),2):=by
  obtain ⟨n,rfl⟩: ∃n',n=n'+3:=⟨n-3,by omega⟩
  have s0:F.slices_Concat_Point_Point_b0 (n+3) [x,y] (0,0)=some (.inl ((x.length:Int),1)):=by
   unfold F.slices_Concat_Point_Point_b0
   dsimp only
   rw [dT (by simp),kT,show Ev.get [x,y] 0=some x from rfl,bB,chk_ok (by omega) (by omega),bB,dF (by omega),kF,chk_ok (by omega) (by omega),bB]
   rw [show (0:Int)+(x.length:Int)=(x.length:Int) by omega]; rfl
  have s1:F.slices_Concat_Point_Point_b0 (n+3) [x,y] ((x.length:Int),1)=some (.inl (((x.length+y.length:Nat):Int),2)):=by
   unfold F.slices_Concat_Point_Point_b0
   dsimp only
   rw [dT (by simp),kT,show Ev.get [x,y] 1=some y from rfl,bB,chk_ok (by omega) (by omega),bB,dF (by omega),kF,chk_ok (by omega) (by omega),bB]
   rw [show (x.length:Int)+(y.length:Int)=((x.length+y.length:Nat):Int) by omega]; rfl
  have s2:F.slices_Concat_Point_Point_b0 (n+3) [x,y] (((x.length+y.length:Nat):Int),2)=some (.inr (((x.length+y.length:Nat):Int),2)):=by
   unfold F.slices_Concat_Point_Point_b0
   dsimp only
   rw [dF (by simp),kF]
  simp only [loopN,s0,s1,s2,bB]
 have h2:F.slices_Grow_Point_Point_nil n ((x.length+y.length:Nat):Int)=some []:=by
  unfold F.slices_Grow_Point_Point_nil
  rw [dF (by omega),kF,chk_ok (by omega) (by omega),bB,chk_ok (by omega) (by omega),bB]
  by_cases h:0<((x.length+y.length:Nat):Int)-(0-0)
  ·
   rw [dT h,kT,posz_ok h (by omega),bB,cut_ok (by omega) (by omega) (by omega),bB]
   rfl
  · rw [dF h,kF]
 have h3:loopN n (F.slices_Concat_Point_Point_b1 n [x,y]) ([],0)=some (x++y,2):=by
  obtain ⟨n,rfl⟩: ∃n',n=n'+3:=⟨n-3,by omega⟩
  have s0:F.slices_Concat_Point_Point_b1 (n+3) [x,y] ([],0)=some (.inl (x,1)):=by
   unfold F.slices_Concat_Point_Point_b1
   dsimp only
   rw [dT (by simp),kT,show Ev.get [x,y] 0=some x from rfl,bB,lim_ok (by simp; omega),bB,chk_ok (by omega) (by omega),bB]
   rfl
  have s1:F.slices_Concat_Point_Point_b1 (n+3) [x,y] (x,1)=some (.inl (x++y,2)):=by
   unfold F.slices_Concat_Point_Point_b1
   dsimp only
   rw [dT (by simp),kT,show Ev.get [x,y] 1=some y from rfl,bB,lim_ok (by omega),bB,chk_ok (by omega) (by omega),bB]
   rfl
  have s2:F.slices_Concat_Point_Point_b1 (n+3) [x,y] (x++y,2)=some (.inr (x++y,2)):=by
   unfold F.slices_Concat_Point_Point_b1
   dsimp only
   rw [dF (by simp),kF]
  simp only [loopN,s0,s1,s2,bB]
 rw [h1,bB]
 dsimp only
 rw [h2,bB,h3,bB]
theorem revPt (l:List Pt) (hl:l.length≤100000) (n:Nat) (hn:l.length<n):F.slices_Reverse_Point_Point n l=some l.reverse:=by
 obtain ⟨N,f,rfl,hN⟩: ∃(N:Nat) (f:Nat→Pt),l=tab N f∧N=l.length:=⟨_,_,tab_of l p0,rfl⟩
 rw [tab_rev]
 rw [tab_len] at hl hn
 unfold F.slices_Reverse_Point_Point
 rw [tab_len,chk_ok (by omega) (by omega),bB]
 have:=count_loop (body:=F.slices_Reverse_Point_Point_b0 n) (fun k=>((k:Int),(N:Int)-1-(k:Int),tab N (fun x=>if x<k∨N<x+k+1 then f (N-1-x) else f x))) (N/ 2) (r:=(((N/ 2:Nat):Int),(N:Int)-1-((N/ 2:Nat):Int),tab N fun x=>f (N-1-x))) (fun k hk=>by
  unfold F.slices_Reverse_Point_Point_b0
  dsimp only
  have e1:(N:Int)-1-(k:Int)=((N-1-k:Nat):Int):=by omega
  rw [dT (by omega),kT,get_tab e1 (by omega),bB,get_tab rfl (by omega),bB,bB]
  rw [show (k:Int).toNat=k by omega,show ((N:Int)-1-(k:Int)).toNat=N-1-k by omega,if_neg (by omega),if_neg (by omega),tab_set,get_tab e1 (by omega),bB,chk_ok (by omega) (by omega),bB,chk_ok (by omega) (by omega),bB,tab_set]
  rw [show (N:Int)-1-(k:Int)-1=(N:Int)-1-((k+1:Nat):Int) by omega]
  congr 4
  apply tab_ext
  intro x hx
  by_cases e1:x=N-1-k
  · subst e1; rw [if_pos rfl,if_pos (by omega),show N-1-(N-1-k)=k by omega]
  ·
   rw [if_neg e1]
   by_cases e2:x=k
   · subst e2; rw [if_pos rfl,if_pos (by omega)]
   ·
    rw [if_neg e2]
    by_cases e3:x<k∨N<x+k+1
    · rw [if_pos e3,if_pos (by omega)]
    · rw [if_neg e3,if_neg (by omega)]) (by
  unfold F.slices_Reverse_Point_Point_b0
  dsimp only
  rw [dF (by omega),kF]
  congr 4
  apply tab_ext
  intro x hx
  by_cases e3:x<N/ 2∨N<x+N/ 2+1
  · rw [if_pos e3]
  · rw [if_neg e3]; congr 1; omega) n (by omega)
 have e0:tab N f=tab N (fun x=>if x<0∨N<x+0+1 then f (N-1-x) else f x):=tab_ext fun x hx=>(if_neg (by omega)).symm
 rw [e0,show ((0:Int),(N:Int)-1,tab N (fun x=>if x<0∨N<x+0+1 then f (N-1-x) else f x))=((((0:Nat)):Int),(N:Int)-1-(((0:Nat)):Int),tab N (fun x=>if x<0∨N<x+0+1 then f (N-1-x) else f x)) by simp,this,bB]
theorem starts_loop {l:List (List Pt)} (hl: ∀p∈l,p≠[]) (hs:sumlen l≤10000) (hll:l.length≤10000) (b:Nat) (hb:b≤255) (n:Nat) (hn:100000<n):loopN n (F.law46_PolygonStarts_b0 n l (b:Int)) ([],[],0)=some ((l.map (rollP b)).reverse,l.map List.reverse,(l.length:Int)):=by
 have e0:(([]:List (List Pt)),([]:List (List Pt)),(0:Int))=(fun j:Nat=>(((l.take j).map (rollP b)).reverse,(l.take j).map List.reverse,(j:Int))) 0:=by simp
 rw [e0]
 refine count_loop (fun j:Nat=>(((l.take j).map (rollP b)).reverse,(l.take j).map List.reverse,(j:Int))) l.length (fun j hj=>?_) ?_ n (by omega)
 ·
  have hg:l[j]? =some l[j]:=gE hj
  have hm:=List.getElem_mem hj
  have hne:=List.length_pos_iff.2 (hl _ hm)
  have hpl:=sumlen_mem hm
  have e1:Int.tmod (b:Int) (l[j].length:Int)=((b%l[j].length:Nat):Int):=Int.ofNat_tmod b l[j].length
  have hmod:=Nat.mod_lt b hne
  have hrl:rollP b l[j]=(l[j].drop (b%l[j].length)).take (l[j].length-b%l[j].length)++(l[j].drop 0).take (b%l[j].length-0):=by
   unfold rollP
   rw [List.take_of_length_le (l:=l[j].drop (b%l[j].length)) (by rw [List.length_drop]; omega)]
   rfl
  unfold F.law46_PolygonStarts_b0
  dsimp only
  rw [dT (by omega),kT,get_nat,hg,bB,nz_ok (by omega),bB,e1,cut_ok (by omega) (by omega) (by omega),bB,cut_ok (by omega) (by omega) (by omega),bB]
  rw [Int.toNat_natCast,Int.toNat_natCast,show (0:Int).toNat=0 from rfl,concat_eq _ _ n (by omega) (by rw [List.length_take,List.length_drop]; omega) (by rw [List.length_take,List.length_drop]; omega),bB,←hrl,lim_ok (by simp; omega),bB]
  unfold F.slices_Clone_Point_Point
  rw [lim_ok (by simp; omega),bB,bB,List.nil_append,revPt _ (by omega) n (by omega),bB,lim_ok (by simp; omega),bB,chk_ok (by omega) (by omega),bB,List.take_add_one,hg,List.map_append,List.reverse_append,List.map_append]
  rfl
 ·
  unfold F.law46_PolygonStarts_b0
  dsimp only
  rw [dF (by omega),kF,List.take_length]
theorem u8_rng {z:Int} (h:IntKind.u8.wrap z=z):0≤z∧z<256:=by
 simp [IntKind.wrap,IntKind.signed,IntKind.bits] at h
 omega
end Pg
open Pg in
theorem law46_PolygonStarts_true (x0:List (List (Int×(Int×Int)))) (z1:Int) (o0:Ev.Sh.ok (.sl (.sl (.pr (.int .i64) (.pr (.int .i64) (.int .i64))))) x0) (o1:Ev.Sh.ok (.int .u8) z1) (b0:Ev.Sh.bulk (.sl (.sl (.pr (.int .i64) (.pr (.int .i64) (.int .i64))))) x0≤1048576) (b1:Ev.Sh.bulk (.int .u8) z1≤1048576):
  ∃n,F.law46_PolygonStarts n x0 z1=some true:=by
 have s1:=sumlen_bulk x0
 have s2:=len_bulk x0
 have hs1:sumlen x0≤1048576:=Nat.le_trans s1 b0
 have hs2:x0.length≤1048576:=Nat.le_trans s2 b0
 refine ⟨200000000,?_⟩
 unfold F.law46_PolygonStarts
 rw [awake46,bB,Bool.not_true,kF,generic_law x0 200000000 (by omega) (by omega) (by decide),bB]
 by_cases hf:Few x0
 case neg=>rw [if_neg hf]; rfl
 rw [if_pos hf]
 dsimp only
 by_cases h0:(projS x0).2.2.2=0
 case neg=>rw [dF h0]; rfl
 obtain ⟨hv,hg,h64,hgen,he⟩:=proj_net_ok h0
 have hf1:=hf.1
 have hf2:=hf.2
 rw [dT h0,Bool.not_true,kF]
 by_cases hz:(x0.length:Int)=0
 · rw [dT hz]; rfl
 rw [dF hz,kF]
 have hbz:0≤z1∧z1≤255:=by
  have:=u8_rng (show IntKind.u8.wrap z1=z1 from o1)
  omega
 obtain ⟨b,rfl⟩: ∃b:Nat,z1=(b:Int):=⟨z1.toNat,by omega⟩
 have h20:x0.length<20:=by
  have h3:=hv.1
  have key: ∀l:List (List Pt),(∀p∈l,3≤p.length)→3*l.length≤sumlen l:=by
   intro l
   induction l with
   | nil=>intro _; simp
   | cons p r ih=>
    intro h
    have h1:=h p List.mem_cons_self
    have h2:=ih fun q hq=>h q (List.mem_cons_of_mem _ hq)
    rw [sumlen_cons,List.length_cons]
    omega
  have:=key x0 fun p hp=>(h3 p hp).1
  omega
 have hne:=vd_ne hv
 rw [starts_loop hne (by omega) (by omega) b (by omega) 200000000 (by decide),bB]
 dsimp only
 have hvr:=vd_roll hv b
 have hvt:=vd_turn hv
 have l1:sumlen (x0.map (rollP b)).reverse=sumlen x0:=by rw [sum_rev,sum_map (roll_len b)]
 have l2:sumlen (x0.map List.reverse)=sumlen x0:=sum_map (fun p=>List.length_reverse) x0
 rw [proj_eq _ 200000000 (by omega) (by rw [List.length_reverse,List.length_map]; omega) (by decide),bB,proj_eq _ 200000000 (by omega) (by rw [List.length_map]; omega) (by decide),bB]
 obtain ⟨a1,M1,a2,a3⟩:=proj_same h0 hvr h20 (rev:=false) (rolls_perm b x0 hne) 200000000 (by decide)
 obtain ⟨b1,M2,b2,b3⟩:=proj_same h0 hvt h20 (rev:=true) (turns_perm x0) 200000000 (by decide)
 simp only [Bool.false_eq_true,if_false] at a2
 simp only [if_true] at b2
 rw [b2,bB,dT a1,kT,dT b1,kT]
 dsimp only
 rw [←a2]
 dsimp only
 rw [dT rfl,kT,a3,bB,kT,b3,bB]
end Go.Proofs.Yteajmbanlohncaa
