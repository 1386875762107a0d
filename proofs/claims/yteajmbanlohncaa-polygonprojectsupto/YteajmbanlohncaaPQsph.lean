import Derived.Test.YteajmbanlohncaaPQgenus
import Derived.Test.YteajmbanlohncaaBulk
set_option linter.unusedVariables false
set_option linter.unusedSimpArgs false
namespace Go.Proofs.Yteajmbanlohncaa
open Ev
namespace Pg
abbrev Dg:=List Int×List Int×Int×Int
open Classical in
noncomputable def gdS (cs:List (List Vis)) (sg:List Int) (lo:Int):Dg:=
 if GV cs sg lo then if Int.tdiv (gen2 sg.length (muS sg cs)) 2=0 then (sg,mtS sg cs,lo,0) else ([],[],0,7) else ([],[],0,1)
open Classical in
theorem gd_eq (cs:List (List Vis)) (sg:List Int) (lo:Int) (n:Nat) (hb:cs.flatten.length≤100000000) (hc:cs.length≤100000000) (hn:500<n) (hn1:cs.length<n) (hn2:cs.flatten.length<n):
  F.gauss_Diagram n cs sg lo=some (gdS cs sg lo):=by
 unfold F.gauss_Diagram gdS
 rw [gv_eq cs sg lo n hb hc (by omega) hn1 hn2,bB]
 by_cases hg:GV cs sg lo
 case neg=>rw [dF hg,if_neg hg]; rfl
 have h64:sg.length≤64:=hg.1
 rw [dT hg,if_pos hg,Bool.not_true,kF,mates_eq hg.2.2.2.2.2.1 h64 lo n hn2 hn1 (by omega) (by omega),bB,genus_eq hg.mt (by omega) n hn,bB]
 by_cases h0:Int.tdiv (gen2 sg.length (muS sg cs)) 2=0
 ·
  rw [dT h0,if_pos h0,Bool.not_true,kF]
  unfold F.slices_Clone_Lint_int
  rw [lim_ok (by simp; omega),bB,bB,List.nil_append]
 · rw [dF h0,if_neg h0]; rfl
def countS (es:List Ed):Nat:=((List.range es.length).map (fun i=>(srt es i).length)).sum
open Classical in
noncomputable def projS (l:List (List Pt)):Dg:=
 if Vd l then
  if GenE (edS 0 l) then
   if 128<countS (edS 0 l) then ([],[],0,5)
   else gdS (codeS (edS 0 l) (srt (edS 0 l)) l).1 (codeS (edS 0 l) (srt (edS 0 l)) l).2.1 (codeS (edS 0 l) (srt (edS 0 l)) l).2.2
  else ([],[],0,15)
 else ([],[],0,1)
theorem srt_len {es:List Ed} (hF:FitE es) {i:Nat} (hi:i<es.length) (hN:es.length≤1000000000):(srt es i).length≤es.length:=by
 have h:=(sortL_perm (sort_eq hF hi hN 0).2).1.length_eq
 have h2:=ps_le es i es.length
 unfold srt
 omega
theorem srt_mem {es:List Ed} (hF:FitE es) {i:Nat} (hi:i<es.length) (hN:es.length≤1000000000) {x:Int×Bool} (h:x∈srt es i):x∈ps es i es.length:=(sortL_perm (sort_eq hF hi hN 0).2).1.mem_iff.1 h
theorem srt_ok {es:List Ed} (hF:FitE es) {i:Nat} (hi:i<es.length) (hN:es.length≤1000000000):RowOk es.length (srt es i):=by
 refine ⟨srt_len hF hi hN,fun x hx=>?_⟩
 obtain ⟨k,hk,e,_⟩:=ps_mem (srt_mem hF hi hN hx)
 omega
theorem crow_len {es:List Ed} {i:Nat}: ∀(row:List (Int×Bool)) (st:CS),(crow es i st row).1.length=st.1.length+row.length
 | [],st=>rfl
 | x::r,st=>by
  have:=crow_len (es:=es) (i:=i) r (cstep es i st x)
  have e:(cstep es i st x).1.length=st.1.length+1:=by
   unfold cstep
   split<;>simp
  rw [e] at this
  rw [List.length_cons]
  show (crow es i (cstep es i st x) r).1.length=_
  omega
theorem cpoly_len {es:List Ed} {P:Nat→List (Int×Bool)} {s B:Nat}: ∀(m:Nat) (st:CS),(∀j,j<m→(P (s+j)).length≤B)→(cpoly es P s m st).1.length≤st.1.length+m*B
 | 0,st,_=>by simp [cpoly]
 | m+1,st,h=>by
  have ih:=cpoly_len (es:=es) m st fun j hj=>h j (by omega)
  have hm:=h m (by omega)
  rw [cpoly_succ,crow_len,Nat.succ_mul]
  omega
theorem code_small {es:List Ed} {P:Nat→List (Int×Bool)} {B:Nat} (hP: ∀j,j<es.length→(P j).length≤B): ∀(l:List (List Pt)),sumlen l≤es.length→
  (cofold es P l).2.1.flatten.length≤sumlen l*B∧(cofold es P l).2.1.length≤l.length:=by
 intro l hl
 have key: ∀k,k≤l.length→(cofold es P (l.take k)).2.1.flatten.length≤sumlen (l.take k)*B∧(cofold es P (l.take k)).2.1.length≤k:=by
  intro k
  induction k with
  | zero=>intro _; simp [cofold]
  | succ k ih=>
   intro hk
   obtain ⟨i1,i2⟩:=ih (by omega)
   have hg:l[k]? =some l[k]:=gE (by omega)
   have hsu:=sumlen_take_succ hg
   have hle:=sumlen_take_le l (k+1)
   have e:cofold es P (l.take (k+1))=costep es P (cofold es P (l.take k)) l[k]:=by
    rw [List.take_add_one,hg]
    exact cofold_snoc es P (l.take k) l[k]
   have hst:=cofold_start es P (l.take k)
   rw [e,hsu,Nat.add_mul]
   generalize cofold es P (l.take k)=a at*
   have hp:=cpoly_len (es:=es) (P:=P) (s:=a.1) (B:=B) l[k].length ([],a.2.2.1,a.2.2.2.2) (fun j hj=>hP _ (by omega))
   unfold costep
   dsimp only at hp⊢
   split
   ·
    rw [List.flatten_append,List.length_append,List.length_append]
    simp only [List.flatten_cons,List.flatten_nil,List.append_nil,List.length_singleton,List.length_nil] at hp⊢
    omega
   · omega
 have:=key l.length (Nat.le_refl _)
 rwa [List.take_length] at this
open Classical in
theorem proj_eq (l:List (List Pt)) (n:Nat) (hb:sumlen l≤100000000) (hl2:l.length≤100000000) (hn:100000000<n):F.polygon_Project n l=some (projS l):=by
 unfold F.polygon_Project projS
 rw [valid_eq l n (by omega) (by omega) (by omega) (by omega) (by omega),bB]
 by_cases hv:Vd l
 case neg=>rw [dF hv,if_neg hv]; rfl
 have hs:=hv.2
 have hF:FitE (edS 0 l):=fit_edS 0 fun p hp=>(hv.1 p hp).2
 have hlen:=edS_len 0 l
 have hll:l.length≤100:=by
  have: ∀(l:List (List Pt)),(∀p∈l,3≤p.length)→l.length≤sumlen l:=by
   intro l
   induction l with
   | nil=>intro _; simp
   | cons p r ih=>
    intro h
    have h1:=h p List.mem_cons_self
    have h2:=ih fun q hq=>h q (List.mem_cons_of_mem _ hq)
    unfold sumlen at*
    rw [List.map_cons,List.sum_cons,List.length_cons]
    omega
  have:=this l fun p hp=>(hv.1 p hp).1
  omega
 rw [dT hv,if_pos hv,Bool.not_true,kF,edges_eq l n (by omega) (by omega) (by omega) (by omega),bB,cross_list hF (by omega) n (by omega) (by omega),bB]
 by_cases hg:GenE (edS 0 l)
 case neg=>rw [if_neg hg,if_neg hg]; rfl
 rw [if_pos hg,if_pos hg]
 dsimp only
 rw [Bool.not_true,kF]
 generalize hes:edS 0 l=es at*
 have hcl:loopN n (F.polygon_Project_b0 n ((List.range es.length).map (srt es),true)) (0,0)=some ((countS es:Int),(es.length:Int)):=by
  have hpre: ∀k,k≤es.length→((List.range k).map (fun i=>(srt es i).length)).sum≤k*100:=by
   intro k
   induction k with
   | zero=>intro _; simp
   | succ k ih=>
    intro hk
    have:=ih (by omega)
    have h2:=srt_len hF (i:=k) (by omega) (by omega)
    rw [List.range_succ,List.map_append,List.sum_append,Nat.succ_mul]
    simp only [List.map_cons,List.map_nil,List.sum_cons,List.sum_nil]
    omega
  refine count_loop (fun k:Nat=>(((((List.range k).map (fun i=>(srt es i).length)).sum:Nat):Int),(k:Int))) es.length (fun k hk=>?_) ?_ n (by omega)
  ·
   have hp:=hpre (k+1) (by omega)
   have hsum:((List.range (k+1)).map (fun i=>(srt es i).length)).sum=((List.range k).map (fun i=>(srt es i).length)).sum+(srt es k).length:=by
    rw [List.range_succ,List.map_append,List.sum_append]; simp
   unfold F.polygon_Project_b0
   dsimp only
   rw [List.length_map,List.length_range,dT (by omega),kT,get_nat,List.getElem?_map,List.getElem?_range hk,Option.map_some,bB,chk_ok (by omega) (by omega),bB,chk_ok (by omega) (by omega),bB,hsum]
   rfl
  ·
   unfold F.polygon_Project_b0
   dsimp only
   rw [List.length_map,List.length_range,dF (by omega),kF]
   rfl
 rw [hcl,bB]
 dsimp only
 by_cases hc:128<countS es
 · rw [dT (by omega),if_pos hc]; rfl
 have hP: ∀j,j<es.length→((List.range es.length).map (srt es))[j]? =some (srt es j)∧RowOk es.length (srt es j):=fun j hj=>⟨by rw [List.getElem?_map,List.getElem?_range hj]; rfl,srt_ok hF hj (by omega)⟩
 rw [dF (by omega),if_neg hc,kF,code_eq hF (by omega) hP (by omega) (by omega) n (by omega) (by omega),bB]
 obtain ⟨b1,b2⟩:=code_small (B:=100) (P:=srt es) (fun j hj=>by have:=srt_len hF hj (by omega); omega) l (by omega)
 rw [gd_eq _ _ _ n (by unfold codeS; dsimp only; omega) (by unfold codeS; dsimp only; omega) (by omega) (by unfold codeS; dsimp only; omega) (by unfold codeS; dsimp only; omega),bB]
open Classical in
theorem generic_eq (l:List (List Pt)) (n:Nat) (hb:sumlen l≤100000000) (hl2:l.length≤100000000) (hn:100000000<n):F.polygon_Generic n l=some (decide (Vd l∧GenE (edS 0 l))):=by
 unfold F.polygon_Generic
 rw [valid_eq l n (by omega) (by omega) (by omega) (by omega) (by omega),bB]
 by_cases hv:Vd l
 case neg=>rw [dF hv,dF (fun h=>hv h.1)]; rfl
 have hF:FitE (edS 0 l):=fit_edS 0 fun p hp=>(hv.1 p hp).2
 have hlen:=edS_len 0 l
 have hs:=hv.2
 rw [dT hv,Bool.not_true,kF,edges_eq l n (by omega) (by omega) (by omega) (by omega),bB,cross_list hF (by omega) n (by omega) (by omega),bB]
 by_cases hg:GenE (edS 0 l)
 · rw [if_pos hg,dT ⟨hv,hg⟩]
 · rw [if_neg hg,dF (fun h=>hg h.2)]
abbrev ShP:Ev.Sh:=.pr (.int .i64) (.pr (.int .i64) (.int .i64))
theorem sumlen_bulk (l:List (List Pt)):sumlen l≤Ev.Sh.bulk (.sl (.sl ShP)) l:=by
 have: ∀l:List (List Pt),sumlen l≤(l.map (Ev.Sh.bulk (.sl ShP))).sum:=by
  intro l
  induction l with
  | nil=>simp [sumlen]
  | cons p r ih=>
   have h:=Ev.Sh.bulk_len ShP p
   unfold sumlen at*
   rw [List.map_cons,List.sum_cons,List.map_cons,List.sum_cons]
   omega
 have h:=this l
 show _≤(l.map (Ev.Sh.bulk (.sl ShP))).sum+1
 omega
theorem len_bulk (l:List (List Pt)):l.length≤Ev.Sh.bulk (.sl (.sl ShP)) l:=Ev.Sh.bulk_len (.sl ShP) l
def Few (l:List (List Pt)):Prop:=l.length≤24∧sumlen l≤24
instance (l:List (List Pt)):Decidable (Few l):=by unfold Few; infer_instance
theorem few_eq (l:List (List Pt)) (n:Nat) (hb:sumlen l≤100000000) (hl:l.length≤100000000) (hn:100000000<n):F.law46_few n l=some (decide (Few l)):=by
 unfold F.law46_few
 have h0:((0:Int),(0:Int))=(fun k:Nat=>((sumlen (l.take k):Int),(k:Int))) 0:=by simp [sumlen]
 have hc:loopN n (F.law46_few_b0 n l) (0,0)=some ((sumlen l:Int),(l.length:Int)):=by
  rw [h0]
  refine count_loop (fun k:Nat=>((sumlen (l.take k):Int),(k:Int))) l.length (fun k hk=>?_) ?_ n (by omega)
  ·
   have hg:l[k]? =some l[k]:=gE hk
   have hsu:=sumlen_take_succ hg
   have hle:=sumlen_take_le l (k+1)
   unfold F.law46_few_b0
   dsimp only
   rw [dT (by omega),kT,get_nat,hg,bB,chk_ok (by omega) (by omega),bB,chk_ok (by omega) (by omega),bB,hsu,Int.natCast_add]
   rfl
  ·
   unfold F.law46_few_b0
   dsimp only
   rw [dF (by omega),kF,List.take_length]
 rw [hc,bB]
 dsimp only
 by_cases h1:l.length≤24
 ·
  rw [dT (by omega),kT]
  refine congrArg some (decide_eq_decide.mpr ⟨fun h=>⟨h1,by omega⟩,fun h=>by have:=h.2; omega⟩)
 · rw [dF (by omega),kF,dF (fun h=>h1 h.1)]
structure PI (N:Nat) (f:Nat→Nat):Prop where
 lt: ∀a,a<N→f a<N
 inj: ∀a b,a<N→b<N→f a=f b→a=b
def adjI (N:Nat) (f:Nat→Nat) (a b:Nat):Prop:=a<N∧b<N∧(b=f a∨a=f b)
theorem adjI_symm {N:Nat} {f:Nat→Nat} (a b:Nat) (h:adjI N f a b):adjI N f b a:=⟨h.2.1,h.1,h.2.2.symm⟩
section
variable {N : Nat} {f : Nat → Nat} (P : PI N f)
include P
theorem PI.it {a:Nat} (ha:a<N) (k:Nat):Pg.it f k a<N:=by
 induction k with
 | zero=>exact ha
 | succ k ih=>exact P.lt _ ih
theorem PI.cn {a:Nat} (ha:a<N) (k:Nat):Cn (adjI N f) a (Pg.it f k a):=by
 induction k with
 | zero=>exact .refl _
 | succ k ih=>exact .step ih ⟨P.it ha k,P.lt _ (P.it ha k),.inl rfl⟩
theorem PI.back {a:Nat} (ha:a<N): ∀(j k:Nat),Pg.it f j a=Pg.it f (j+k) a→a=Pg.it f k a
 | 0,k,e=>by rw [Nat.zero_add] at e; exact e
 | j+1,k,e=>by
  refine PI.back ha j k (P.inj _ _ (P.it ha _) (P.it ha _) ?_)
  rw [show j+1+k=(j+k)+1 from by omega] at e
  exact e
theorem PI.period {a:Nat} (ha:a<N): ∃L,0<L∧Pg.it f L a=a:=by
 have: ∃i j,i<j∧Pg.it f i a=Pg.it f j a:=by
  apply Classical.byContradiction
  intro hc
  have hn:((List.range (N+1)).map fun k=>Pg.it f k a).Nodup:=nodup_map List.nodup_range fun x _ y _ e=>by
   rcases Nat.lt_trichotomy x y with h | h | h
   · exact absurd ⟨x,y,h,e⟩ hc
   · exact h
   · exact absurd ⟨y,x,h,e.symm⟩ hc
  have:=nodup_lt (N:=N) hn fun x hx=>by
   obtain ⟨k,_,rfl⟩:=List.mem_map.1 hx
   exact P.it ha k
  rw [List.length_map,List.length_range] at this
  omega
 obtain ⟨i,j,hij,e⟩:=this
 exact ⟨j-i,by omega,(P.back ha i (j-i) (by rw [show i+(j-i)=j from by omega]; exact e)).symm⟩
theorem PI.fwd {a b:Nat} (ha:a<N) (h:Cn (adjI N f) a b): ∃k,Pg.it f k a=b:=by
 obtain ⟨L,hL,e⟩:=P.period ha
 refine Cn.closed (S:=fun b=> ∃k,Pg.it f k a=b) (fun x y=>?_) h ⟨0,rfl⟩
 rintro ⟨k,rfl⟩ ⟨h1,h2,h3 | h3⟩
 · exact ⟨k+1,h3.symm⟩
 ·
  cases k with
  | zero=>
   refine ⟨L-1,P.inj _ _ (P.it ha _) h2 ?_⟩
   rw [←h3]
   show Pg.it f (L-1+1) a=_
   rw [show L-1+1=L from by omega,e]
   rfl
  | succ k=>exact ⟨k,P.inj _ _ (P.it ha _) h2 h3⟩
end
def sw (f:Nat→Nat) (a b x:Nat):Nat:=if x=a then f b else if x=b then f a else f x
theorem sw_sw {f:Nat→Nat} {a b x:Nat} (hab:a≠b):sw (sw f a b) a b x=f x:=by
 unfold sw
 by_cases h1:x=a
 ·
  subst h1
  rw [if_pos rfl,if_neg (fun h=>hab h.symm),if_pos rfl]
 ·
  by_cases h2:x=b
  · subst h2; rw [if_neg h1,if_pos rfl,if_pos rfl]
  · rw [if_neg h1,if_neg h2,if_neg h1,if_neg h2]
theorem PI.sw {N:Nat} {f:Nat→Nat} (P:PI N f) {a b:Nat} (ha:a<N) (hb:b<N):PI N (sw f a b):=by
 refine ⟨fun x hx=>?_,fun x y hx hy e=>?_⟩
 ·
  unfold Pg.sw
  split
  · exact P.lt _ hb
  split
  · exact P.lt _ ha
  · exact P.lt _ hx
 ·
  have key: ∀z,Pg.sw f a b z=f (if z=a then b else if z=b then a else z):=by
   intro z
   unfold Pg.sw
   split
   · rfl
   split<;>rfl
  have hl: ∀z,z<N→(if z=a then b else if z=b then a else z)<N:=by
   intro z hz
   split
   · exact hb
   split
   · exact ha
   · exact hz
  rw [key,key] at e
  have:=P.inj _ _ (hl x hx) (hl y hy) e
  revert this
  split<;>split<;>(try split)<;>(try split)<;>omega
def orAdj (adj:Nat→Nat→Prop) (a b x y:Nat):Prop:=adj x y∨(x=a∧y=b)∨(x=b∧y=a)
theorem orAdj_symm {adj:Nat→Nat→Prop} (hs: ∀a b,adj a b→adj b a) {a b:Nat} (x y:Nat) (h:orAdj adj a b x y):orAdj adj a b y x:=by
 rcases h with h | ⟨h1,h2⟩ | ⟨h1,h2⟩
 · exact .inl (hs _ _ h)
 · exact .inr (.inr ⟨h2,h1⟩)
 · exact .inr (.inl ⟨h2,h1⟩)
theorem cn_sw {N:Nat} {f:Nat→Nat} (P:PI N f) {a b:Nat} (ha:a<N) (hb:b<N) (hn: ¬Cn (adjI N f) a b) (x y:Nat):Cn (adjI N (sw f a b)) x y↔Cn (orAdj (adjI N f) a b) x y:=by
 have P':=P.sw ha hb
 have hab:a≠b:=fun h=>hn (h▸.refl _)
 have key: ∀a b,a<N→b<N→a≠b→¬Cn (adjI N f) b a→(∀x,sw f a b x=if x=a then f b else if x=b then f a else f x)→Cn (adjI N (sw f a b)) a b:=by
  intro a b ha hb hab hn hsw
  obtain ⟨L0,hL0⟩:=P.period hb
  obtain ⟨L,⟨hL,e⟩,_,hmin⟩:=least_of (p:=fun L=>0<L∧it f L b=b) hL0
  have step: ∀j,1≤j→j≤L→Cn (adjI N (sw f a b)) a (it f j b):=by
   intro j
   induction j with
   | zero=>intro h; omega
   | succ j ih=>
    intro _ hj
    rcases Nat.eq_zero_or_pos j with h0 | h0
    ·
     subst h0
     refine Cn.one ⟨ha,P.it hb 1,.inl ?_⟩
     rw [hsw,if_pos rfl]; rfl
    ·
     refine .step (ih h0 (by omega)) ⟨P.it hb j,P.it hb (j+1),.inl ?_⟩
     have h1:it f j b≠a:=fun h=>hn (h▸P.cn hb j)
     have h2:it f j b≠b:=fun h=>hmin j (by omega) ⟨h0,h⟩
     rw [hsw,if_neg h1,if_neg h2]; rfl
  have:=step L hL (Nat.le_refl _)
  rwa [e] at this
 have hab':Cn (adjI N (sw f a b)) a b:=key a b ha hb hab (fun h=>hn (h.symm adjI_symm)) (fun _=>rfl)
 constructor
 ·
  refine fun h=>Cn.map (f:=id) (fun x y hxy=>?_) h
  show Cn _ x y
  obtain ⟨h1,h2,h3⟩:=hxy
  have fw: ∀x,x<N→Cn (orAdj (adjI N f) a b) x (sw f a b x):=by
   intro x hx
   unfold sw
   by_cases x1:x=a
   ·
    subst x1
    rw [if_pos rfl]
    exact (Cn.one (.inr (.inl ⟨rfl,rfl⟩))).step (.inl ⟨hb,P.lt _ hb,.inl rfl⟩)
   by_cases x2:x=b
   ·
    subst x2
    rw [if_neg x1,if_pos rfl]
    exact (Cn.one (.inr (.inr ⟨rfl,rfl⟩))).step (.inl ⟨ha,P.lt _ ha,.inl rfl⟩)
   ·
    rw [if_neg x1,if_neg x2]
    exact Cn.one (.inl ⟨hx,P.lt _ hx,.inl rfl⟩)
  rcases h3 with h3 | h3
  · rw [h3]; exact fw x h1
  · rw [h3]; exact (fw y h2).symm (orAdj_symm adjI_symm)
 ·
  refine fun h=>Cn.map (f:=id) (fun x y hxy=>?_) h
  show Cn _ x y
  have fw: ∀x,x<N→Cn (adjI N (sw f a b)) x (f x):=by
   intro x hx
   by_cases x1:x=a
   ·
    subst x1
    refine hab'.step ⟨hb,P.lt _ hx,.inl ?_⟩
    unfold sw
    rw [if_neg (fun h=>hab h.symm),if_pos rfl]
   by_cases x2:x=b
   ·
    subst x2
    refine (hab'.symm adjI_symm).step ⟨ha,P.lt _ hx,.inl ?_⟩
    unfold sw
    rw [if_pos rfl]
   ·
    refine Cn.one ⟨hx,P.lt _ hx,.inl ?_⟩
    unfold sw
    rw [if_neg x1,if_neg x2]
  rcases hxy with ⟨h1,h2,h3⟩ | ⟨rfl,rfl⟩ | ⟨rfl,rfl⟩
  ·
   rcases h3 with h3 | h3
   · rw [h3]; exact fw x h1
   · rw [h3]; exact (fw y h2).symm adjI_symm
  · exact hab'
  · exact hab'.symm adjI_symm
theorem cn_cut {N:Nat} {f:Nat→Nat} (P:PI N f) {a b:Nat} (ha:a<N) (hb:b<N) (hab:a≠b) (h:Cn (adjI N f) a b): ¬Cn (adjI N (sw f a b)) a b:=by
 have P':=P.sw ha hb
 obtain ⟨q0,e0⟩:=P.fwd hb (h.symm adjI_symm)
 obtain ⟨q,e,_,hmin⟩:=least_of (p:=fun k=>it f k b=a) e0
 have hq:0<q:=by
  rcases Nat.eq_zero_or_pos q with h0 | h0
  · subst h0; exact absurd e.symm hab
  · exact h0
 have hne: ∀j,1≤j→j≤q→it f j b≠b:=by
  intro j h1 h2 hjb
  have e3: ∀k,it f (k+j) b=it f k b:=by
   intro k
   induction k with
   | zero=>rw [Nat.zero_add,hjb]; rfl
   | succ k ih=>rw [show k+1+j=(k+j)+1 from by omega]; show f _=f _; rw [ih]
  have:=e3 (q-j)
  rw [show q-j+j=q from by omega,e] at this
  exact hmin (q-j) (by omega) this.symm
 intro hc
 have hV:=Cn.closed (S:=fun x=> ∃j,1≤j∧j≤q∧it f j b=x) (fun x y=>?_) hc ⟨q,hq,Nat.le_refl _,e⟩
 ·
  obtain ⟨j,h1,h2,h3⟩:=hV
  exact hne j h1 h2 h3
 ·
  have fw: ∀j,1≤j→j≤q→sw f a b (it f j b)=if j=q then it f 1 b else it f (j+1) b:=by
   intro j h1 h2
   unfold sw
   by_cases hj:j=q
   · subst hj; rw [if_pos e,if_pos rfl]; rfl
   · rw [if_neg (fun h=>hmin j (by omega) h),if_neg (hne j h1 h2),if_neg hj]; rfl
  rintro ⟨j,h1,h2,rfl⟩ ⟨h3,h4,h5 | h5⟩
  ·
   rw [fw j h1 h2] at h5
   by_cases hj:j=q
   · rw [if_pos hj] at h5; exact ⟨1,by omega,by omega,h5.symm⟩
   · rw [if_neg hj] at h5; exact ⟨j+1,by omega,by omega,h5.symm⟩
  ·
   rcases Nat.lt_or_ge 1 j with hj | hj
   ·
    refine ⟨j-1,by omega,by omega,P'.inj _ _ (P.it hb _) h4 ?_⟩
    rw [fw (j-1) (by omega) (by omega),if_neg (by omega),show j-1+1=j from by omega,h5]
   ·
    refine ⟨q,by omega,Nat.le_refl _,P'.inj _ _ (P.it hb _) h4 ?_⟩
    rw [fw q hq (Nat.le_refl _),if_pos rfl,←h5,show j=1 from by omega]
theorem cls_join {N:Nat} {adj:Nat→Nat→Prop} (hs: ∀a b,adj a b→adj b a) {a b:Nat} (ha:a<N) (hb:b<N) (hn: ¬Cn adj a b):cls N adj=cls N (orAdj adj a b)+1:=by
 have main: ∀a b,a<N→b<N→¬Cn adj a b→∀ra rb,ra≤a→Cn adj ra a→Rep adj ra→rb≤b→Cn adj rb b→Rep adj rb→ra<rb→cls N adj=cls N (orAdj adj a b)+1:=by
  intro a b ha hb hn ra rb la ca qa lb cb qb hlt
  have hc: ∀g h,Cn (orAdj adj a b) g h↔Cn adj g h∨(Cn adj g a∧Cn adj b h)∨(Cn adj g b∧Cn adj a h):=by
   intro g h
   constructor
   ·
    intro hgh
    induction hgh with
    | refl=>exact .inl (.refl _)
    | step _ hst ih=>
     rcases hst with hst | ⟨rfl,rfl⟩ | ⟨rfl,rfl⟩
     ·
      rcases ih with ih | ⟨i1,i2⟩ | ⟨i1,i2⟩
      · exact .inl (.step ih hst)
      · exact .inr (.inl ⟨i1,.step i2 hst⟩)
      · exact .inr (.inr ⟨i1,.step i2 hst⟩)
     ·
      rcases ih with ih | ⟨i1,i2⟩ | ⟨i1,i2⟩
      · exact .inr (.inl ⟨ih,.refl _⟩)
      · exact absurd (i2.symm hs) hn
      · exact .inl i1
     ·
      rcases ih with ih | ⟨i1,i2⟩ | ⟨i1,i2⟩
      · exact .inr (.inr ⟨ih,.refl _⟩)
      · exact .inl i1
      · exact absurd i2 hn
   ·
    have up: ∀g h,Cn adj g h→Cn (orAdj adj a b) g h:=fun g h hgh=>Cn.map (f:=id) (fun x y hxy=>Cn.one (.inl hxy)) hgh
    rintro (h1 | ⟨h1,h2⟩ | ⟨h1,h2⟩)
    · exact up _ _ h1
    · exact ((up _ _ h1).step (.inr (.inl ⟨rfl,rfl⟩))).trans (up _ _ h2)
    · exact ((up _ _ h1).step (.inr (.inr ⟨rfl,rfl⟩))).trans (up _ _ h2)
  have hrb:rb∈reps N adj:=mem_reps.2 ⟨by omega,qb⟩
  have e1:(reps N (orAdj adj a b)).length=((reps N adj).erase rb).length:=by
   apply Nat.le_antisymm
   ·
    refine sub_len (reps_nodup _ _) fun x hx=>?_
    obtain ⟨x1,x2⟩:=mem_reps.1 hx
    refine (List.mem_erase_of_ne ?_).2 (mem_reps.2 ⟨x1,fun g hg hgx=>x2 g hg ((hc g x).2 (.inl hgx))⟩)
    rintro rfl
    exact x2 ra hlt ((hc ra x).2 (.inr (.inl ⟨ca,cb.symm hs⟩)))
   ·
    refine sub_len ((reps_nodup _ _).sublist List.erase_sublist) fun x hx=>?_
    have hne:x≠rb:=fun h=>by
     rw [h] at hx
     exact (List.Nodup.not_mem_erase (reps_nodup _ _)) hx
    obtain ⟨x1,x2⟩:=mem_reps.1 (List.mem_of_mem_erase hx)
    refine mem_reps.2 ⟨x1,fun g hg hgx=>?_⟩
    rcases (hc g x).1 hgx with h | ⟨h1,h2⟩ | ⟨h1,h2⟩
    · exact x2 g hg h
    ·
     -- x is in the class of b,so it is rb
     have:Cn adj rb x:=cb.trans h2
     rcases Nat.lt_trichotomy rb x with h | h | h
     · exact x2 rb h this
     · exact hne h.symm
     · exact qb x h (this.symm hs)
    ·
     have:Cn adj ra x:=ca.trans h2
     rcases Nat.lt_trichotomy ra x with h | h | h
     · exact x2 ra h this
     ·
      subst h
      have hgb:Cn adj g rb:=h1.trans (cb.symm hs)
      exact qb g (by omega) hgb
     · exact qa x h (this.symm hs)
  unfold cls
  rw [e1,List.length_erase_of_mem hrb]
  have:=List.length_pos_of_mem hrb
  omega
 obtain ⟨ra,la,ca,qa⟩:=rep_of hs a
 obtain ⟨rb,lb,cb,qb⟩:=rep_of hs b
 rcases Nat.lt_trichotomy ra rb with h | h | h
 · exact main a b ha hb hn ra rb la ca qa lb cb qb h
 · subst h; exact absurd ((ca.symm hs).trans cb) hn
 ·
  rw [main b a hb ha (fun h=>hn (h.symm hs)) rb ra lb cb qb la ca qa h]
  congr 2
  funext x y
  exact propext ⟨fun h=>by rcases h with h | h | h; exact .inl h; exact .inr (.inr h); exact .inr (.inl h),fun h=>by rcases h with h | h | h; exact .inl h; exact .inr (.inr h); exact .inr (.inl h)⟩
theorem cls_congr {N:Nat} {adj adj':Nat→Nat→Prop} (h: ∀x y,x<N→y<N→(Cn adj x y↔Cn adj' x y)):cls N adj=cls N adj':=by
 apply Nat.le_antisymm
 ·
  refine sub_len (reps_nodup _ _) fun x hx=>?_
  obtain ⟨x1,x2⟩:=mem_reps.1 hx
  exact mem_reps.2 ⟨x1,fun g hg hgx=>x2 g hg ((h g x (by omega) x1).2 hgx)⟩
 ·
  refine sub_len (reps_nodup _ _) fun x hx=>?_
  obtain ⟨x1,x2⟩:=mem_reps.1 hx
  exact mem_reps.2 ⟨x1,fun g hg hgx=>x2 g hg ((h g x (by omega) x1).1 hgx)⟩
theorem cls_sw {N:Nat} {f:Nat→Nat} (P:PI N f) {a b:Nat} (ha:a<N) (hb:b<N) (hab:a≠b):
  (¬Cn (adjI N f) a b→cls N (adjI N f)=cls N (adjI N (sw f a b))+1)∧(Cn (adjI N f) a b→cls N (adjI N (sw f a b))=cls N (adjI N f)+1):=by
 have one: ∀f,PI N f→¬Cn (adjI N f) a b→cls N (adjI N f)=cls N (adjI N (sw f a b))+1:=by
  intro f P hn
  rw [cls_join adjI_symm ha hb hn,cls_congr fun x y _ _=>(cn_sw P ha hb hn x y).symm]
 refine ⟨one f P,fun h=>?_⟩
 have h2:=one (sw f a b) (P.sw ha hb) (cn_cut P ha hb hab h)
 rw [h2]
 congr 1
 refine cls_congr fun x y _ _=>?_
 have:sw (sw f a b) a b=f:=funext fun x=>sw_sw hab
 rw [this]
open Classical in
noncomputable def cnt (N:Nat) (p:Nat→Prop):Nat:=((List.range N).filter (fun h=>decide (p h))).length
theorem cnt_succ_yes {N:Nat} {p:Nat→Prop} (h:p N):cnt (N+1) p=cnt N p+1:=by
 unfold cnt
 rw [List.range_succ,List.filter_append,List.length_append]
 simp [h]
theorem cnt_succ_no {N:Nat} {p:Nat→Prop} (h: ¬p N):cnt (N+1) p=cnt N p:=by
 unfold cnt
 rw [List.range_succ,List.filter_append,List.length_append]
 simp [h]
theorem cnt_le (N:Nat) (p:Nat→Prop):cnt N p≤N:=by
 induction N with
 | zero=>simp [cnt]
 | succ N ih=>
  by_cases h:p N
  · rw [cnt_succ_yes h]; omega
  · rw [cnt_succ_no h]; omega
theorem cnt_congr {N:Nat} {p q:Nat→Prop} (h: ∀k,k<N→(p k↔q k)):cnt N p=cnt N q:=by
 induction N with
 | zero=>rfl
 | succ N ih=>
  have hi:=ih fun k hk=>h k (by omega)
  have hN:=h N (by omega)
  by_cases hp:p N
  · rw [cnt_succ_yes hp,cnt_succ_yes (hN.1 hp),hi]
  · rw [cnt_succ_no hp,cnt_succ_no (fun hq=>hp (hN.2 hq)),hi]
theorem cnt_split (N:Nat) (p q:Nat→Prop):cnt N p=cnt N (fun h=>q h∧p h)+cnt N (fun h=> ¬q h∧p h):=by
 induction N with
 | zero=>rfl
 | succ N ih=>
  by_cases hp:p N<;>by_cases hq:q N
  · rw [cnt_succ_yes hp,cnt_succ_yes (p:=fun h=>q h∧p h) ⟨hq,hp⟩,cnt_succ_no (p:=fun h=> ¬q h∧p h) (fun h=>h.1 hq),ih]; omega
  · rw [cnt_succ_yes hp,cnt_succ_no (p:=fun h=>q h∧p h) (fun h=>hq h.1),cnt_succ_yes (p:=fun h=> ¬q h∧p h) ⟨hq,hp⟩,ih]; omega
  · rw [cnt_succ_no hp,cnt_succ_no (p:=fun h=>q h∧p h) (fun h=>hp h.2),cnt_succ_no (p:=fun h=> ¬q h∧p h) (fun h=>hp h.2),ih]
  · rw [cnt_succ_no hp,cnt_succ_no (p:=fun h=>q h∧p h) (fun h=>hp h.2),cnt_succ_no (p:=fun h=> ¬q h∧p h) (fun h=>hp h.2),ih]
theorem cnt_all {N:Nat} {p:Nat→Prop} (h: ∀k,k<N→p k):cnt N p=N:=by
 induction N with
 | zero=>rfl
 | succ N ih=>rw [cnt_succ_yes (h N (by omega)),ih fun k hk=>h k (by omega)]
theorem cnt_none {N:Nat} {p:Nat→Prop} (h: ∀k,k<N→¬p k):cnt N p=0:=by
 induction N with
 | zero=>rfl
 | succ N ih=>rw [cnt_succ_no (h N (by omega)),ih fun k hk=>h k (by omega)]
theorem cnt_one {N:Nat} {p:Nat→Prop} {a:Nat} (ha:a<N) (hp: ¬p a):cnt N (fun h=>h=a∨p h)=cnt N p+1:=by
 induction N with
 | zero=>omega
 | succ N ih=>
  by_cases e:N=a
  ·
   subst e
   rw [cnt_succ_yes (p:=fun h=>h=N∨p h) (.inl rfl),cnt_succ_no hp]
   congr 1
   refine cnt_congr fun k hk=>⟨fun h=>?_,fun h=>.inr h⟩
   rcases h with h | h
   · omega
   · exact h
  ·
   have hi:=ih (by omega)
   by_cases hN:p N
   · rw [cnt_succ_yes (p:=fun h=>h=a∨p h) (.inr hN),cnt_succ_yes hN,hi]
   · rw [cnt_succ_no (p:=fun h=>h=a∨p h) (fun h=>by rcases h with h | h; exact e h; exact hN h),cnt_succ_no hN,hi]
theorem cnt_four (n:Nat) (q:Nat→Prop):cnt (4*n) (fun h=>q (h/ 4)∧h%4=0)=cnt n q:=by
 induction n with
 | zero=>rfl
 | succ n ih=>
  rw [show 4*(n+1)=4*n+1+1+1+1 from by omega]
  rw [cnt_succ_no (p:=fun h=>q (h/ 4)∧h%4=0) (fun h=>by have:=h.2; omega),cnt_succ_no (p:=fun h=>q (h/ 4)∧h%4=0) (fun h=>by have:=h.2; omega),cnt_succ_no (p:=fun h=>q (h/ 4)∧h%4=0) (fun h=>by have:=h.2; omega)]
  by_cases hq:q n
  · rw [cnt_succ_yes (p:=fun h=>q (h/ 4)∧h%4=0) ⟨by rw [show 4*n/ 4=n from by omega]; exact hq,by omega⟩,cnt_succ_yes hq,ih]
  · rw [cnt_succ_no (p:=fun h=>q (h/ 4)∧h%4=0) (fun h=>hq (by have:=h.1; rwa [show 4*n/ 4=n from by omega] at this)),cnt_succ_no hq,ih]
structure IV (n:Nat) (μ:Nat→Nat):Prop where
 lt: ∀h,h<4*n→μ h<4*n
 inv: ∀h,h<4*n→μ (μ h)=h
theorem MT.iv {n:Nat} {M:List Int} {μ:Nat→Nat} (h:MT (4*n) M μ):IV n μ:=⟨fun k hk=>(h.2 k hk).2.1,fun k hk=>(h.2 k hk).2.2.1⟩
theorem IV.pi {n:Nat} {μ:Nat→Nat} (h:IV n μ):PI (4*n) (fc μ):=
 ⟨fun a ha=>turnN_lt (h.lt a ha),fun a b ha hb e=>by rw [←h.inv a ha,turnN_inj e,h.inv b hb]⟩
theorem IV.symm {n:Nat} {μ:Nat→Nat} (h:IV n μ) (a b:Nat) (k:adjP n μ a b):adjP n μ b a:=by
 obtain ⟨h1,h2,s,hs,h3⟩:=k
 have h4:=h.lt (4*a+s) (by omega)
 have h5:=h.inv (4*a+s) (by omega)
 refine ⟨h2,h1,μ (4*a+s)%4,by omega,?_⟩
 rw [←h3,show 4*(μ (4*a+s)/ 4)+μ (4*a+s)%4=μ (4*a+s) from by omega,h5]
 omega
noncomputable def mvd (n:Nat) (μ:Nat→Nat):Nat:=cnt (4*n) (fun h=>μ h≠h)
noncomputable def dd (n:Nat) (μ:Nat→Nat):Int:=4*(cls n (adjP n μ):Int)-2*(n:Int)+(mvd n μ:Int)-2*(cls (4*n) (adjF n μ):Int)
theorem face_part {n:Nat} {μ:Nat→Nat} (h:IV n μ) {a b:Nat} (hc:Cn (adjF n μ) a b):Cn (adjP n μ) (a/ 4) (b/ 4):=by
 refine Cn.map (f:=fun h=>h/ 4) (fun x y hxy=>?_) hc
 have fw: ∀x,x<4*n→adjP n μ (x/ 4) (fc μ x/ 4):=by
  intro x hx
  have:=h.lt x hx
  refine ⟨by omega,?_,x%4,by omega,?_⟩
  · unfold fc turnN; omega
  ·
   rw [show 4*(x/ 4)+x%4=x from by omega]
   unfold fc turnN; omega
 obtain ⟨h1,h2,h3 | h3⟩:=hxy
 ·
  show Cn _ (x/ 4) (y/ 4)
  rw [h3]; exact Cn.one (fw x h1)
 ·
  show Cn _ (x/ 4) (y/ 4)
  rw [h3]; exact Cn.one (h.symm _ _ (fw y h2))
def addP (μ:Nat→Nat) (a b h:Nat):Nat:=if h=a then b else if h=b then a else μ h
theorem IV.add {n:Nat} {μ:Nat→Nat} (h:IV n μ) {a b:Nat} (ha:a<4*n) (hb:b<4*n) (hab:a≠b) (fa:μ a=a) (fb:μ b=b):IV n (addP μ a b):=by
 refine ⟨fun x hx=>?_,fun x hx=>?_⟩
 ·
  unfold addP
  split
  · exact hb
  split
  · exact ha
  · exact h.lt x hx
 ·
  unfold addP
  by_cases x1:x=a
  ·
   subst x1
   rw [if_pos rfl,if_neg (fun e=>hab e.symm),if_pos rfl]
  by_cases x2:x=b
  ·
   subst x2
   rw [if_neg x1,if_pos rfl,if_pos rfl]
  ·
   rw [if_neg x1,if_neg x2]
   have m1:μ x≠a:=fun e=>x1 (by rw [←h.inv x hx,e,fa])
   have m2:μ x≠b:=fun e=>x2 (by rw [←h.inv x hx,e,fb])
   rw [if_neg m1,if_neg m2,h.inv x hx]
theorem dd_add {n:Nat} {μ:Nat→Nat} (h:IV n μ) {a b:Nat} (ha:a<4*n) (hb:b<4*n) (hab:a≠b) (fa:μ a=a) (fb:μ b=b):dd n (addP μ a b)=dd n μ∨dd n (addP μ a b)=dd n μ+4:=by
 have hm:mvd n (addP μ a b)=mvd n μ+2:=by
  unfold mvd
  have c1:=cnt_one (N:=4*n) (p:=fun x=>μ x≠x) ha (fun q=>q fa)
  have c2:=cnt_one (N:=4*n) (p:=fun h=>h=a∨μ h≠h) hb (by rintro (e | e); exact hab e.symm; exact e fb)
  have c3:cnt (4*n) (fun x=>addP μ a b x≠x)=cnt (4*n) (fun h=>h=b∨h=a∨μ h≠h):=by
   refine cnt_congr fun k hk=>?_
   unfold addP
   by_cases k1:k=a
   · subst k1; rw [if_pos rfl]; exact ⟨fun _=>.inr (.inl rfl),fun _ e=>hab e.symm⟩
   by_cases k2:k=b
   · subst k2; rw [if_neg k1,if_pos rfl]; exact ⟨fun _=>.inl rfl,fun _ e=>hab e⟩
   ·
    rw [if_neg k1,if_neg k2]
    exact ⟨fun e=>.inr (.inr e),fun e=>by rcases e with e | e | e; exact absurd e k2; exact absurd e k1; exact e⟩
  omega
 have hf:fc (addP μ a b)=sw (fc μ) a b:=by
  funext x
  unfold fc addP sw
  by_cases x1:x=a
  ·
   rw [if_pos x1,if_pos x1]
   show turnN b 3=turnN (μ b) 3
   rw [fb]
  by_cases x2:x=b
  ·
   rw [if_neg x1,if_pos x2,if_neg x1,if_pos x2]
   show turnN a 3=turnN (μ a) 3
   rw [fa]
  · rw [if_neg x1,if_neg x2,if_neg x1,if_neg x2]
 have hF:cls (4*n) (adjF n (addP μ a b))=cls (4*n) (adjI (4*n) (sw (fc μ) a b)):=by
  rw [←hf]; rfl
 have hF0:cls (4*n) (adjF n μ)=cls (4*n) (adjI (4*n) (fc μ)):=rfl
 obtain ⟨f1,f2⟩:=cls_sw h.pi ha hb hab
 have hP: ∀x y,Cn (adjP n (addP μ a b)) x y↔Cn (orAdj (adjP n μ) (a/ 4) (b/ 4)) x y:=by
  intro x y
  constructor
  ·
   refine fun hc=>Cn.map (f:=id) (fun x y hxy=>?_) hc
   show Cn _ x y
   obtain ⟨h1,h2,s,hs,h3⟩:=hxy
   unfold addP at h3
   by_cases s1:4*x+s=a
   ·
    rw [if_pos s1] at h3
    exact Cn.one (.inr (.inl ⟨by omega,h3.symm⟩))
   by_cases s2:4*x+s=b
   ·
    rw [if_neg s1,if_pos s2] at h3
    exact Cn.one (.inr (.inr ⟨by omega,h3.symm⟩))
   ·
    rw [if_neg s1,if_neg s2] at h3
    exact Cn.one (.inl ⟨h1,h2,s,hs,h3⟩)
  ·
   have hp:adjP n (addP μ a b) (a/ 4) (b/ 4):=⟨by omega,by omega,a%4,by omega,by
    rw [show 4*(a/ 4)+a%4=a from by omega]
    unfold addP
    rw [if_pos rfl]⟩
   refine fun hc=>Cn.map (f:=id) (fun x y hxy=>?_) hc
   show Cn _ x y
   rcases hxy with ⟨h1,h2,s,hs,h3⟩ | ⟨rfl,rfl⟩ | ⟨rfl,rfl⟩
   ·
    by_cases s1:4*x+s=a
    ·
     rw [s1,fa] at h3
     have:x=y:=by omega
     rw [this]; exact .refl _
    by_cases s2:4*x+s=b
    ·
     rw [s2,fb] at h3
     have:x=y:=by omega
     rw [this]; exact .refl _
    ·
     refine Cn.one ⟨h1,h2,s,hs,?_⟩
     unfold addP
     rw [if_neg s1,if_neg s2]; exact h3
   · exact Cn.one hp
   · exact Cn.one ((h.add ha hb hab fa fb).symm _ _ hp)
 have hK:cls n (adjP n (addP μ a b))=cls n (orAdj (adjP n μ) (a/ 4) (b/ 4)):=cls_congr fun x y _ _=>hP x y
 unfold dd
 by_cases hc:Cn (adjP n μ) (a/ 4) (b/ 4)
 ·
  have hK2:cls n (orAdj (adjP n μ) (a/ 4) (b/ 4))=cls n (adjP n μ):=cls_congr fun x y _ _=>⟨fun q=>Cn.map (f:=id) (fun x y hxy=>by
   show Cn _ x y
   rcases hxy with hxy | ⟨rfl,rfl⟩ | ⟨rfl,rfl⟩
   · exact Cn.one hxy
   · exact hc
   · exact hc.symm h.symm) q,fun q=>Cn.map (f:=id) (fun x y hxy=>Cn.one (.inl hxy)) q⟩
  by_cases hfc:Cn (adjI (4*n) (fc μ)) a b
  ·
   have:=f2 hfc
   left; omega
  ·
   have:=f1 hfc
   right; omega
 ·
  have hj:=cls_join h.symm (show a/ 4<n by omega) (show b/ 4<n by omega) hc
  have:=f1 (fun hfc=>hc (face_part h hfc))
  left; omega
noncomputable def muR (μ:Nat→Nat) (S:Nat→Prop) (h:Nat):Nat:=by
 classical exact if S (h/ 4) then μ h else h
theorem muR_in {μ:Nat→Nat} {S:Nat→Prop} {h:Nat} (hs:S (h/ 4)):muR μ S h=μ h:=by unfold muR; rw [if_pos hs]
theorem muR_out {μ:Nat→Nat} {S:Nat→Prop} {h:Nat} (hs: ¬S (h/ 4)):muR μ S h=h:=by unfold muR; rw [if_neg hs]
section
variable {n : Nat} {μ : Nat → Nat} (h : IV n μ) {S : Nat → Prop} (hS : ∀ c d, S c → adjP n μ c d → S d)
include h hS
theorem mem_S {x:Nat} (hx:x<4*n):S (x/ 4)↔S (μ x/ 4):=by
 have hl:=h.lt x hx
 have a1:adjP n μ (x/ 4) (μ x/ 4):=⟨by omega,by omega,x%4,by omega,by rw [show 4*(x/ 4)+x%4=x from by omega]⟩
 exact ⟨fun q=>hS _ _ q a1,fun q=>hS _ _ q (h.symm _ _ a1)⟩
theorem IV.restr:IV n (muR μ S):=by
 refine ⟨fun x hx=>?_,fun x hx=>?_⟩
 ·
  by_cases hs:S (x/ 4)
  · rw [muR_in hs]; exact h.lt x hx
  · rw [muR_out hs]; exact hx
 ·
  by_cases hs:S (x/ 4)
  · rw [muR_in hs,muR_in ((mem_S h hS hx).1 hs),h.inv x hx]
  · rw [muR_out hs,muR_out hs]
theorem restr_faces:cls (4*n) (adjF n (muR μ S))=cnt (4*n) (fun k=>S (k/ 4)∧Rep (adjF n μ) k)+cnt n (fun c=> ¬S c):=by
 have hI:=IV.restr h hS
 have hin: ∀x y,x<4*n→S (x/ 4)→(Cn (adjF n (muR μ S)) x y↔Cn (adjF n μ) x y):=by
  intro x y hx hs
  constructor
  ·
   intro hc
   have:=Cn.closed (S:=fun y=>S (y/ 4)∧Cn (adjF n μ) x y) (fun a b ha hab=>?_) hc ⟨hs,.refl _⟩
   · exact this.2
   ·
    obtain ⟨ha1,ha2⟩:=ha
    obtain ⟨h1,h2,h3⟩:=hab
    rcases h3 with h3 | h3
    ·
     have e:b=fc μ a:=by rw [h3]; unfold fc; rw [muR_in ha1]
     refine ⟨?_,ha2.step ⟨h1,h2,.inl e⟩⟩
     rw [e]
     unfold fc
     have:=(mem_S h hS h1).1 ha1
     rwa [show turnN (μ a) 3/ 4=μ a/ 4 from by unfold turnN; omega]
    ·
     have hb:S (b/ 4):=by
      apply Classical.byContradiction
      intro hb
      unfold fc at h3
      rw [muR_out hb] at h3
      exact hb (by rw [show b/ 4=a/ 4 from by rw [h3]; unfold turnN; omega]; exact ha1)
     have e:a=fc μ b:=by rw [h3]; unfold fc; rw [muR_in hb]
     exact ⟨hb,ha2.step ⟨h1,h2,.inr e⟩⟩
  ·
   intro hc
   have:=Cn.closed (S:=fun y=>S (y/ 4)∧Cn (adjF n (muR μ S)) x y) (fun a b ha hab=>?_) hc ⟨hs,.refl _⟩
   · exact this.2
   ·
    obtain ⟨ha1,ha2⟩:=ha
    obtain ⟨h1,h2,h3⟩:=hab
    rcases h3 with h3 | h3
    ·
     have e:b=fc (muR μ S) a:=by rw [h3]; unfold fc; rw [muR_in ha1]
     refine ⟨?_,ha2.step ⟨h1,h2,.inl e⟩⟩
     rw [h3]
     unfold fc
     have:=(mem_S h hS h1).1 ha1
     rwa [show turnN (μ a) 3/ 4=μ a/ 4 from by unfold turnN; omega]
    ·
     have hb:S (b/ 4):=by
      rw [mem_S h hS h2,show μ b/ 4=a/ 4 from by rw [h3]; unfold fc turnN; omega]
      exact ha1
     have e:a=fc (muR μ S) b:=by rw [h3]; unfold fc; rw [muR_in hb]
     exact ⟨hb,ha2.step ⟨h1,h2,.inr e⟩⟩
 have hout: ∀x y,x<4*n→y<4*n→¬S (y/ 4)→(Cn (adjF n (muR μ S)) x y↔x/ 4=y/ 4):=by
  intro x y hx hy hs
  constructor
  ·
   intro hc
   have:=Cn.closed (S:=fun x=> ¬S (x/ 4)∧x/ 4=y/ 4) (fun a b ha hab=>?_) (hc.symm adjF_symm) ⟨hs,rfl⟩
   · exact this.2
   ·
    obtain ⟨ha1,ha2⟩:=ha
    obtain ⟨h1,h2,h3⟩:=hab
    have:b/ 4=a/ 4:=by
     rcases h3 with h3 | h3
     · rw [h3]; unfold fc; rw [muR_out ha1]; unfold turnN; omega
     ·
      have hb: ¬S (b/ 4):=fun hb=>by
       have h4:=(mem_S h hS h2).1 hb
       unfold fc at h3
       rw [muR_in hb] at h3
       exact ha1 (by rw [show a/ 4=μ b/ 4 from by rw [h3]; unfold turnN; omega]; exact h4)
      rw [h3]; unfold fc; rw [muR_out hb]; unfold turnN; omega
    exact ⟨by rw [this]; exact ha1,by rw [this]; exact ha2⟩
  ·
   intro e
   have hsx: ¬S (x/ 4):=by rw [e]; exact hs
   have stp: ∀x,x<4*n→¬S (x/ 4)→Cn (adjF n (muR μ S)) x (turnN x 3):=by
    intro x hx hsx
    refine Cn.one ⟨hx,turnN_lt hx,.inl ?_⟩
    unfold fc; rw [muR_out hsx]
   have e4: ∀x,turnN x 3/ 4=x/ 4:=fun x=>by unfold turnN; omega
   have s1:=stp x hx hsx
   have s2:=s1.trans (stp _ (turnN_lt hx) (by rw [e4]; exact hsx))
   have s3:=s2.trans (stp _ (turnN_lt (turnN_lt hx)) (by rw [e4,e4]; exact hsx))
   have:y=x∨y=turnN x 3∨y=turnN (turnN x 3) 3∨y=turnN (turnN (turnN x 3) 3) 3:=by unfold turnN; omega
   rcases this with q | q | q | q
   · rw [q]; exact .refl _
   · rw [q]; exact s1
   · rw [q]; exact s2
   · rw [q]; exact s3
 show cnt (4*n) (Rep (adjF n (muR μ S)))=_
 rw [cnt_split (4*n) _ (fun k=>S (k/ 4))]
 congr 1
 ·
  refine cnt_congr fun k hk=>⟨fun ⟨q1,q2⟩=>⟨q1,fun g hg hgk=>q2 g hg ?_⟩,fun ⟨q1,q2⟩=>⟨q1,fun g hg hgk=>q2 g hg ?_⟩⟩
  · exact ((hin k g hk q1).2 (hgk.symm adjF_symm)).symm adjF_symm
  · exact ((hin k g hk q1).1 (hgk.symm adjF_symm)).symm adjF_symm
 ·
  rw [←cnt_four n (fun c=> ¬S c)]
  refine cnt_congr fun k hk=>⟨fun ⟨q1,q2⟩=>⟨q1,?_⟩,fun ⟨q1,q2⟩=>⟨q1,fun g hg hgk=>?_⟩⟩
  ·
   apply Classical.byContradiction
   intro hne
   exact q2 (k-1) (by omega) ((hout (k-1) k (by omega) hk q1).2 (by omega))
  ·
   have:=(hout g k (by omega) hk q1).1 hgk
   omega
end
theorem dd_id (n:Nat):dd n (fun h=>h)=0:=by
 have h:IV n (fun h=>h):=⟨fun x hx=>hx,fun x hx=>rfl⟩
 have e:muR (fun h=>h) (fun _=>False)=fun h=>h:=by funext x; exact muR_out (fun q=>q)
 have hf:=restr_faces h (S:=fun _=>False) (fun _ _ q _=>q)
 rw [e,cnt_none (p:=fun k=>False∧Rep (adjF n fun h=>h) k) (fun _ _ q=>q.1),cnt_all (p:=fun c=> ¬False) (fun _ _ q=>q)] at hf
 have hp:cls n (adjP n fun h=>h)=n:=cnt_all fun k hk=>fun g hg hgk=>by
  have:=Cn.closed (S:=fun x=>x=g) (fun a b ha hab=>by
   obtain ⟨h1,h2,s,hs',h3⟩:=hab
   have h3:(4*a+s)/ 4=b:=h3
   omega) hgk rfl
  omega
 have hm:mvd n (fun h=>h)=0:=cnt_none fun _ _ q=>q rfl
 unfold dd
 rw [hf,hp,hm]
 omega
theorem dd_full {n:Nat} {M:List Int} {μ:Nat→Nat} (hM:MT (4*n) M μ):dd n μ=2*gen2 n μ:=by
 have hm:mvd n μ=4*n:=cnt_all fun k hk=>(hM.2 k hk).2.2.2
 unfold dd gen2
 omega
def iL (N:Nat) (f:Nat→Int):List Int:=(List.range N).map f
theorem iL_len (N:Nat) (f:Nat→Int):(iL N f).length=N:=by simp [iL]
theorem iL_get {N:Nat} {f:Nat→Int} {k:Nat} (h:k<N):(iL N f)[k]? =some (f k):=by
 unfold iL
 rw [List.getElem?_map,List.getElem?_range h]; rfl
theorem iL_set {N:Nat} {f:Nat→Int} {k:Nat} {v:Int}:(iL N f).set k v=iL N (fun j=>if j=k then v else f j):=by
 apply List.ext_getElem?
 intro j
 rw [List.getElem?_set]
 by_cases hj:j<N
 ·
  rw [iL_get hj,iL_get hj,iL_len]
  by_cases hk:k=j
  · subst hk; simp [hj]
  · rw [if_neg hk,if_neg (fun h=>hk h.symm)]
 ·
  rw [List.getElem?_eq_none (by rw [iL_len]; omega),List.getElem?_eq_none (by rw [iL_len]; omega),iL_len]
  split
  · rw [if_neg (by omega)]
  · rfl
theorem iL_congr {N:Nat} {f g:Nat→Int} (h: ∀k,k<N→f k=g k):iL N f=iL N g:=List.map_congr_left fun k hk=>h k (List.mem_range.1 hk)
theorem iL_rep (N:Nat) (v:Int):List.replicate N v=iL N (fun _=>v):=by
 apply List.ext_getElem?
 intro j
 rw [List.getElem?_replicate]
 by_cases hj:j<N
 · rw [iL_get hj,if_pos hj]
 · rw [List.getElem?_eq_none (by rw [iL_len]; omega),if_neg hj]
def Outg (sg:List Int) (h:Nat):Prop:=h%4=2∨(h%4=1∧sg.getD (h/ 4) 0=1)∨(h%4=3∧sg.getD (h/ 4) 0=-1)
instance (sg:List Int) (h:Nat):Decidable (Outg sg h):=by unfold Outg; infer_instance
structure DV (sg M:List Int) (lo:Int) (μ:Nat→Nat):Prop where
 n:sg.length≤64
 lo0:0≤lo
 lo1:lo≤64
 sgn: ∀s∈sg,s=1∨s=-1
 mt:MT (4*sg.length) M μ
 out: ∀h,h<4*sg.length→(Outg sg (μ h)↔¬Outg sg h)
 g0:gen2 sg.length μ=0
end Pg
end Go.Proofs.Yteajmbanlohncaa
