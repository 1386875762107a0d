import Derived.Test.YteajmbanlohncaaPQlaw1
set_option linter.unusedVariables false
namespace Go.Proofs.Yteajmbanlohncaa
open Ev
theorem count_loop {S R:Type} {body:S→Option (S⊕R)} (st:Nat→S) (m:Nat) {r:R} (h: ∀k,k<m→body (st k)=some (.inl (st (k+1)))) (he:body (st m)=some (.inr r)): ∀n,m<n→loopN n body (st 0)=some r:=by
 have key: ∀(j k n:Nat),k+j=m→j<n→loopN n body (st k)=some r:=by
  intro j
  induction j with
  | zero=>
       intro k n hk hn; obtain ⟨n,rfl⟩: ∃n',n=n'+1:=⟨n-1,by omega⟩
       obtain rfl:k=m:=by omega
       simp only [loopN,he,bB]
  | succ j ih=>
         intro k n hk hn; obtain ⟨n,rfl⟩: ∃n',n=n'+1:=⟨n-1,by omega⟩
         simp only [loopN,h k (by omega),bB]
         exact ih (k+1) n (by omega) (by omega)
 intro n hn
 exact key m 0 n (by omega) hn
end Go.Proofs.Yteajmbanlohncaa

set_option linter.unusedVariables false
set_option linter.unusedSimpArgs false
namespace Go.Proofs.Yteajmbanlohncaa
open Ev
namespace Pg
@[reducible] def stepR {S E Q:Type} (o:Option Q) (s:S):S⊕(E⊕Q):=match o with | none=>.inl s | some q=>.inr (.inr q)
theorem scan_loop {S E Q:Type} {body:S→Option (S⊕(E⊕Q))} (st:Nat→S) (m:Nat) (bad:Nat→Option Q) {e:E}
  (h: ∀k,k<m→body (st k)=some (stepR (bad k) (st (k+1))))
  (he:body (st m)=some (.inr (.inl e))) (n:Nat) (hn:m<n):
  loopN n body (st 0)=some (match (List.range m).findSome? bad with | none=>.inl e | some q=>.inr q):=by
 have key: ∀(j k n:Nat),k+j=m→j<n→loopN n body (st k)=some (match (List.range' k j).findSome? bad with | none=>.inl e | some q=>.inr q):=by
  intro j
  induction j with
  | zero=>
   intro k n hk hn
   obtain ⟨n,rfl⟩: ∃n',n=n'+1:=⟨n-1,by omega⟩
   obtain rfl:k=m:=by omega
   simp only [loopN,he,bB]
   rfl
  | succ j ih=>
   intro k n hk hn
   obtain ⟨n,rfl⟩: ∃n',n=n'+1:=⟨n-1,by omega⟩
   rw [List.range'_succ,List.findSome?_cons]
   have hb:=h k (by omega)
   simp only [loopN,hb,bB]
   cases hq:bad k with
   | none=>
    rw [show (stepR (none:Option Q) (st (k+1)):S⊕(E⊕Q))=.inl (st (k+1)) from rfl]
    exact ih (k+1) n (by omega) (by omega)
   | some q=>rfl
 rw [List.range_eq_range']
 exact key m 0 n (by omega) hn
theorem findSome_none {Q:Type} {m:Nat} {bad:Nat→Option Q} (h: ∀k,k<m→bad k=none):(List.range m).findSome? bad=none:=by
 rw [List.findSome?_eq_none_iff]
 intro k hk
 exact h k (List.mem_range.1 hk)
theorem findSome_one {Q:Type} {m:Nat} {bad:Nat→Option Q} {q:Q} (h: ∀k q',bad k=some q'→q'=q) {k:Nat} (hk:k<m) (hb:bad k≠none):(List.range m).findSome? bad=some q:=by
 cases hf:(List.range m).findSome? bad with
 | none=>
  rw [List.findSome?_eq_none_iff] at hf
  exact absurd (hf k (List.mem_range.2 hk)) hb
 | some q'=>
  obtain ⟨k',_,h2⟩:=List.exists_of_findSome?_eq_some hf
  rw [h k' q' h2]
def sumlen (l:List (List Pt)):Nat:=(l.map List.length).sum
theorem sumlen_take_succ {l:List (List Pt)} {k:Nat} {p:List Pt} (h:l[k]? =some p):sumlen (l.take (k+1))=sumlen (l.take k)+p.length:=by
 unfold sumlen
 rw [List.take_add_one,h]
 simp
theorem sumlen_take_le (l:List (List Pt)) (k:Nat):sumlen (l.take k)≤sumlen l:=by
 unfold sumlen
 rw [List.map_take]
 have:(l.map List.length).sum=((l.map List.length).take k).sum+((l.map List.length).drop k).sum:=by rw [←List.sum_append,List.take_append_drop]
 omega
theorem sumlen_mem {l:List (List Pt)} {p:List Pt} (h:p∈l):p.length≤sumlen l:=by
 unfold sumlen
 induction l with
 | nil=>cases h
 | cons q r ih=>
  rw [List.map_cons,List.sum_cons]
  rcases List.mem_cons.1 h with rfl | h
  · omega
  · have:=ih h; omega
def Vd (l:List (List Pt)):Prop:=(∀p∈l,3≤p.length∧∀x∈p,Fit x)∧sumlen l≤100
instance (l:List (List Pt)):Decidable (Vd l):=by unfold Vd; infer_instance
theorem row_loop (p:List Pt) (n:Nat) (hn:3<n) (hl:p.length<n) (hp:p.length≤1099511627776):loopN n (F.polygon_valid_b1 n p) 0=some (if∀x∈p,Fit x then .inl (p.length:Int) else .inr false):=by
 have hs:=scan_loop (body:=F.polygon_valid_b1 n p) (fun k=>(k:Int)) p.length (fun k=>if Fit (p.getD k (0,(0,0))) then none else some false) (e:=(p.length:Int)) (fun k hk=>by
  unfold F.polygon_valid_b1
  dsimp only
  rw [dT (by omega),kT,get_nat,gE hk,bB,within_eq p[k] n hn,bB]
  have e:p.getD k (0,(0,0))=p[k]:=by simp [List.getD,gE hk]
  rw [e]
  by_cases hf:Fit p[k]
  · rw [dT hf,Bool.not_true,kF,chk_ok (by omega) (by omega),bB,if_pos hf]; rfl
  · rw [dF hf,if_neg hf]; rfl) (by
  unfold F.polygon_valid_b1
  dsimp only
  rw [dF (by omega),kF]) n hl
 refine hs.trans ?_
 by_cases hf: ∀x∈p,Fit x
 ·
  rw [if_pos hf,findSome_none]
  intro k hk
  rw [if_pos (by
   simp only [List.getD,gE hk,Option.getD_some]
   exact hf _ (List.getElem_mem hk))]
 ·
  rw [if_neg hf]
  have: ∃k,∃h:k<p.length,¬Fit p[k]:=by
   apply Classical.byContradiction
   intro hc
   apply hf
   intro x hx
   obtain ⟨k,hk,rfl⟩:=List.mem_iff_getElem.1 hx
   exact Classical.byContradiction fun hx=>hc ⟨k,hk,hx⟩
  obtain ⟨k,hk,hx⟩:=this
  rw [findSome_one (q:=false) (k:=k) (fun k q' h=>by
   by_cases hc:Fit (p.getD k (0,(0,0)))
   · rw [if_pos hc] at h; cases h
   · rw [if_neg hc] at h; injection h with h; exact h.symm) hk (by
   simp only [List.getD,gE hk,Option.getD_some,if_neg hx]; simp)]
theorem valid_eq (l:List (List Pt)) (n:Nat) (hb:sumlen l≤1000000000) (hl:l.length<n) (hl2:l.length≤1000000000) (hn:sumlen l<n) (hn3:3<n):F.polygon_valid n l=some (decide (Vd l)):=by
 have hs:=scan_loop (body:=F.polygon_valid_b0 n l) (fun k=>((sumlen (l.take k):Int),(k:Int))) l.length
  (fun k=>if 3≤(l.getD k []).length∧sumlen (l.take (k+1))≤100∧∀x∈l.getD k [],Fit x then none else some false) (e:=((sumlen l:Int),(l.length:Int))) (fun k hk=>by
  unfold F.polygon_valid_b0
  dsimp only
  have hg:l[k]? =some l[k]:=gE hk
  have e:l.getD k []=l[k]:=by simp [List.getD,hg]
  have hsu:=sumlen_take_succ hg
  have hle:=sumlen_take_le l (k+1)
  have hme:=sumlen_mem (List.getElem_mem hk:l[k]∈l)
  rw [dT (by omega),kT,get_nat,hg,bB,chk_ok (by omega) (by omega),bB,e]
  by_cases h3:3≤l[k].length
  case neg=>rw [dT (by omega),if_neg (fun h=>h3 h.1)]; rfl
  rw [dF (by omega),kF]
  by_cases h4:sumlen (l.take (k+1))≤100
  case neg=>rw [dT (by omega),if_neg (fun h=>h4 h.2.1)]; rfl
  rw [dF (by omega),kF,row_loop l[k] n hn3 (by omega) (by omega),bB]
  by_cases h5: ∀x∈l[k],Fit x
  ·
   rw [if_pos h5,if_pos ⟨h3,h4,h5⟩]
   dsimp only
   rw [chk_ok (by omega) (by omega),bB,hsu,Int.natCast_add]; rfl
  · rw [if_neg h5,if_neg (fun h=>h5 h.2.2)]) (by
  unfold F.polygon_valid_b0
  dsimp only
  rw [dF (by omega),kF,List.take_length]) n hl
 unfold F.polygon_valid
 rw [show ((0:Int),(0:Int))=(fun k:Nat=>((sumlen (l.take k):Int),(k:Int))) 0 from by simp [sumlen],hs,bB]
 by_cases hv:Vd l
 ·
  rw [dT hv,findSome_none]
  intro k hk
  have hg:l[k]? =some l[k]:=gE hk
  have e:l.getD k []=l[k]:=by simp [List.getD,hg]
  have:=hv.1 l[k] (List.getElem_mem hk)
  have hle:=sumlen_take_le l (k+1)
  have h2:=hv.2
  rw [e,if_pos ⟨this.1,by omega,this.2⟩]
 ·
  rw [dF hv]
  have: ∃k,k<l.length∧¬(3≤(l.getD k []).length∧sumlen (l.take (k+1))≤100∧∀x∈l.getD k [],Fit x):=by
   apply Classical.byContradiction
   intro hc
   apply hv
   have hall: ∀k,k<l.length→(3≤(l.getD k []).length∧sumlen (l.take (k+1))≤100∧∀x∈l.getD k [],Fit x):=fun k hk=>Classical.byContradiction fun hx=>hc ⟨k,hk,hx⟩
   refine ⟨fun p hp=>?_,?_⟩
   ·
    obtain ⟨k,hk,rfl⟩:=List.mem_iff_getElem.1 hp
    have:=hall k hk
    have e:l.getD k []=l[k]:=by simp [List.getD,gE hk]
    rw [e] at this
    exact ⟨this.1,this.2.2⟩
   ·
    rcases Nat.eq_zero_or_pos l.length with h0 | h0
    · rw [List.length_eq_zero_iff] at h0; subst h0; simp [sumlen]
    ·
     have:=(hall (l.length-1) (by omega)).2.1
     rw [show l.length-1+1=l.length from by omega,List.take_length] at this
     exact this
  obtain ⟨k,hk,hx⟩:=this
  rw [findSome_one (q:=false) (k:=k) (fun k q' h=>by
   by_cases hc:(3≤(l.getD k []).length∧sumlen (l.take (k+1))≤100∧∀x∈l.getD k [],Fit x)
   · rw [if_pos hc] at h; cases h
   · rw [if_neg hc] at h; injection h with h; exact h.symm) hk (by rw [if_neg hx]; simp)]
abbrev Ed:=Pt×(Pt×(Int×Int))
def p0:Pt:=(0,(0,0))
def e0:Ed:=(p0,(p0,(0,0)))
def mkE (s:Nat) (p:List Pt) (i:Nat):Ed:=(p.getD i p0,(p.getD ((i+1)%p.length) p0,(((s+i:Nat):Int),((s+(i+1)%p.length:Nat):Int))))
def edRow (s:Nat) (p:List Pt) (m:Nat):List Ed:=(List.range m).map (mkE s p)
def edS:Nat→List (List Pt)→List Ed
 | _,[]=>[]
 | s,p::r=>edRow s p p.length++edS (s+p.length) r
theorem edRow_len (s:Nat) (p:List Pt) (m:Nat):(edRow s p m).length=m:=by simp [edRow]
theorem edS_len: ∀(s:Nat) (l:List (List Pt)),(edS s l).length=sumlen l
 | s,[]=>by simp [edS,sumlen]
 | s,p::r=>by
  rw [edS,List.length_append,edRow_len,edS_len]
  simp [sumlen]
theorem edS_app: ∀(s:Nat) (l r:List (List Pt)),edS s (l++r)=edS s l++edS (s+sumlen l) r
 | s,[],r=>by simp [edS,sumlen]
 | s,p::l,r=>by
  rw [List.cons_append,edS,edS,edS_app,List.append_assoc]
  congr 3
  simp [sumlen]
  omega
theorem edS_take {l:List (List Pt)} {k:Nat} {p:List Pt} (h:l[k]? =some p):edS 0 (l.take (k+1))=edS 0 (l.take k)++edRow (sumlen (l.take k)) p p.length:=by
 rw [List.take_add_one,h,edS_app]
 simp [edS]
theorem edges_row (pre:List Ed) (p:List Pt) (n:Nat) (hl:p.length<n) (hp:p.length+pre.length≤1000000000):
  loopN n (F.polygon_edges_b1 n pre p) (pre,0)=some (pre++edRow pre.length p p.length,(p.length:Int)):=by
 have h0:(pre,(0:Int))=(fun k:Nat=>(pre++edRow pre.length p k,(k:Int))) 0:=by simp [edRow]
 rw [h0]
 refine count_loop (fun k:Nat=>(pre++edRow pre.length p k,(k:Int))) p.length (fun k hk=>?_) ?_ n hl
 ·
  unfold F.polygon_edges_b1
  dsimp only
  have hm:(k+1)%p.length<p.length:=Nat.mod_lt _ (by omega)
  have ht:Int.tmod (((k:Nat):Int)+1) (p.length:Int)=(((k+1)%p.length:Nat):Int):=by
   rw [show ((k:Int)+1)=((k+1:Nat):Int) from by omega,Int.ofNat_tmod]
  rw [dT (by omega),kT,get_nat,gE hk,bB,chk_ok (by omega) (by omega),bB,nz_ok (by omega),bB,ht,get_nat,gE hm,bB,chk_ok (by omega) (by omega),bB,chk_ok (by omega) (by omega),bB,lim_ok (by simp [edRow_len]; omega),bB,bB]
  rw [show ((k:Int)+1)=((k+1:Nat):Int) from by omega]
  congr 2
  refine Prod.ext ?_ rfl
  dsimp only
  rw [List.append_assoc]
  congr 1
  unfold edRow
  rw [List.range_succ,List.map_append]
  congr 1
  unfold mkE
  simp [List.getD,gE hk,gE hm]
 ·
  unfold F.polygon_edges_b1
  dsimp only
  rw [dF (by omega),kF]
theorem edges_eq (l:List (List Pt)) (n:Nat) (hb:sumlen l≤1000000000) (hl:l.length<n) (hl2:l.length≤1000000000) (hn:sumlen l<n):F.polygon_edges n l=some (edS 0 l):=by
 unfold F.polygon_edges
 have h0:(([]:List Ed),(0:Int))=(fun k:Nat=>(edS 0 (l.take k),(k:Int))) 0:=by simp [edS]
 have hc:loopN n (F.polygon_edges_b0 n l) (([]:List Ed),(0:Int))=some (edS 0 l,(l.length:Int)):=by
  rw [h0]
  refine count_loop (fun k:Nat=>(edS 0 (l.take k),(k:Int))) l.length (fun k hk=>?_) ?_ n hl
  ·
   unfold F.polygon_edges_b0
   dsimp only
   have hg:l[k]? =some l[k]:=gE hk
   have hsu:=sumlen_take_succ hg
   have hle:=sumlen_take_le l (k+1)
   have hlen:=edS_len 0 (l.take k)
   rw [dT (by omega),kT,get_nat,hg,bB,edges_row _ _ n (by omega) (by omega),bB]
   dsimp only
   rw [chk_ok (by omega) (by omega),bB,hlen,←edS_take hg]
   rfl
  ·
   unfold F.polygon_edges_b0
   dsimp only
   rw [dF (by omega),kF,List.take_length]
 rw [hc,bB]
theorem getD_of {α:Type} {xs:List α} {k:Nat} (h:k<xs.length) (d:α):xs.getD k d=xs[k]:=by simp [List.getD,gE h]
def eAt (es:List Ed) (i:Nat):Ed:=es.getD i e0
theorem get_eAt {es:List Ed} {k:Nat} (h:k<es.length):Ev.get es (k:Int)=some (eAt es k):=by
 rw [get_nat,gE h]
 unfold eAt
 rw [getD_of h]
def FitE (es:List Ed):Prop:= ∀e∈es,Fit e.1∧Fit e.2.1
theorem FitE.at {es:List Ed} (h:FitE es) {k:Nat} (hk:k<es.length):Fit (eAt es k).1∧Fit (eAt es k).2.1:=by
 unfold eAt
 rw [getD_of hk]
 exact h _ (List.getElem_mem hk)
theorem fit_row {p:List Pt} (h: ∀x∈p,Fit x) (s:Nat):FitE (edRow s p p.length):=by
 intro e he
 unfold edRow at he
 obtain ⟨i,hi,rfl⟩:=List.mem_map.1 he
 have hi:=List.mem_range.1 hi
 unfold mkE
 have hm:(i+1)%p.length<p.length:=Nat.mod_lt _ (by omega)
 dsimp only
 rw [getD_of hi,getD_of hm]
 exact ⟨h _ (List.getElem_mem hi),h _ (List.getElem_mem hm)⟩
theorem fit_edS: ∀{l:List (List Pt)} (s:Nat),(∀p∈l,∀x∈p,Fit x)→FitE (edS s l)
 | [],s,_=>by intro e he; cases he
 | p::r,s,h=>by
  intro e he
  rw [edS] at he
  rcases List.mem_append.1 he with he | he
  · exact fit_row (h p List.mem_cons_self) s e he
  · exact fit_edS _ (fun q hq=>h q (List.mem_cons_of_mem _ hq)) e he
theorem sortL_congr {α:Type} {cf cg:α→α→Int} {xs:List α} (h: ∀x∈xs,∀y∈xs,cf x y=cg x y):sortL cf xs=sortL cg xs:=by
 unfold sortL
 split
 · rfl
 ·
  rename_i k hk
  have e:(fun p q:Fin (k+1)=>decide (cf (xs[p.1]'(by omega)) (xs[q.1]'(by omega))<0))=fun p q:Fin (k+1)=>decide (cg (xs[p.1]'(by omega)) (xs[q.1]'(by omega))<0):=by
   funext p q
   rw [h _ (List.getElem_mem _) _ (List.getElem_mem _)]
  rw [e]
theorem swoL_frac {α:Type} {cf:α→α→Int} {xs:List α} (a b:α→Int) (hb: ∀x∈xs,0<b x) (h: ∀x∈xs,∀y∈xs,cf x y=a x*b y-a y*b x):swoL cf xs=true:=by
 have lt: ∀x y z,0<b x→0<b y→0<b z→a x*b y<a y*b x→a y*b z<a z*b y→a x*b z<a z*b x:=by
  intro x y z hx hy hz h1 h2
  have e1:a x*b y*b z<a y*b x*b z:=Int.mul_lt_mul_of_pos_right h1 hz
  have e2:a y*b z*b x<a z*b y*b x:=Int.mul_lt_mul_of_pos_right h2 hx
  have e3:(a x*b z)*b y<(a z*b x)*b y:=by
   have q1:(a x*b z)*b y=a x*b y*b z:=by grind
   have q2:(a z*b x)*b y=a z*b y*b x:=by grind
   have q3:a y*b x*b z=a y*b z*b x:=by grind
   omega
  exact Int.lt_of_mul_lt_mul_right e3 (by omega)
 have le: ∀x y z,0<b x→0<b y→0<b z→a y*b x≤a x*b y→a z*b y≤a y*b z→a z*b x≤a x*b z:=by
  intro x y z hx hy hz h1 h2
  have e1:a y*b x*b z≤a x*b y*b z:=Int.mul_le_mul_of_nonneg_right h1 (by omega)
  have e2:a z*b y*b x≤a y*b z*b x:=Int.mul_le_mul_of_nonneg_right h2 (by omega)
  have e3:(a z*b x)*b y≤(a x*b z)*b y:=by
   have q1:(a x*b z)*b y=a x*b y*b z:=by grind
   have q2:(a z*b x)*b y=a z*b y*b x:=by grind
   have q3:a y*b x*b z=a y*b z*b x:=by grind
   omega
  exact Int.le_of_mul_le_mul_right e3 hy
 unfold swoL
 rw [List.all_eq_true]
 intro x hx
 rw [Bool.and_eq_true,List.all_eq_true]
 refine ⟨by rw [h x hx x hx]; simp,fun y hy=>?_⟩
 rw [List.all_eq_true]
 intro z hz
 rw [h x hx y hy,h y hy z hz,h x hx z hz]
 have bx:=hb x hx
 have by':=hb y hy
 have bz:=hb z hz
 have l1:=lt x y z bx by' bz
 have l2:=le x y z bx by' bz
 by_cases c1:a x*b y-a y*b x<0<;>by_cases c2:a y*b z-a z*b y<0<;>by_cases c3:a x*b z-a z*b x<0<;>simp [c1,c2,c3]<;>omega
def Flat (a b:Pt):Prop:=a.1=b.1∧a.2.1=b.2.1
instance (a b:Pt):Decidable (Flat a b):=by unfold Flat; infer_instance
def Adj (e f:Ed):Prop:=f.2.2.1=e.2.2.2∨f.2.2.2=e.2.2.1
instance (e f:Ed):Decidable (Adj e f):=by unfold Adj; infer_instance
def BadP (e f:Ed):Prop:=Flat e.1 f.1∨(f.2.2.1≠e.2.2.2∧On e.1 e.2.1 f.1)∨(¬Adj e f∧(cr e.1 e.2.1 f.1 f.2.1).1=2)
instance (e f:Ed):Decidable (BadP e f):=by unfold BadP; infer_instance
def psg (es:List Ed) (i k:Nat):Option (Int×Bool):=
 if k=i∨Adj (eAt es i) (eAt es k) then none
 else if (cr (eAt es i).1 (eAt es i).2.1 (eAt es k).1 (eAt es k).2.1).1=1 then some ((k:Int),(cr (eAt es i).1 (eAt es i).2.1 (eAt es k).1 (eAt es k).2.1).2) else none
def ps (es:List Ed) (i m:Nat):List (Int×Bool):=(List.range m).filterMap (psg es i)
def prt (e f:Ed):Int:=max (T f.1 f.2.1 e.1) (-T f.1 f.2.1 e.1)
def whl (e f:Ed):Int:=max (T f.1 f.2.1 e.1-T f.1 f.2.1 e.2.1) (T f.1 f.2.1 e.2.1-T f.1 f.2.1 e.1)
def cmpS (es:List Ed) (i:Nat) (p q:Int×Bool):Int:=prt (eAt es i) (eAt es p.1.toNat)*whl (eAt es i) (eAt es q.1.toNat)-prt (eAt es i) (eAt es q.1.toNat)*whl (eAt es i) (eAt es p.1.toNat)
def srt (es:List Ed) (i:Nat):List (Int×Bool):=sortL (cmpS es i) (ps es i es.length)
def tie (es:List Ed) (i:Nat):Prop:= ∃k,1≤k∧k<(srt es i).length∧cmpS es i ((srt es i).getD (k-1) (0,false)) ((srt es i).getD k (0,false))=0
def GenE (es:List Ed):Prop:= ∀i,i<es.length→(∀k,k<es.length→k≠i→¬BadP (eAt es i) (eAt es k))∧¬tie es i
theorem c1_eq {es:List Ed} (hF:FitE es) {e:Ed} (he:Fit e.1∧Fit e.2.1) (p:Int×Bool) (hp:0≤p.1) (hp2:p.1.toNat<es.length) (n:Nat):
  F.polygon_cross_c1 n p.1 p.2 es e.1.1 e.1.2.1 e.1.2.2 e.2.1.1 e.2.1.2.1 e.2.1.2.2 e.2.2.1 e.2.2.2=some (prt e (eAt es p.1.toNat),whl e (eAt es p.1.toNat)):=by
 have hk:=hF.at hp2
 unfold F.polygon_cross_c1
 have hg:Ev.get es p.1=some (eAt es p.1.toNat):=by
  have:=get_eAt hp2
  rwa [Int.toNat_of_nonneg hp] at this
 have t1:=T_rng hk.1 hk.2 he.1
 have t2:=T_rng hk.1 hk.2 he.2
 rw [hg,bB,turn_eq hk.1 hk.2 he.1,bB,turn_eq hk.1 hk.2 he.2,bB,chk_ok (by omega) (by omega),bB,chk_ok (by omega) (by omega),bB,chk_ok (by omega) (by omega),bB]
 rfl
theorem prt_rng {e f:Ed} (he:Fit e.1∧Fit e.2.1) (hf:Fit f.1∧Fit f.2.1):0≤prt e f∧prt e f≤8000000∧0≤whl e f∧whl e f≤16000000:=by
 have t1:=T_rng hf.1 hf.2 he.1
 have t2:=T_rng hf.1 hf.2 he.2
 unfold prt whl
 omega
theorem c2_eq {es:List Ed} (hF:FitE es) {i:Nat} (hi:i<es.length) (p q:Int×Bool) (hp:0≤p.1) (hp2:p.1.toNat<es.length) (hq:0≤q.1) (hq2:q.1.toNat<es.length) (n:Nat):
  F.polygon_cross_c2 n p.1 p.2 q.1 q.2 es (eAt es i).1.1 (eAt es i).1.2.1 (eAt es i).1.2.2 (eAt es i).2.1.1 (eAt es i).2.1.2.1 (eAt es i).2.1.2.2 (eAt es i).2.2.1 (eAt es i).2.2.2=some (cmpS es i p q):=by
 have he:=hF.at hi
 have r1:=prt_rng he (hF.at hp2)
 have r2:=prt_rng he (hF.at hq2)
 have m1:=mulb (A:=8000000) (B:=16000000) (x:=prt (eAt es i) (eAt es p.1.toNat)) (y:=whl (eAt es i) (eAt es q.1.toNat)) (by omega) (by omega) (by omega) (by omega)
 have m2:=mulb (A:=8000000) (B:=16000000) (x:=prt (eAt es i) (eAt es q.1.toNat)) (y:=whl (eAt es i) (eAt es p.1.toNat)) (by omega) (by omega) (by omega) (by omega)
 unfold F.polygon_cross_c2
 rw [c1_eq hF he p hp hp2,bB,c1_eq hF he q hq hq2,bB]
 dsimp only
 rw [chk_ok (by omega) (by omega),bB,chk_ok (by omega) (by omega),bB,chk_ok (by omega) (by omega),bB]
 rfl
theorem ps_mem {es:List Ed} {i m:Nat} {p:Int×Bool} (h:p∈ps es i m): ∃k,k<m∧p.1=(k:Int)∧k≠i∧¬Adj (eAt es i) (eAt es k)∧(cr (eAt es i).1 (eAt es i).2.1 (eAt es k).1 (eAt es k).2.1).1=1∧p.2=(cr (eAt es i).1 (eAt es i).2.1 (eAt es k).1 (eAt es k).2.1).2:=by
 unfold ps at h
 obtain ⟨k,hk,he⟩:=List.mem_filterMap.1 h
 unfold psg at he
 split at he
 · cases he
 ·
  rename_i h1
  split at he
  ·
   rename_i h2
   injection he with he
   subst he
   exact ⟨k,List.mem_range.1 hk,rfl,fun h=>h1 (.inl h),fun h=>h1 (.inr h),h2,rfl⟩
  · cases he
theorem cr_one {a b c d:Pt} (h:(cr a b c d).1=1):Opp (T a b c) (T a b d)∧Opp (T c d a) (T c d b):=by
 unfold cr at h
 split at h
 ·
  split at h
  · assumption
  · split at h<;>cases h
 · cases h
theorem sort_eq {es:List Ed} (hF:FitE es) {i:Nat} (hi:i<es.length) (hN:es.length≤1000000000) (n:Nat):
  F.slices_SortFunc_passage_passage_polygon_cross_c2 n (ps es i es.length) es (eAt es i).1.1 (eAt es i).1.2.1 (eAt es i).1.2.2 (eAt es i).2.1.1 (eAt es i).2.1.2.1 (eAt es i).2.1.2.2 (eAt es i).2.2.1 (eAt es i).2.2.2=some (srt es i)∧swoL (cmpS es i) (ps es i es.length)=true:=by
 have hc: ∀x∈ps es i es.length,∀y∈ps es i es.length,F.polygon_cross_c2 n x.1 x.2 y.1 y.2 es (eAt es i).1.1 (eAt es i).1.2.1 (eAt es i).1.2.2 (eAt es i).2.1.1 (eAt es i).2.1.2.1 (eAt es i).2.1.2.2 (eAt es i).2.2.1 (eAt es i).2.2.2=some (cmpS es i x y):=by
  intro x hx y hy
  obtain ⟨k,hk,e1,_⟩:=ps_mem hx
  obtain ⟨k',hk',e2,_⟩:=ps_mem hy
  exact c2_eq hF hi x y (by omega) (by omega) (by omega) (by omega) n
 have hpos: ∀x∈ps es i es.length,0<whl (eAt es i) (eAt es x.1.toNat):=by
  intro x hx
  obtain ⟨k,hk,e1,_,_,h1,_⟩:=ps_mem hx
  have:=(cr_one h1).2
  rw [e1,Int.toNat_natCast]
  unfold Opp at this
  unfold whl
  omega
 have hsw:swoL (cmpS es i) (ps es i es.length)=true:=swoL_frac (fun x=>prt (eAt es i) (eAt es x.1.toNat)) (fun x=>whl (eAt es i) (eAt es x.1.toNat)) hpos (fun _ _ _ _=>rfl)
 refine ⟨?_,hsw⟩
 unfold F.slices_SortFunc_passage_passage_polygon_cross_c2
 rw [if_pos]
 ·
  congr 1
  exact sortL_congr fun x hx y hy=>by rw [hc x hx y hy]; rfl
 ·
  refine ⟨?_,?_,?_⟩
  ·
   rw [List.all_eq_true]
   intro x hx
   rw [List.all_eq_true]
   intro y hy
   rw [hc x hx y hy]; rfl
  ·
   refine swoL_frac (fun x=>prt (eAt es i) (eAt es x.1.toNat)) (fun x=>whl (eAt es i) (eAt es x.1.toNat)) hpos (fun x hx y hy=>?_)
   rw [hc x hx y hy]; rfl
  ·
   have:(ps es i es.length).length≤(List.range es.length).length:=List.length_filterMap_le _ _
   rw [List.length_range] at this
   omega
def rowsAt (es:List Ed) (i:Nat) (r:List (Int×Bool)):List (List (Int×Bool)):=(List.range es.length).map fun j=>if j<i then srt es j else if j=i then r else []
theorem rowsAt_get {es:List Ed} {i:Nat} {r:List (Int×Bool)} (hi:i<es.length):Ev.get (rowsAt es i r) (i:Int)=some r:=by
 rw [get_nat]
 unfold rowsAt
 rw [List.getElem?_map,List.getElem?_range hi]
 simp
theorem rowsAt_set {es:List Ed} {i:Nat} {r r':List (Int×Bool)} (hi:i<es.length):(rowsAt es i r).set i r'=rowsAt es i r':=by
 apply List.ext_getElem?
 intro j
 unfold rowsAt
 rw [List.getElem?_set]
 by_cases hj:i=j
 ·
  subst hj
  simp [hi]
 ·
  rw [if_neg hj]
  by_cases hx:j<es.length
  · rw [List.getElem?_map,List.getElem?_map,List.getElem?_range hx,Option.map_some,Option.map_some,if_neg (show¬j=i from fun h=>hj h.symm),if_neg (show¬j=i from fun h=>hj h.symm)]
  · rw [List.getElem?_eq_none (by simp; omega),List.getElem?_eq_none (by simp; omega)]
theorem rowsAt_next {es:List Ed} {i:Nat}:rowsAt es i (srt es i)=rowsAt es (i+1) []:=by
 unfold rowsAt
 refine List.map_congr_left fun j _=>?_
 by_cases h1:j<i
 · rw [if_pos h1,if_pos (by omega)]
 ·
  by_cases h2:j=i
  · subst h2; rw [if_neg h1,if_pos rfl,if_pos (by omega)]
  · rw [if_neg h1,if_neg h2,if_neg (by omega),ite_self]
theorem ps_succ (es:List Ed) (i k:Nat):ps es i (k+1)=ps es i k++(psg es i k).toList:=by
 unfold ps
 rw [List.range_succ,List.filterMap_append]
 cases h:psg es i k<;>simp [h]
theorem ps_le (es:List Ed) (i m:Nat):(ps es i m).length≤m:=by
 have:(ps es i m).length≤(List.range m).length:=List.length_filterMap_le _ _
 rwa [List.length_range] at this
theorem pass_row {es:List Ed} (hF:FitE es) {i:Nat} (hi:i<es.length) (hN:es.length≤1000000000) (n:Nat) (hn:es.length<n) (hn4:4<n):
  loopN n (F.polygon_cross_b1 n es (i:Int) (eAt es i)) (0,rowsAt es i [])=some (if∀k,k<es.length→k≠i→¬BadP (eAt es i) (eAt es k) then .inl ((es.length:Int),rowsAt es i (ps es i es.length)) else .inr ([],false)):=by
 have hs:=scan_loop (body:=F.polygon_cross_b1 n es (i:Int) (eAt es i)) (fun k=>((k:Int),rowsAt es i (ps es i k))) es.length
  (fun k=>if k≠i∧BadP (eAt es i) (eAt es k) then some (([]:List (List (Int×Bool))),false) else none) (e:=((es.length:Int),rowsAt es i (ps es i es.length))) (fun k hk=>by
  have hfi:=hF.at hi
  have hfk:=hF.at hk
  unfold F.polygon_cross_b1
  dsimp only
  rw [dT (by omega),kT,get_eAt hk,bB,ps_succ]
  by_cases hki:k=i
  ·
   subst hki
   rw [dT rfl,kT,chk_ok (by omega) (by omega),bB,if_neg (fun h=>h.1 rfl)]
   have:psg es k k=none:=by unfold psg; rw [if_pos (.inl rfl)]
   rw [this]
   simp
  rw [dF (by omega),kF]
  by_cases hfl:Flat (eAt es i).1 (eAt es k).1
  · rw [dT hfl.1,kT,dT hfl.2,kT,if_pos ⟨hki,.inl hfl⟩]
  have e1:cond (decide ((eAt es i).1.1=(eAt es k).1.1)) (cond (decide ((eAt es i).1.2.1=(eAt es k).1.2.1)) (some (.inr (.inr ([],false)))) (F.polygon_cross_j2 n (i:Int) (eAt es i) (k:Int) (rowsAt es i (ps es i k)) (eAt es k) (decide ((eAt es i).1.2.1=(eAt es k).1.2.1)))) (F.polygon_cross_j2 n (i:Int) (eAt es i) (k:Int) (rowsAt es i (ps es i k)) (eAt es k) false)=F.polygon_cross_j2 n (i:Int) (eAt es i) (k:Int) (rowsAt es i (ps es i k)) (eAt es k) false:=by
   by_cases h1:(eAt es i).1.1=(eAt es k).1.1
   ·
    have h2: ¬(eAt es i).1.2.1=(eAt es k).1.2.1:=fun h=>hfl ⟨h1,h⟩
    rw [dT h1,kT,dF h2,kF]
   · rw [dF h1,kF]
  rw [e1]
  have j3: ∀b,¬(((eAt es k).2.2.1≠(eAt es i).2.2.2∧On (eAt es i).1 (eAt es i).2.1 (eAt es k).1))→F.polygon_cross_j3 n (i:Int) (eAt es i) (k:Int) (rowsAt es i (ps es i k)) (eAt es k) b=some (stepR (if k≠i∧BadP (eAt es i) (eAt es k) then some (([]:List (List (Int×Bool))),false) else none) (((k+1:Nat):Int),rowsAt es i (ps es i k++(psg es i k).toList))):=by
   intro b hno
   unfold F.polygon_cross_j3
   by_cases ha1:(eAt es k).2.2.1=(eAt es i).2.2.2
   ·
    have hA:Adj (eAt es i) (eAt es k):=.inl ha1
    have hB: ¬BadP (eAt es i) (eAt es k):=by
     rintro (h | h | h)
     · exact hfl h
     · exact hno h
     · exact h.1 hA
    have hp:psg es i k=none:=by unfold psg; rw [if_pos (.inr hA)]
    rw [dT ha1,kT,chk_ok (by omega) (by omega),bB,if_neg (fun h=>hB h.2),hp]
    simp
   rw [dF ha1,kF]
   by_cases ha2:(eAt es k).2.2.2=(eAt es i).2.2.1
   ·
    have hA:Adj (eAt es i) (eAt es k):=.inr ha2
    have hB: ¬BadP (eAt es i) (eAt es k):=by
     rintro (h | h | h)
     · exact hfl h
     · exact hno h
     · exact h.1 hA
    have hp:psg es i k=none:=by unfold psg; rw [if_pos (.inr hA)]
    rw [dT ha2,kT,chk_ok (by omega) (by omega),bB,if_neg (fun h=>hB h.2),hp]
    simp
   have hA: ¬Adj (eAt es i) (eAt es k):=by rintro (h | h); exact ha1 h; exact ha2 h
   rw [dF ha2,kF,cross_eq _ _ _ _ n hn4,bB]
   by_cases hc2:(cr (eAt es i).1 (eAt es i).2.1 (eAt es k).1 (eAt es k).2.1).1=2
   · rw [dT hc2,kT,if_pos ⟨hki,.inr (.inr ⟨hA,hc2⟩)⟩]
   have hB: ¬BadP (eAt es i) (eAt es k):=by
    rintro (h | h | h)
    · exact hfl h
    · exact hno h
    · exact hc2 h.2
   rw [dF hc2,kF,if_neg (fun h=>hB h.2)]
   by_cases hc1:(cr (eAt es i).1 (eAt es i).2.1 (eAt es k).1 (eAt es k).2.1).1=1
   ·
    have hp:psg es i k=some ((k:Int),(cr (eAt es i).1 (eAt es i).2.1 (eAt es k).1 (eAt es k).2.1).2):=by
     unfold psg
     rw [if_neg (by rintro (h | h); exact hki h; exact hA h),if_pos hc1]
    have hle:=ps_le es i k
    rw [dT hc1,kT,rowsAt_get hi,bB,lim_ok (by simp; omega),bB,bB,chk_ok (by omega) (by omega),bB,Int.toNat_natCast,rowsAt_set hi,hp]
    rfl
   ·
    have hp:psg es i k=none:=by
     unfold psg
     rw [if_neg (by rintro (h | h); exact hki h; exact hA h),if_neg hc1]
    rw [dF hc1,kF,chk_ok (by omega) (by omega),bB,hp]
    simp
  unfold F.polygon_cross_j2
  by_cases ha1:(eAt es k).2.2.1=(eAt es i).2.2.2
  ·
   rw [dT ha1,Bool.not_true,kF]
   exact j3 false (fun h=>h.1 ha1)
  ·
   rw [dF ha1,Bool.not_false,kT,on_eq hfi.1 hfi.2 hfk.1,bB]
   by_cases ho:On (eAt es i).1 (eAt es i).2.1 (eAt es k).1
   · rw [dT ho,kT,if_pos ⟨hki,.inr (.inl ⟨ha1,ho⟩)⟩]
   ·
    rw [dF ho,kF]
    exact j3 false (fun h=>ho h.2)) (by
  unfold F.polygon_cross_b1
  dsimp only
  rw [dF (by omega),kF]) n hn
 have h0:((0:Int),rowsAt es i [])=(fun k:Nat=>((k:Int),rowsAt es i (ps es i k))) 0:=by simp [ps]
 rw [h0,hs]
 by_cases hb: ∀k,k<es.length→k≠i→¬BadP (eAt es i) (eAt es k)
 ·
  rw [if_pos hb,findSome_none]
  intro k hk
  rw [if_neg (fun h=>hb k hk h.1 h.2)]
 ·
  rw [if_neg hb]
  have: ∃k,k<es.length∧k≠i∧BadP (eAt es i) (eAt es k):=by
   apply Classical.byContradiction
   intro hc
   exact hb fun k hk hki hB=>hc ⟨k,hk,hki,hB⟩
  obtain ⟨k,hk,h1,h2⟩:=this
  rw [findSome_one (q:=(([]:List (List (Int×Bool))),false)) (k:=k) (fun k q' h=>by
   split at h
   · injection h with h; exact h.symm
   · cases h) hk (by rw [if_pos ⟨h1,h2⟩]; simp)]
open Classical in
theorem tie_loop {es:List Ed} (hF:FitE es) {i:Nat} (hi:i<es.length) (hN:es.length≤1000000000) (n:Nat) (hn:es.length+1<n) (r:List (Int×Bool)):
  loopN n (F.polygon_cross_b4 n es (i:Int) (eAt es i) (rowsAt es i r) (srt es i)) 1=some (if tie es i then .inr ([],false) else .inl (((max 1 (srt es i).length:Nat):Int))):=by
 have hlen:(srt es i).length≤es.length:=by
  have:=(sortL_perm (sort_eq hF hi hN 0).2).1.length_eq
  have h2:=ps_le es i es.length
  unfold srt
  omega
 have hmem: ∀k,k<(srt es i).length→0≤((srt es i).getD k (0,false)).1∧((srt es i).getD k (0,false)).1.toNat<es.length:=by
  intro k hk
  rw [getD_of hk]
  have hm:(srt es i)[k]∈ps es i es.length:=(sortL_perm (sort_eq hF hi hN 0).2).1.mem_iff.1 (List.getElem_mem hk)
  obtain ⟨j,hj,e,_⟩:=ps_mem hm
  omega
 have hbody: ∀k,F.polygon_cross_b4 n es (i:Int) (eAt es i) (rowsAt es i r) (srt es i) k=cond (decide (k<((srt es i).length:Int))) ((chk (k-1)).bind fun z276=>(Ev.get (srt es i) z276).bind fun x278=>(Ev.get (srt es i) k).bind fun x298=>(F.polygon_cross_c2 n x278.1 x278.2 x298.1 x298.2 es (eAt es i).1.1 (eAt es i).1.2.1 (eAt es i).1.2.2 (eAt es i).2.1.1 (eAt es i).2.1.2.1 (eAt es i).2.1.2.2 (eAt es i).2.2.1 (eAt es i).2.2.2).bind fun y309=>cond (decide (y309=0)) (some (.inr (.inr ([],false)))) ((chk (k+1)).bind fun z318=>some (.inl z318))) (some (.inr (.inl k))):=by
  intro k
  unfold F.polygon_cross_b4
  rw [Int.toNat_natCast,rowsAt_set hi,rowsAt_get hi]
  simp only [bB]
 have hs:=scan_loop (body:=F.polygon_cross_b4 n es (i:Int) (eAt es i) (rowsAt es i r) (srt es i)) (fun k=>((k+1:Nat):Int)) ((srt es i).length-1)
  (fun k=>if cmpS es i ((srt es i).getD k (0,false)) ((srt es i).getD (k+1) (0,false))=0 then some (([]:List (List (Int×Bool))),false) else none) (e:=((max 1 (srt es i).length:Nat):Int)) (fun k hk=>by
  have h1:=hmem k (by omega)
  have h2:=hmem (k+1) (by omega)
  rw [hbody,dT (by omega),kT,chk_ok (by omega) (by omega),bB,show (((k+1:Nat):Int)-1)=(k:Int) from by omega,get_nat,gE (by omega),bB,get_nat,gE (by omega),bB]
  rw [getD_of (by omega)] at h1 h2⊢
  rw [getD_of (by omega)]
  rw [c2_eq hF hi _ _ h1.1 h1.2 h2.1 h2.2,bB]
  by_cases hz:cmpS es i (srt es i)[k] (srt es i)[k+1]=0
  · rw [dT hz,kT,if_pos hz]
  · rw [dF hz,kF,if_neg hz,chk_ok (by omega) (by omega),bB]; rfl) (by
  rw [hbody,dF (by omega),kF]
  congr 3
  omega) n (by omega)
 rw [show (1:Int)=(fun k:Nat=>((k+1:Nat):Int)) 0 from rfl,hs]
 by_cases ht:tie es i
 ·
  rw [if_pos ht]
  obtain ⟨k,h1,h2,h3⟩:=ht
  rw [findSome_one (q:=(([]:List (List (Int×Bool))),false)) (k:=k-1) (fun k q' h=>by
   split at h
   · injection h with h; exact h.symm
   · cases h) (by omega) (by rw [show k-1+1=k from by omega,if_pos h3]; simp)]
 ·
  rw [if_neg ht,findSome_none]
  intro k hk
  rw [if_neg]
  intro h
  exact ht ⟨k+1,by omega,by omega,by rwa [Nat.add_sub_cancel]⟩
open Classical in
theorem cross_list {es:List Ed} (hF:FitE es) (hN:es.length≤1000000000) (n:Nat) (hn:es.length+1<n) (hn4:4<n):
  F.polygon_cross n es=some (if GenE es then ((List.range es.length).map (srt es),true) else ([],false)):=by
 have hs:=scan_loop (body:=F.polygon_cross_b0 n es) (fun k=>((k:Int),rowsAt es k [])) es.length
  (fun i=>if (∀k,k<es.length→k≠i→¬BadP (eAt es i) (eAt es k))∧¬tie es i then none else some (([]:List (List (Int×Bool))),false)) (e:=((es.length:Int),rowsAt es es.length [])) (fun i hi=>by
  unfold F.polygon_cross_b0
  dsimp only
  rw [dT (by omega),kT,get_eAt hi,bB,pass_row hF hi hN n (by omega) hn4,bB]
  by_cases hb: ∀k,k<es.length→k≠i→¬BadP (eAt es i) (eAt es k)
  ·
   rw [if_pos hb]
   dsimp only
   rw [rowsAt_get hi,bB,(sort_eq hF hi hN n).1,bB,tie_loop hF hi hN n hn,bB]
   by_cases ht:tie es i
   · rw [if_pos ht,if_neg (fun h=>h.2 ht)]
   ·
    rw [if_neg ht,if_pos ⟨hb,ht⟩]
    dsimp only
    rw [chk_ok (by omega) (by omega),bB,Int.toNat_natCast,rowsAt_set hi,rowsAt_next]; rfl
  · rw [if_neg hb,if_neg (fun h=>hb h.1)]) (by
  unfold F.polygon_cross_b0
  dsimp only
  rw [dF (by omega),kF]) n (by omega)
 unfold F.polygon_cross
 have h0:((0:Int),List.replicate (es.length:Int).toNat ([]:List (Int×Bool)))=(fun k:Nat=>((k:Int),rowsAt es k [])) 0:=by
  dsimp only
  refine Prod.ext rfl ?_
  apply List.ext_getElem?
  intro j
  unfold rowsAt
  rw [Int.toNat_natCast,List.getElem?_map,List.getElem?_replicate]
  by_cases hj:j<es.length
  ·
   rw [List.getElem?_range hj,if_pos hj,Option.map_some,if_neg (Nat.not_lt_zero _)]
   split<;>rfl
  · rw [List.getElem?_eq_none (by simp; omega),if_neg hj]; rfl
 rw [pos_ok (by omega) (by omega),bB,h0,hs,bB]
 by_cases hg:GenE es
 ·
  rw [if_pos hg,findSome_none]
  ·
   dsimp only
   congr 2
   unfold rowsAt
   refine List.map_congr_left fun j hj=>?_
   rw [if_pos (List.mem_range.1 hj)]
  ·
   intro i hi
   rw [if_pos (hg i hi)]
 ·
  rw [if_neg hg]
  have: ∃i,i<es.length∧¬((∀k,k<es.length→k≠i→¬BadP (eAt es i) (eAt es k))∧¬tie es i):=by
   apply Classical.byContradiction
   intro hc
   exact hg fun i hi=>Classical.byContradiction fun hx=>hc ⟨i,hi,hx⟩
  obtain ⟨i,hi,hx⟩:=this
  rw [findSome_one (q:=(([]:List (List (Int×Bool))),false)) (k:=i) (fun k q' h=>by
   split at h
   · cases h
   · injection h with h; exact h.symm) hi (by rw [if_neg hx]; simp)]
end Pg
end Go.Proofs.Yteajmbanlohncaa
