import Derived.Test.YteajmbanlohncaaPQpj
import Derived.Test.YteajmbanlohncaaPQlaw1
import Derived.Test.YteajmbanlohncaaPQpln
import Derived.Test.YteajmbanlohncaaPQsph
set_option linter.unusedVariables false
set_option linter.unusedSimpArgs false
namespace Go.Proofs.Yteajmbanlohncaa
open Ev
namespace Pg
abbrev RE:=Int×(Int×(Pt×Pt))
def r0:RE:=(0,(0,(p0,p0)))
def mkR (c:Nat) (p:List Pt) (i:Nat):RE:=((c:Int),((i:Int),(p.getD i p0,p.getD ((i+1)%p.length) p0)))
def rRow (c:Nat) (p:List Pt) (m:Nat):List RE:=(List.range m).map (mkR c p)
def rE:Nat→List (List Pt)→List RE
 | _,[]=>[]
 | c,p::r=>rRow c p p.length++rE (c+1) r
theorem rRow_len (c:Nat) (p:List Pt) (m:Nat):(rRow c p m).length=m:=by simp [rRow]
theorem rE_len: ∀(c:Nat) (l:List (List Pt)),(rE c l).length=sumlen l
 | c,[]=>by simp [rE,sumlen]
 | c,p::r=>by rw [rE,List.length_append,rRow_len,rE_len,sumlen_cons]
theorem rE_app: ∀(c:Nat) (l r:List (List Pt)),rE c (l++r)=rE c l++rE (c+l.length) r
 | c,[],r=>by simp [rE]
 | c,p::l,r=>by
  rw [List.cons_append,rE,rE,rE_app,List.append_assoc,List.length_cons,Nat.add_assoc,Nat.add_comm 1 l.length]
theorem rE_take {l:List (List Pt)} {k:Nat} {p:List Pt} (h:l[k]? =some p):rE 0 (l.take (k+1))=rE 0 (l.take k)++rRow k p p.length:=by
 have hk:=(List.getElem?_eq_some_iff.1 h).1
 rw [List.take_add_one,h,rE_app,Nat.zero_add,List.length_take,Nat.min_eq_left (by omega)]
 simp [rE]
theorem redges_row {l:List (List Pt)} {k:Nat} {p:List Pt} (hg:l[k]? =some p) (pre:List RE) (n:Nat) (hl:p.length<n) (hp:p.length+pre.length≤1000000000):
  loopN n (F.ref46_Edges_b1 n l (k:Int)) (pre,0)=some (pre++rRow k p p.length,(p.length:Int)):=by
 have h0:(pre,(0:Int))=(fun j:Nat=>(pre++rRow k p j,(j:Int))) 0:=by simp [rRow]
 rw [h0]
 refine count_loop (fun j:Nat=>(pre++rRow k p j,(j:Int))) p.length (fun j hj=>?_) ?_ n hl
 ·
  unfold F.ref46_Edges_b1
  dsimp only
  have hm:(j+1)%p.length<p.length:=Nat.mod_lt _ (by omega)
  have ht:Int.tmod (((j:Nat):Int)+1) (p.length:Int)=(((j+1)%p.length:Nat):Int):=by
   rw [show ((j:Int)+1)=((j+1:Nat):Int) from by omega,Int.ofNat_tmod]
  rw [get_nat,hg,bB,dT (by omega),kT,bB,get_nat,gE hj,bB,bB,chk_ok (by omega) (by omega),bB,bB,nz_ok (by omega),bB,ht,get_nat,gE hm,bB,lim_ok (by simp [rRow_len]; omega),bB,bB]
  rw [show ((j:Int)+1)=((j+1:Nat):Int) from by omega]
  congr 2
  refine Prod.ext ?_ rfl
  dsimp only
  rw [List.append_assoc]
  congr 1
  unfold rRow
  rw [List.range_succ,List.map_append]
  congr 1
  unfold mkR
  simp [List.getD,gE hj,gE hm]
 ·
  unfold F.ref46_Edges_b1
  dsimp only
  rw [get_nat,hg,bB,dF (by omega),kF]
theorem redges_eq (l:List (List Pt)) (n:Nat) (hb:sumlen l≤1000000000) (hl:l.length<n) (hl2:l.length≤1000000000) (hn:sumlen l<n):F.ref46_Edges n l=some (rE 0 l):=by
 unfold F.ref46_Edges
 have h0:(([]:List RE),(0:Int))=(fun k:Nat=>(rE 0 (l.take k),(k:Int))) 0:=by simp [rE]
 have hc:loopN n (F.ref46_Edges_b0 n l) (([]:List RE),(0:Int))=some (rE 0 l,(l.length:Int)):=by
  rw [h0]
  refine count_loop (fun k:Nat=>(rE 0 (l.take k),(k:Int))) l.length (fun k hk=>?_) ?_ n hl
  ·
   unfold F.ref46_Edges_b0
   dsimp only
   have hg:l[k]? =some l[k]:=gE hk
   have hsu:=sumlen_take_succ hg
   have hle:=sumlen_take_le l (k+1)
   have hlen:=rE_len 0 (l.take k)
   rw [dT (by omega),kT,redges_row hg _ n (by omega) (by omega),bB]
   dsimp only
   rw [chk_ok (by omega) (by omega),bB,←rE_take hg]
   rfl
  ·
   unfold F.ref46_Edges_b0
   dsimp only
   rw [dF (by omega),kF,List.take_length]
 rw [hc,bB]
def rAt (l:List (List Pt)) (i:Nat):RE:=(rE 0 l).getD i r0
theorem get_rAt {l:List (List Pt)} {k:Nat} (h:k<sumlen l):Ev.get (rE 0 l) (k:Int)=some (rAt l k):=by
 have hk:k<(rE 0 l).length:=by rw [rE_len]; exact h
 rw [get_nat,gE hk]
 unfold rAt
 rw [getD_of hk]
theorem rAt_dec {l1 l2:List (List Pt)} {p:List Pt} {t:Nat} (ht:t<p.length):rAt (l1++p::l2) (sumlen l1+t)=mkR l1.length p t:=by
 have e:rE 0 (l1++p::l2)=rE 0 l1++(rRow l1.length p p.length++rE (l1.length+1) l2):=by
  rw [rE_app,Nat.zero_add]
  rfl
 unfold rAt
 rw [e]
 have h1:=rE_len 0 l1
 have h2:=rRow_len l1.length p p.length
 have h3:(rE 0 l1++(rRow l1.length p p.length++rE (l1.length+1) l2))[sumlen l1+t]? =some (mkR l1.length p t):=by
  rw [List.getElem?_append_right (by omega),h1,show sumlen l1+t-sumlen l1=t by omega,List.getElem?_append_left (by omega)]
  unfold rRow
  rw [List.getElem?_map,List.getElem?_range ht]
  rfl
 rw [List.getD_eq_getElem?_getD,h3]
 rfl
theorem dec_at' (l:List (List Pt)) (i:Nat) (h:i<sumlen l): ∃c t p,l[c]? =some p∧t<p.length∧i=sumlen (l.take c)+t∧rAt l i=mkR c p t∧eAt (edS 0 l) i=mkE (sumlen (l.take c)) p t:=by
 obtain ⟨l1,p,l2,t,rfl,ht,rfl⟩:=dec_at l i h
 refine ⟨l1.length,t,p,by simp,ht,by rw [List.take_left],rAt_dec ht,?_⟩
 rw [List.take_left]
 exact eAt_dec ht
theorem take_mono {l:List (List Pt)} {c d:Nat} {p:List Pt} (hc:l[c]? =some p) (h:c<d):sumlen (l.take c)+p.length≤sumlen (l.take d):=by
 rw [←sumlen_take_succ hc]
 have e:l.take (c+1)=(l.take d).take (c+1):=by rw [List.take_take,Nat.min_eq_left (by omega)]
 rw [e]
 exact sumlen_take_le _ _
theorem rAt_ends {l:List (List Pt)} {i:Nat} (h:i<sumlen l):(rAt l i).2.2.1=(eAt (edS 0 l) i).1∧(rAt l i).2.2.2=(eAt (edS 0 l) i).2.1:=by
 obtain ⟨c,t,p,_,_,_,e1,e2⟩:=dec_at' l i h
 rw [e1,e2]
 exact ⟨rfl,rfl⟩
theorem rnext {l:List (List Pt)} {i k:Nat} (hi:i<sumlen l) (hk:k<sumlen l): ∃p,Ev.get l (rAt l i).1=some p∧0<p.length∧p.length≤sumlen l∧0≤(rAt l i).2.1∧(rAt l i).2.1<(p.length:Int)∧((rAt l i).1=(rAt l k).1→(0≤(rAt l k).2.1∧(rAt l k).2.1<(p.length:Int))∧(Int.tmod ((rAt l i).2.1+1) (p.length:Int)=(rAt l k).2.1↔k=nxE (edS 0 l) i)∧(Int.tmod ((rAt l k).2.1+1) (p.length:Int)=(rAt l i).2.1↔i=nxE (edS 0 l) k))∧((rAt l i).1≠(rAt l k).1→k≠nxE (edS 0 l) i∧i≠nxE (edS 0 l) k):=by
 obtain ⟨c,t,p,g1,ht,e1,r1,w1⟩:=dec_at' l i hi
 obtain ⟨d,u,q,g2,hu,e2,r2,w2⟩:=dec_at' l k hk
 have hple:p.length≤sumlen l:=by
  have:=sumlen_take_succ g1
  have:=sumlen_take_le l (c+1)
  omega
 have n1:nxE (edS 0 l) i=sumlen (l.take c)+(t+1)%p.length:=by unfold nxE; rw [w1]; unfold mkE; dsimp only; omega
 have n2:nxE (edS 0 l) k=sumlen (l.take d)+(u+1)%q.length:=by unfold nxE; rw [w2]; unfold mkE; dsimp only; omega
 have m1:(t+1)%p.length<p.length:=Nat.mod_lt _ (by omega)
 have m2:(u+1)%q.length<q.length:=Nat.mod_lt _ (by omega)
 have t1:Int.tmod (((t:Nat):Int)+1) (p.length:Int)=(((t+1)%p.length:Nat):Int):=by
  rw [show ((t:Int)+1)=((t+1:Nat):Int) from by omega,Int.ofNat_tmod]
 have t2:Int.tmod (((u:Nat):Int)+1) (q.length:Int)=(((u+1)%q.length:Nat):Int):=by
  rw [show ((u:Int)+1)=((u+1:Nat):Int) from by omega,Int.ofNat_tmod]
 rw [r1,r2,n1,n2]
 unfold mkR
 dsimp only
 refine ⟨p,by rw [get_nat,g1],by omega,hple,by omega,by omega,fun hcd=>?_,fun hcd=>?_⟩
 ·
  have:c=d:=by omega
  subst this
  rw [g1] at g2
  obtain rfl:=Option.some.inj g2
  rw [t1,t2,e1,e2]
  refine ⟨⟨by omega,by omega⟩,⟨fun h=>by omega,fun h=>by omega⟩,⟨fun h=>by omega,fun h=>by omega⟩⟩
 ·
  rcases Nat.lt_trichotomy c d with h | h | h
  ·
   have:=take_mono g1 h
   exact ⟨by omega,by omega⟩
  · exact absurd (by rw [h]) hcd
  ·
   have:=take_mono g2 h
   exact ⟨by omega,by omega⟩
open Classical in
theorem radj_eq {l:List (List Pt)} {i k:Nat} (hi:i<sumlen l) (hk:k<sumlen l) (hN:sumlen l≤1000000000) (n:Nat):
  F.ref46_adjacent n l (rAt l i).1 (rAt l i).2.1 (rAt l i).2.2.1.1 (rAt l i).2.2.1.2.1 (rAt l i).2.2.1.2.2 (rAt l i).2.2.2.1 (rAt l i).2.2.2.2.1 (rAt l i).2.2.2.2.2 (rAt l k).1 (rAt l k).2.1 (rAt l k).2.2.1.1 (rAt l k).2.2.1.2.1 (rAt l k).2.2.1.2.2 (rAt l k).2.2.2.1 (rAt l k).2.2.2.2.1 (rAt l k).2.2.2.2.2=some (decide (k=nxE (edS 0 l) i∨i=nxE (edS 0 l) k)):=by
 obtain ⟨p,h1,h2,h3,h4,h5,h6,h7⟩:=rnext hi hk
 unfold F.ref46_adjacent
 rw [h1,bB]
 by_cases hc:(rAt l i).1=(rAt l k).1
 ·
  obtain ⟨⟨b1,b2⟩,b3,b4⟩:=h6 hc
  rw [dT hc,kT,chk_ok (by omega) (by omega),bB,nz_ok (by omega),bB]
  by_cases q:Int.tmod ((rAt l i).2.1+1) (p.length:Int)=(rAt l k).2.1
  · rw [dT q,kT,dT (.inl (b3.1 q))]
  ·
   rw [dF q,kF,chk_ok (by omega) (by omega),bB,bB]
   refine congrArg some (decide_eq_decide.mpr ⟨fun w=>.inr (b4.1 w),fun w=>?_⟩)
   rcases w with w | w
   · exact absurd (b3.2 w) q
   · exact b4.2 w
 ·
  obtain ⟨c1,c2⟩:=h7 hc
  rw [dF hc,kF,dF (by rintro (w | w); exact c1 w; exact c2 w)]
theorem decB {p:Prop} [Decidable p] {α:Type} (a b:α):cond (decide p) a b=if p then a else b:=by
 by_cases h:p
 · rw [dT h,if_pos h]; rfl
 · rw [dF h,if_neg h]; rfl
theorem scan_false {S E:Type} {body:S→Option (S⊕(E⊕Bool))} (st:Nat→S) (m:Nat) (p:Nat→Prop) [∀k,Decidable (p k)] {e:E}
  (h: ∀k,k<m→body (st k)=some (if p k then .inr (.inr false) else .inl (st (k+1))))
  (he:body (st m)=some (.inr (.inl e))) (n:Nat) (hn:m<n) [Decidable (∃k,k<m∧p k)]:
  loopN n body (st 0)=some (if∃k,k<m∧p k then .inr false else .inl e):=by
 have hs:=scan_loop (body:=body) st m (fun k=>if p k then some false else none) (e:=e) (fun k hk=>by
  rw [h k hk]
  by_cases q:p k
  · rw [if_pos q,if_pos q]
  · rw [if_neg q,if_neg q]) he n hn
 refine hs.trans ?_
 by_cases q: ∃k,k<m∧p k
 ·
  obtain ⟨k,hk,hp⟩:=q
  rw [if_pos ⟨k,hk,hp⟩,findSome_one (q:=false) (k:=k) (fun k q' h=>by
   by_cases hc:p k
   · rw [if_pos hc] at h; exact (Option.some.inj h).symm
   · rw [if_neg hc] at h; cases h) hk (by rw [if_pos hp]; simp)]
 · rw [if_neg q,findSome_none fun k hk=>if_neg fun hp=>q ⟨k,hk,hp⟩]
section
variable {l : List (List Pt)} (hv : Vd l)
include hv
omit hv in
theorem rcross_eq {i k:Nat} (hi:i<sumlen l) (hk:k<sumlen l) (n:Nat):F.ref46_Cross n (rAt l i).2.2.1.1 (rAt l i).2.2.1.2.1 (rAt l i).2.2.1.2.2 (rAt l i).2.2.2.1 (rAt l i).2.2.2.2.1 (rAt l i).2.2.2.2.2 (rAt l k).2.2.1.1 (rAt l k).2.2.1.2.1 (rAt l k).2.2.1.2.2 (rAt l k).2.2.2.1 (rAt l k).2.2.2.2.1 (rAt l k).2.2.2.2.2=some (cr (eAt (edS 0 l) i).1 (eAt (edS 0 l) i).2.1 (eAt (edS 0 l) k).1 (eAt (edS 0 l) k).2.1):=by
 rw [(rAt_ends hi).1,(rAt_ends hi).2,(rAt_ends hk).1,(rAt_ends hk).2]
 exact crossR_eq _ _ _ _ n
theorem fitE:FitE (edS 0 l):=(pj_of hv).fit
theorem fitR {i:Nat} (hi:i<sumlen l):Fit (eAt (edS 0 l) i).1∧Fit (eAt (edS 0 l) i).2.1:=(fitE hv).at (by rw [edS_len]; exact hi)
theorem ron_eq {i k:Nat} (hi:i<sumlen l) (hk:k<sumlen l) (n:Nat):F.ref46_on n (rAt l k).2.2.1.1 (rAt l k).2.2.1.2.1 (rAt l k).2.2.1.2.2 (rAt l i).2.2.1.1 (rAt l i).2.2.1.2.1 (rAt l i).2.2.1.2.2 (rAt l i).2.2.2.1 (rAt l i).2.2.2.2.1 (rAt l i).2.2.2.2.2=some (decide (On (eAt (edS 0 l) i).1 (eAt (edS 0 l) i).2.1 (eAt (edS 0 l) k).1)):=by
 rw [(rAt_ends hi).1,(rAt_ends hi).2,(rAt_ends hk).1]
 exact onR_eq (fitR hv hi).1 (fitR hv hi).2 (fitR hv hk).1 n
omit hv in
theorem rflat_eq {i k:Nat} (hi:i<sumlen l) (hk:k<sumlen l) (n:Nat):F.ref46_flat n (rAt l i).2.2.1.1 (rAt l i).2.2.1.2.1 (rAt l i).2.2.1.2.2 (rAt l k).2.2.1.1 (rAt l k).2.2.1.2.1 (rAt l k).2.2.1.2.2=some (decide (Flat (eAt (edS 0 l) i).1 (eAt (edS 0 l) k).1)):=by
 rw [(rAt_ends hi).1,(rAt_ends hk).1]
 unfold F.ref46_flat Flat
 exact conds
theorem rat_eq {i k:Nat} (hi:i<sumlen l) (hk:k<sumlen l) (h:Opp (T (eAt (edS 0 l) k).1 (eAt (edS 0 l) k).2.1 (eAt (edS 0 l) i).1) (T (eAt (edS 0 l) k).1 (eAt (edS 0 l) k).2.1 (eAt (edS 0 l) i).2.1)) (n:Nat):
  F.ref46_at n (rAt l i).1 (rAt l i).2.1 (rAt l i).2.2.1.1 (rAt l i).2.2.1.2.1 (rAt l i).2.2.1.2.2 (rAt l i).2.2.2.1 (rAt l i).2.2.2.2.1 (rAt l i).2.2.2.2.2 (rAt l k).1 (rAt l k).2.1 (rAt l k).2.2.1.1 (rAt l k).2.2.1.2.1 (rAt l k).2.2.1.2.2 (rAt l k).2.2.2.1 (rAt l k).2.2.2.2.1 (rAt l k).2.2.2.2.2=some (prt (eAt (edS 0 l) i) (eAt (edS 0 l) k),whl (eAt (edS 0 l) i) (eAt (edS 0 l) k)):=by
 rw [(rAt_ends hi).1,(rAt_ends hi).2,(rAt_ends hk).1,(rAt_ends hk).2]
 obtain ⟨f1,f2⟩:=fitR hv hi
 obtain ⟨g1,g2⟩:=fitR hv hk
 have t1:=T_rng g1 g2 f1
 have t2:=T_rng g1 g2 f2
 unfold F.ref46_at
 rw [turnR_eq g1 g2 f1,bB,turnR_eq g1 g2 f2,bB,chk_ok (by omega) (by omega),bB]
 unfold prt whl
 generalize T (eAt (edS 0 l) k).1 (eAt (edS 0 l) k).2.1 (eAt (edS 0 l) i).1=p at*
 generalize T (eAt (edS 0 l) k).1 (eAt (edS 0 l) k).2.1 (eAt (edS 0 l) i).2.1=q at*
 unfold Opp at h
 by_cases c:p-q<0
 ·
  rw [dT c,kT,chk_ok (by omega) (by omega),bB,chk_ok (by omega) (by omega),bB]
  refine congrArg some (Prod.ext ?_ ?_)<;>dsimp only<;>omega
 ·
  rw [dF c,kF,bB]
  refine congrArg some (Prod.ext ?_ ?_)<;>dsimp only<;>omega
theorem vlen:sumlen l≤1000:=by have:=hv.2; omega
theorem radj {i k:Nat} (hi:i<sumlen l) (hk:k<sumlen l) (n:Nat):
  F.ref46_adjacent n l (rAt l i).1 (rAt l i).2.1 (rAt l i).2.2.1.1 (rAt l i).2.2.1.2.1 (rAt l i).2.2.1.2.2 (rAt l i).2.2.2.1 (rAt l i).2.2.2.2.1 (rAt l i).2.2.2.2.2 (rAt l k).1 (rAt l k).2.1 (rAt l k).2.2.1.1 (rAt l k).2.2.1.2.1 (rAt l k).2.2.1.2.2 (rAt l k).2.2.2.1 (rAt l k).2.2.2.2.1 (rAt l k).2.2.2.2.2=some (decide (Adj (eAt (edS 0 l) i) (eAt (edS 0 l) k))):=by
 have hb:=vlen hv
 rw [radj_eq hi hk (by omega)]
 refine congrArg some (decide_eq_decide.mpr ?_)
 rw [(pj_of hv).rg.adj (by rw [edS_len]; exact hi) (by rw [edS_len]; exact hk)]
theorem rcrs_eq {i:Nat} (hi:i<sumlen l) (n:Nat) (hn:1000<n):F.ref46_crossers n l (rE 0 l) (i:Int)=some ((ps (edS 0 l) i (sumlen l)).map (·.1)):=by
 have hb:=vlen hv
 unfold F.ref46_crossers
 have hc:loopN n (F.ref46_crossers_b0 n l (rE 0 l) (i:Int)) (([]:List Int),(0:Int))=some ((ps (edS 0 l) i (sumlen l)).map (·.1),(sumlen l:Int)):=by
  refine count_loop (fun k:Nat=>((ps (edS 0 l) i k).map (·.1),(k:Int))) (sumlen l) (fun k hk=>?_) ?_ n (by omega)
  ·
   have hle:=ps_le (edS 0 l) i k
   have hps:ps (edS 0 l) i (k+1)=ps (edS 0 l) i k++(psg (edS 0 l) i k).toList:=by
    unfold ps
    rw [List.range_succ,List.filterMap_append]
    congr 1
   unfold F.ref46_crossers_b0
   dsimp only
   rw [rE_len,dT (by omega),kT,hps]
   have j1: ∀b,F.ref46_crossers_j1 n (rE 0 l) (i:Int) ((ps (edS 0 l) i k).map (·.1)) (k:Int) b=some (.inl ((ps (edS 0 l) i k).map (·.1)++(if b=true∧(cr (eAt (edS 0 l) i).1 (eAt (edS 0 l) i).2.1 (eAt (edS 0 l) k).1 (eAt (edS 0 l) k).2.1).1=1 then [(k:Int)] else []),((k+1:Nat):Int))):=by
    intro b
    unfold F.ref46_crossers_j1
    cases b with
    | false=>
     rw [kF,chk_ok (by omega) (by omega),bB,if_neg (by simp),List.append_nil]; rfl
    | true=>
     rw [kT,get_rAt hi,bB,bB,get_rAt hk,bB,bB,rcross_eq hi hk,bB]
     by_cases c:(cr (eAt (edS 0 l) i).1 (eAt (edS 0 l) i).2.1 (eAt (edS 0 l) k).1 (eAt (edS 0 l) k).2.1).1=1
     · rw [dT c,kT,if_pos ⟨rfl,c⟩,lim_ok (by rw [List.length_map]; simp; omega),bB,chk_ok (by omega) (by omega),bB]; rfl
     · rw [dF c,kF,if_neg (fun q=>c q.2),chk_ok (by omega) (by omega),bB,List.append_nil]; rfl
   by_cases hki:k=i
   ·
    subst hki
    rw [dT rfl,Bool.not_true,kF,j1,if_neg (by simp)]
    have:psg (edS 0 l) k k=none:=by unfold psg; rw [if_pos (.inl rfl)]
    rw [this]
    simp
   ·
    rw [dF (by omega),Bool.not_false,kT,get_rAt hi,bB,get_rAt hk,bB,radj hv hi hk,bB,j1]
    by_cases ha:Adj (eAt (edS 0 l) i) (eAt (edS 0 l) k)
    ·
     have:psg (edS 0 l) i k=none:=by unfold psg; rw [if_pos (.inr ha)]
     rw [dT ha,this]
     simp
    ·
     by_cases c:(cr (eAt (edS 0 l) i).1 (eAt (edS 0 l) i).2.1 (eAt (edS 0 l) k).1 (eAt (edS 0 l) k).2.1).1=1
     ·
      have:psg (edS 0 l) i k=some ((k:Int),(cr (eAt (edS 0 l) i).1 (eAt (edS 0 l) i).2.1 (eAt (edS 0 l) k).1 (eAt (edS 0 l) k).2.1).2):=psg_some.2 ⟨rfl,hki,ha,c,rfl⟩
      rw [dF ha,this,if_pos ⟨rfl,c⟩]
      simp
     ·
      have:psg (edS 0 l) i k=none:=by
       cases h:psg (edS 0 l) i k with
       | none=>rfl
       | some x=>exact absurd (psg_some.1 h).2.2.2.1 c
      rw [dF ha,this,if_neg (fun q=>c q.2)]
      simp
  ·
   unfold F.ref46_crossers_b0
   dsimp only
   rw [rE_len,dF (by omega),kF]
 rw [hc,bB]
end
theorem tie_ps {es:List Ed} (hF:FitE es) (hN:es.length≤1000000000) {i:Nat} (hi:i<es.length): ¬tie es i↔(ps es i es.length).Pairwise fun x y=>cmpS es i x y≠0:=by
 have sym: ∀{x y:Int×Bool},cmpS es i x y≠0→cmpS es i y x≠0:=fun {x y} h=>by unfold cmpS at *; omega
 rw [←(srt_perm hF hN hi).pairwise_iff (R:=fun x y=>cmpS es i x y≠0) sym]
 constructor
 ·
  intro h
  exact (srt_strict hF hN hi h).imp fun {a b} q=>by omega
 ·
  rintro h ⟨k,h1,h2,h3⟩
  have:=List.pairwise_iff_getElem.1 h (k-1) k (by omega) h2 (by omega)
  rw [getD_of' h2,getD_of' (show k-1<(srt es i).length by omega)] at h3
  exact this h3
section
variable {l : List (List Pt)} (hv : Vd l)
include hv
theorem psR {i:Nat} (hi:i<sumlen l) {a:Nat} (ha:a<(ps (edS 0 l) i (sumlen l)).length): ∃k,k<sumlen l∧((ps (edS 0 l) i (sumlen l))[a]).1=(k:Int)∧∀n,F.ref46_at n (rAt l i).1 (rAt l i).2.1 (rAt l i).2.2.1.1 (rAt l i).2.2.1.2.1 (rAt l i).2.2.1.2.2 (rAt l i).2.2.2.1 (rAt l i).2.2.2.2.1 (rAt l i).2.2.2.2.2 (rAt l k).1 (rAt l k).2.1 (rAt l k).2.2.1.1 (rAt l k).2.2.1.2.1 (rAt l k).2.2.1.2.2 (rAt l k).2.2.2.1 (rAt l k).2.2.2.2.1 (rAt l k).2.2.2.2.2=some (prt (eAt (edS 0 l) i) (eAt (edS 0 l) k),whl (eAt (edS 0 l) i) (eAt (edS 0 l) k)):=by
 obtain ⟨k,hk,h⟩:=mem_ps.1 (List.getElem_mem ha)
 obtain ⟨e,_,_,h4,_⟩:=psg_some.1 h
 exact ⟨k,hk,e,fun n=>rat_eq hv hi hk (cr_one h4).2 n⟩
theorem rtie_in {i v:Nat} (hi:i<sumlen l) (hv':v<(ps (edS 0 l) i (sumlen l)).length) (n:Nat) (hn:1000<n) [Decidable (∃u,u<v∧cmpS (edS 0 l) i ((ps (edS 0 l) i (sumlen l)).getD v (0,false)) ((ps (edS 0 l) i (sumlen l)).getD u (0,false))=0)]:
  loopN n (F.ref46_Generic_b6 n (rE 0 l) (i:Int) ((ps (edS 0 l) i (sumlen l)).map (·.1)) (v:Int)) 0=some (if∃u,u<v∧cmpS (edS 0 l) i ((ps (edS 0 l) i (sumlen l)).getD v (0,false)) ((ps (edS 0 l) i (sumlen l)).getD u (0,false))=0 then .inr false else .inl (v:Int)):=by
 have hb:=vlen hv
 have hle:=ps_le (edS 0 l) i (sumlen l)
 refine scan_false (fun u:Nat=>(u:Int)) v (fun u=>cmpS (edS 0 l) i ((ps (edS 0 l) i (sumlen l)).getD v (0,false)) ((ps (edS 0 l) i (sumlen l)).getD u (0,false))=0) (fun u hu=>?_) ?_ n (by omega)
 ·
  have hu':u<(ps (edS 0 l) i (sumlen l)).length:=by omega
  obtain ⟨k,hk,e1,a1⟩:=psR hv hi hv'
  obtain ⟨m,hm,e2,a2⟩:=psR hv hi hu'
  have he:=fitR hv hi
  have r1:=prt_rng he (fitR hv hk)
  have r2:=prt_rng he (fitR hv hm)
  have m1:=mulb (A:=8000000) (B:=16000000) (x:=prt (eAt (edS 0 l) i) (eAt (edS 0 l) k)) (y:=whl (eAt (edS 0 l) i) (eAt (edS 0 l) m)) (by omega) (by omega) (by omega) (by omega)
  have m2:=mulb (A:=8000000) (B:=16000000) (x:=prt (eAt (edS 0 l) i) (eAt (edS 0 l) m)) (y:=whl (eAt (edS 0 l) i) (eAt (edS 0 l) k)) (by omega) (by omega) (by omega) (by omega)
  unfold F.ref46_Generic_b6
  dsimp only
  have g1:Ev.get ((ps (edS 0 l) i (sumlen l)).map (·.1)) (v:Int)=some (k:Int):=by rw [get_nat,List.getElem?_map,gE hv',Option.map_some,e1]
  have g2:Ev.get ((ps (edS 0 l) i (sumlen l)).map (·.1)) (u:Int)=some (m:Int):=by rw [get_nat,List.getElem?_map,gE hu',Option.map_some,e2]
  rw [dT (by omega),kT,get_rAt hi,bB,g1,bB,get_rAt hk,bB,a1,bB,bB,g2,bB,get_rAt hm,bB,a2,bB,chk_ok (by dsimp only; omega) (by dsimp only; omega),bB,chk_ok (by dsimp only; omega) (by dsimp only; omega),bB,decB]
  have hc:cmpS (edS 0 l) i ((ps (edS 0 l) i (sumlen l)).getD v (0,false)) ((ps (edS 0 l) i (sumlen l)).getD u (0,false))=prt (eAt (edS 0 l) i) (eAt (edS 0 l) k)*whl (eAt (edS 0 l) i) (eAt (edS 0 l) m)-prt (eAt (edS 0 l) i) (eAt (edS 0 l) m)*whl (eAt (edS 0 l) i) (eAt (edS 0 l) k):=by
   rw [getD_of' hv',getD_of' hu']
   unfold cmpS
   rw [e1,e2,Int.toNat_natCast,Int.toNat_natCast]
  rw [hc]
  dsimp only
  by_cases q:prt (eAt (edS 0 l) i) (eAt (edS 0 l) k)*whl (eAt (edS 0 l) i) (eAt (edS 0 l) m)=prt (eAt (edS 0 l) i) (eAt (edS 0 l) m)*whl (eAt (edS 0 l) i) (eAt (edS 0 l) k)
  · rw [if_pos q,if_pos (by omega)]
  · rw [if_neg q,if_neg (by omega),chk_ok (by omega) (by omega)]; rfl
 ·
  unfold F.ref46_Generic_b6
  dsimp only
  rw [dF (by omega),kF]
open Classical in
theorem rtie_eq {i:Nat} (hi:i<sumlen l) (n:Nat) (hn:1000<n):loopN n (F.ref46_Generic_b5 n (rE 0 l) (i:Int) ((ps (edS 0 l) i (sumlen l)).map (·.1))) 0=some (if tie (edS 0 l) i then .inr false else .inl (((ps (edS 0 l) i (sumlen l)).length:Nat):Int)):=by
 have hb:=vlen hv
 have hle:=ps_le (edS 0 l) i (sumlen l)
 have hs:=scan_false (body:=F.ref46_Generic_b5 n (rE 0 l) (i:Int) ((ps (edS 0 l) i (sumlen l)).map (·.1))) (fun u:Nat=>(u:Int)) (ps (edS 0 l) i (sumlen l)).length (fun v=> ∃u,u<v∧cmpS (edS 0 l) i ((ps (edS 0 l) i (sumlen l)).getD v (0,false)) ((ps (edS 0 l) i (sumlen l)).getD u (0,false))=0) (e:=(((ps (edS 0 l) i (sumlen l)).length:Nat):Int)) (fun v hv'=>by
  unfold F.ref46_Generic_b5
  dsimp only
  rw [List.length_map,dT (by omega),kT,rtie_in hv hi hv' n hn,bB]
  by_cases q: ∃u,u<v∧cmpS (edS 0 l) i ((ps (edS 0 l) i (sumlen l)).getD v (0,false)) ((ps (edS 0 l) i (sumlen l)).getD u (0,false))=0
  · rw [if_pos q,if_pos q]
  ·
   rw [if_neg q,if_neg q]
   dsimp only
   rw [chk_ok (by omega) (by omega)]; rfl) (by
  unfold F.ref46_Generic_b5
  dsimp only
  rw [List.length_map,dF (by omega),kF]) n (by omega)
 refine hs.trans ?_
 have hN:(edS 0 l).length=sumlen l:=edS_len 0 l
 have ht:=tie_ps (fitE hv) (by rw [hN]; omega) (show i<(edS 0 l).length by rw [hN]; exact hi)
 rw [hN] at ht
 have hiff:(∃v,v<(ps (edS 0 l) i (sumlen l)).length∧∃u,u<v∧cmpS (edS 0 l) i ((ps (edS 0 l) i (sumlen l)).getD v (0,false)) ((ps (edS 0 l) i (sumlen l)).getD u (0,false))=0)↔tie (edS 0 l) i:=by
  constructor
  ·
   rintro ⟨v,h1,u,h2,h3⟩
   apply Classical.byContradiction
   intro hc
   have:=List.pairwise_iff_getElem.1 (ht.1 hc) u v (by omega) h1 h2
   rw [getD_of' h1,getD_of' (show u<(ps (edS 0 l) i (sumlen l)).length by omega)] at h3
   apply this
   unfold cmpS at h3⊢
   omega
  ·
   intro h
   apply Classical.byContradiction
   intro hc
   refine (ht.2 ?_) h
   rw [List.pairwise_iff_getElem]
   intro u v hu hv' huv e
   refine hc ⟨v,hv',u,huv,?_⟩
   rw [getD_of' hv',getD_of' hu]
   unfold cmpS at e⊢
   omega
 by_cases q:tie (edS 0 l) i
 · rw [if_pos (hiff.2 q),if_pos q]
 · rw [if_neg (fun w=>q (hiff.1 w)),if_neg q]
theorem rj3_eq {i k:Nat} (hi:i<sumlen l) (hk:k<sumlen l) (n:Nat) (b:Bool):F.ref46_Generic_j3 n l (rE 0 l) (i:Int) (k:Int) b=some (if¬Adj (eAt (edS 0 l) i) (eAt (edS 0 l) k)∧(cr (eAt (edS 0 l) i).1 (eAt (edS 0 l) i).2.1 (eAt (edS 0 l) k).1 (eAt (edS 0 l) k).2.1).1=2 then .inr (.inr false) else .inl ((k+1:Nat):Int)):=by
 have hb:=vlen hv
 unfold F.ref46_Generic_j3
 rw [get_rAt hi,bB,get_rAt hk,bB,radj hv hi hk,bB]
 by_cases a:Adj (eAt (edS 0 l) i) (eAt (edS 0 l) k)
 · rw [dT a,Bool.not_true,kF,if_neg (fun q=>q.1 a),chk_ok (by omega) (by omega)]; rfl
 ·
  rw [dF a,Bool.not_false,kT,bB,bB,bB,bB,rcross_eq hi hk,bB]
  by_cases c:(cr (eAt (edS 0 l) i).1 (eAt (edS 0 l) i).2.1 (eAt (edS 0 l) k).1 (eAt (edS 0 l) k).2.1).1=2
  · rw [dT c,kT,if_pos ⟨a,c⟩]
  · rw [dF c,kF,if_neg (fun q=>c q.2),chk_ok (by omega) (by omega)]; rfl
theorem rj2_eq {i k:Nat} (hi:i<sumlen l) (hk:k<sumlen l) (n:Nat) (b:Bool):F.ref46_Generic_j2 n l (rE 0 l) (i:Int) (k:Int) b=some (if (b=false∧On (eAt (edS 0 l) i).1 (eAt (edS 0 l) i).2.1 (eAt (edS 0 l) k).1)∨(¬Adj (eAt (edS 0 l) i) (eAt (edS 0 l) k)∧(cr (eAt (edS 0 l) i).1 (eAt (edS 0 l) i).2.1 (eAt (edS 0 l) k).1 (eAt (edS 0 l) k).2.1).1=2) then .inr (.inr false) else .inl ((k+1:Nat):Int)):=by
 unfold F.ref46_Generic_j2
 cases b with
 | true=>
  rw [Bool.not_true,kF,rj3_eq hv hi hk]
  by_cases c: ¬Adj (eAt (edS 0 l) i) (eAt (edS 0 l) k)∧(cr (eAt (edS 0 l) i).1 (eAt (edS 0 l) i).2.1 (eAt (edS 0 l) k).1 (eAt (edS 0 l) k).2.1).1=2
  · rw [if_pos c,if_pos (.inr c)]
  · rw [if_neg c,if_neg (by rintro (q | q); exact absurd q.1 (by decide); exact c q)]
 | false=>
  rw [Bool.not_false,kT,get_rAt hk,bB,get_rAt hi,bB,bB,ron_eq hv hi hk,bB]
  by_cases o:On (eAt (edS 0 l) i).1 (eAt (edS 0 l) i).2.1 (eAt (edS 0 l) k).1
  · rw [dT o,kT,if_pos (.inl ⟨rfl,o⟩)]
  ·
   rw [dF o,kF,rj3_eq hv hi hk]
   by_cases c: ¬Adj (eAt (edS 0 l) i) (eAt (edS 0 l) k)∧(cr (eAt (edS 0 l) i).1 (eAt (edS 0 l) i).2.1 (eAt (edS 0 l) k).1 (eAt (edS 0 l) k).2.1).1=2
   · rw [if_pos c,if_pos (.inr c)]
   · rw [if_neg c,if_neg (by rintro (q | q); exact o q.2; exact c q)]
theorem rb1_eq {i k:Nat} (hi:i<sumlen l) (hk:k<sumlen l) (n:Nat):F.ref46_Generic_b1 n l (rE 0 l) (i:Int) (k:Int)=some (if k≠i∧BadP (eAt (edS 0 l) i) (eAt (edS 0 l) k) then .inr (.inr false) else .inl ((k+1:Nat):Int)):=by
 have hb:=vlen hv
 have R:=(pj_of hv).rg
 have hN:(edS 0 l).length=sumlen l:=edS_len 0 l
 unfold F.ref46_Generic_b1
 dsimp only
 rw [rE_len,dT (by omega),kT]
 by_cases e:k=i
 · rw [dT (by omega),kT,if_neg (fun q=>q.1 e),chk_ok (by omega) (by omega)]; rfl
 rw [dF (by omega),kF,get_rAt hi,bB,get_rAt hk,bB,rflat_eq hi hk,bB]
 by_cases f:Flat (eAt (edS 0 l) i).1 (eAt (edS 0 l) k).1
 · rw [dT f,kT,if_pos ⟨e,.inl f⟩]
 rw [dF f,kF,bB,bB]
 obtain ⟨p,h1,h2,h3,h4,h5,h6,h7⟩:=rnext hi hk
 have hnx:(eAt (edS 0 l) k).2.2.1≠(eAt (edS 0 l) i).2.2.2↔k≠nxE (edS 0 l) i:=by
  rw [R.fst k (by omega),R.lst i (by omega)]
  omega
 have fin: ∀b:Bool,(b=false↔k≠nxE (edS 0 l) i)→F.ref46_Generic_j2 n l (rE 0 l) (i:Int) (k:Int) b=some (if k≠i∧BadP (eAt (edS 0 l) i) (eAt (edS 0 l) k) then .inr (.inr false) else .inl ((k+1:Nat):Int)):=by
  intro b hb'
  rw [rj2_eq hv hi hk]
  by_cases q:(b=false∧On (eAt (edS 0 l) i).1 (eAt (edS 0 l) i).2.1 (eAt (edS 0 l) k).1)∨(¬Adj (eAt (edS 0 l) i) (eAt (edS 0 l) k)∧(cr (eAt (edS 0 l) i).1 (eAt (edS 0 l) i).2.1 (eAt (edS 0 l) k).1 (eAt (edS 0 l) k).2.1).1=2)
  ·
   have hbad:BadP (eAt (edS 0 l) i) (eAt (edS 0 l) k):=by
    rcases q with q | q
    · exact .inr (.inl ⟨hnx.2 (hb'.1 q.1),q.2⟩)
    · exact .inr (.inr q)
   rw [if_pos q,if_pos ⟨e,hbad⟩]
  ·
   have hbad: ¬(k≠i∧BadP (eAt (edS 0 l) i) (eAt (edS 0 l) k)):=by
    rintro ⟨_,w | w | w⟩
    · exact f w
    · exact q (.inl ⟨hb'.2 (hnx.1 w.1),w.2⟩)
    · exact q (.inr w)
   rw [if_neg q,if_neg hbad]
 by_cases c:(rAt l i).1=(rAt l k).1
 ·
  obtain ⟨⟨b1,b2⟩,b3,b4⟩:=h6 c
  rw [dT c,kT,bB,chk_ok (by omega) (by omega),bB,bB,h1,bB,nz_ok (by omega),bB,bB]
  refine fin _ ?_
  rw [decide_eq_false_iff_not,b3]
 ·
  rw [dF c,kF]
  exact fin false ⟨fun _=>(h7 c).1,fun _=>rfl⟩
open Classical in
theorem rgen_eq (n:Nat) (hl:l.length≤1000000) (hn:1000000<n):F.ref46_Generic n l=some (decide (GenE (edS 0 l))):=by
 have hb:=vlen hv
 have hN:(edS 0 l).length=sumlen l:=edS_len 0 l
 unfold F.ref46_Generic
 rw [redges_eq l n (by omega) (by omega) (by omega) (by omega),bB]
 have s1: ∀i,i<sumlen l→loopN n (F.ref46_Generic_b1 n l (rE 0 l) (i:Int)) 0=some (if∃k,k<sumlen l∧k≠i∧BadP (eAt (edS 0 l) i) (eAt (edS 0 l) k) then .inr false else .inl (sumlen l:Int)):=fun i (hi:i<sumlen l)=>scan_false (body:=F.ref46_Generic_b1 n l (rE 0 l) (i:Int)) (fun k:Nat=>(k:Int)) (sumlen l) (fun k=>k≠i∧BadP (eAt (edS 0 l) i) (eAt (edS 0 l) k)) (e:=(sumlen l:Int)) (fun k hk=>rb1_eq hv hi hk n) (by
  unfold F.ref46_Generic_b1
  dsimp only
  rw [rE_len,dF (by omega),kF]) n (by omega)
 have s0:loopN n (F.ref46_Generic_b0 n l (rE 0 l)) 0=some (if∃i,i<sumlen l∧∃k,k<sumlen l∧k≠i∧BadP (eAt (edS 0 l) i) (eAt (edS 0 l) k) then .inr false else .inl (sumlen l:Int)):=scan_false (body:=F.ref46_Generic_b0 n l (rE 0 l)) (fun k:Nat=>(k:Int)) (sumlen l) (fun i=> ∃k,k<sumlen l∧k≠i∧BadP (eAt (edS 0 l) i) (eAt (edS 0 l) k)) (e:=(sumlen l:Int)) (fun i hi=>by
  unfold F.ref46_Generic_b0
  dsimp only
  rw [rE_len,dT (by omega),kT,s1 i hi,bB]
  by_cases q: ∃k,k<sumlen l∧k≠i∧BadP (eAt (edS 0 l) i) (eAt (edS 0 l) k)
  · rw [if_pos q,if_pos q]
  ·
   rw [if_neg q,if_neg q]
   dsimp only
   rw [chk_ok (by omega) (by omega)]; rfl) (by
  unfold F.ref46_Generic_b0
  dsimp only
  rw [rE_len,dF (by omega),kF]) n (by omega)
 have s4:loopN n (F.ref46_Generic_b4 n l (rE 0 l)) 0=some (if∃i,i<sumlen l∧tie (edS 0 l) i then .inr false else .inl (sumlen l:Int)):=scan_false (body:=F.ref46_Generic_b4 n l (rE 0 l)) (fun k:Nat=>(k:Int)) (sumlen l) (fun i=>tie (edS 0 l) i) (e:=(sumlen l:Int)) (fun i hi=>by
  unfold F.ref46_Generic_b4
  dsimp only
  rw [rE_len,dT (by omega),kT,rcrs_eq hv hi n (by omega),bB,rtie_eq hv hi n (by omega),bB]
  by_cases q:tie (edS 0 l) i
  · rw [if_pos q,if_pos q]
  ·
   rw [if_neg q,if_neg q]
   dsimp only
   rw [chk_ok (by omega) (by omega)]; rfl) (by
  unfold F.ref46_Generic_b4
  dsimp only
  rw [rE_len,dF (by omega),kF]) n (by omega)
 rw [s0,bB]
 by_cases q: ∃i,i<sumlen l∧∃k,k<sumlen l∧k≠i∧BadP (eAt (edS 0 l) i) (eAt (edS 0 l) k)
 ·
  rw [if_pos q]
  dsimp only
  obtain ⟨i,hi,k,hk,hne,hbad⟩:=q
  rw [dF fun hg=>(hg i (by omega)).1 k (by omega) hne hbad]
 ·
  rw [if_neg q]
  dsimp only
  rw [s4,bB]
  by_cases q4: ∃i,i<sumlen l∧tie (edS 0 l) i
  ·
   rw [if_pos q4]
   dsimp only
   obtain ⟨i,hi,ht⟩:=q4
   rw [dF fun hg=>(hg i (by omega)).2 ht]
  ·
   rw [if_neg q4]
   dsimp only
   rw [dT]
   intro i hi
   exact ⟨fun k hk hne hbad=>q ⟨i,by omega,k,by omega,hne,hbad⟩,fun ht=>q4 ⟨i,by omega,ht⟩⟩
end
theorem frac_lt {p w p' w':Int} (h:0<w) (h':0<w'):p*w'<p'*w↔(p:Rat)/ (w:Rat)<(p':Rat)/ (w':Rat):=by
 have w1:(0:Rat)<(w:Rat):=Rat.intCast_lt_intCast.2 h
 have w2:(0:Rat)<(w':Rat):=Rat.intCast_lt_intCast.2 h'
 have e:p*w'<p'*w↔(p:Rat)*w'<(p':Rat)*w:=by
  rw [←Rat.intCast_mul,←Rat.intCast_mul]
  exact Rat.intCast_lt_intCast.symm
 rw [e]
 generalize (p:Rat)=p at*
 generalize (p':Rat)=p' at*
 generalize (w:Rat)=w at*
 generalize (w':Rat)=w' at*
 have h1:=Rat.inv_pos.2 w1
 have h2:=Rat.inv_pos.2 w2
 have m:=Rat.mul_pos h1 h2
 have u1:w*w⁻¹ =1:=Rat.mul_inv_cancel _ (by grind)
 have u2:w'*w'⁻¹ =1:=Rat.mul_inv_cancel _ (by grind)
 have e2:p/ w=p*w⁻¹ :=by grind
 have e3:p'/ w'=p'*w'⁻¹ :=by grind
 have e1:(p'*w-p*w')*(w⁻¹ *w'⁻¹)=p'*w'⁻¹ - p*w⁻¹ :=by grind
 have e4:(p'*w'⁻¹ - p*w⁻¹)*(w*w')=p'*w-p*w':=by grind
 rw [e2,e3]
 constructor
 ·
  intro q
  have:=Rat.mul_pos (show 0<p'*w-p*w' by grind) m
  grind
 ·
  intro q
  have:=Rat.mul_pos (show 0<p'*w'⁻¹ - p*w⁻¹ by grind) (Rat.mul_pos w1 w2)
  grind
def Pas (l:List (List Pt)) (i:Nat) (a:Int):Prop:= ∃k:Nat,k<sumlen l∧a=(k:Int)∧∃x,psg (edS 0 l) i k=some x
def fS (l:List (List Pt)) (i:Nat) (a:Int):Rat:=shr (edS 0 l) i a.toNat
section
variable {l : List (List Pt)} (hv : Vd l) {i : Nat} (hi : i < sumlen l)
include hv hi
theorem rat_pas {a:Int} (h:Pas l i a): ∃k:Nat,k<sumlen l∧a=(k:Int)∧0<whl (eAt (edS 0 l) i) (eAt (edS 0 l) k)∧fS l i a=(prt (eAt (edS 0 l) i) (eAt (edS 0 l) k):Rat)/ (whl (eAt (edS 0 l) i) (eAt (edS 0 l) k):Rat)∧∀n,F.ref46_at n (rAt l i).1 (rAt l i).2.1 (rAt l i).2.2.1.1 (rAt l i).2.2.1.2.1 (rAt l i).2.2.1.2.2 (rAt l i).2.2.2.1 (rAt l i).2.2.2.2.1 (rAt l i).2.2.2.2.2 (rAt l k).1 (rAt l k).2.1 (rAt l k).2.2.1.1 (rAt l k).2.2.1.2.1 (rAt l k).2.2.1.2.2 (rAt l k).2.2.2.1 (rAt l k).2.2.2.2.1 (rAt l k).2.2.2.2.2=some (prt (eAt (edS 0 l) i) (eAt (edS 0 l) k),whl (eAt (edS 0 l) i) (eAt (edS 0 l) k)):=by
 obtain ⟨k,hk,rfl,x,hx⟩:=h
 have ho:=(cr_one (psg_some.1 hx).2.2.2.1).2
 refine ⟨k,hk,rfl,?_,?_,fun n=>rat_eq hv hi hk ho n⟩
 ·
  unfold Opp at ho
  unfold whl
  omega
 ·
  unfold fS shr
  rw [Int.toNat_natCast]
theorem rsort_step {A C:List Int} {a x:Int} (ha:Pas l i a) (hx:Pas l i x) (hA:A.length≤1000) (n:Nat) [Decidable (fS l i x<fS l i a)]:
  F.ref46_sorted_b1 n (rE 0 l) (i:Int) (((A++[a]).length:Int),A++a::x::C)=some (.inl ((A.length:Int),if fS l i x<fS l i a then A++x::a::C else A++a::x::C)):=by
 have hb:=vlen hv
 obtain ⟨k,hk,e1,w1,f1,a1⟩:=rat_pas hv hi ha
 obtain ⟨m,hm,e2,w2,f2,a2⟩:=rat_pas hv hi hx
 have he:=fitR hv hi
 have r1:=prt_rng he (fitR hv hk)
 have r2:=prt_rng he (fitR hv hm)
 have m1:=mulb (A:=8000000) (B:=16000000) (x:=prt (eAt (edS 0 l) i) (eAt (edS 0 l) k)) (y:=whl (eAt (edS 0 l) i) (eAt (edS 0 l) m)) (by omega) (by omega) (by omega) (by omega)
 have m2:=mulb (A:=8000000) (B:=16000000) (x:=prt (eAt (edS 0 l) i) (eAt (edS 0 l) m)) (y:=whl (eAt (edS 0 l) i) (eAt (edS 0 l) k)) (by omega) (by omega) (by omega) (by omega)
 have gx:Ev.get (A++a::x::C) ((A++[a]).length:Int)=some x:=by
  rw [get_nat,List.getElem?_append_right (by simp),List.length_append,List.length_singleton,Nat.add_sub_cancel_left]
  rfl
 have hl:(((A++[a]).length:Nat):Int)-1=(A.length:Int):=by rw [List.length_append,List.length_singleton]; omega
 have ga:Ev.get (A++a::x::C) (A.length:Int)=some a:=by
  rw [get_nat,List.getElem?_append_right (Nat.le_refl _),Nat.sub_self]
  rfl
 have hs1:(A++a::x::C).set ((A++[a]).length:Int).toNat a=A++a::a::C:=by
  rw [Int.toNat_natCast,List.set_append_right _ _ (by simp),List.length_append,List.length_singleton,Nat.add_sub_cancel_left]
  rfl
 have hs2:(A++a::a::C).set (A.length:Int).toNat x=A++x::a::C:=by
  rw [Int.toNat_natCast,List.set_append_right _ _ (Nat.le_refl _),Nat.sub_self]
  rfl
 have ga2:Ev.get (A++a::a::C) (A.length:Int)=some a:=by
  rw [get_nat,List.getElem?_append_right (Nat.le_refl _),Nat.sub_self]
  rfl
 have hlen:(A++[a]).length=A.length+1:=by simp
 have gm:Ev.get (rE 0 l) x=some (rAt l m):=by rw [e2]; exact get_rAt hm
 have gk:Ev.get (rE 0 l) a=some (rAt l k):=by rw [e1]; exact get_rAt hk
 unfold F.ref46_sorted_b1
 dsimp only
 rw [dT (by omega),kT,get_rAt hi,bB,gx,bB,gm,bB,a2,bB,bB,chk_ok (by omega) (by omega),bB,hl,ga,bB,gk,bB,a1,bB,chk_ok (by dsimp only; omega) (by dsimp only; omega),bB,chk_ok (by dsimp only; omega) (by dsimp only; omega),bB,decB]
 dsimp only
 have hc:prt (eAt (edS 0 l) i) (eAt (edS 0 l) m)*whl (eAt (edS 0 l) i) (eAt (edS 0 l) k)<prt (eAt (edS 0 l) i) (eAt (edS 0 l) k)*whl (eAt (edS 0 l) i) (eAt (edS 0 l) m)↔fS l i x<fS l i a:=by
  rw [f1,f2]
  exact frac_lt w2 w1
 by_cases q:fS l i x<fS l i a
 · rw [if_pos (hc.2 q),if_pos q,bB,bB,ga,bB,bB,bB,hs1,ga2,bB,bB,hs2]
 · rw [if_neg (fun w=>q (hc.1 w)),if_neg q]; rfl
open Classical in
theorem rsort_in (n:Nat): ∀(m:Nat) (A C:List Int) (x:Int) (N:Nat),A.length=m→A.length≤1000→A.length<N→(∀a∈A++[x],Pas l i a)→(∀a∈A,fS l i a≠fS l i x)→A.Pairwise (fun a b=>fS l i a<fS l i b)→
  ∃I,loopN N (F.ref46_sorted_b1 n (rE 0 l) (i:Int)) ((A.length:Int),A++x::C)=some (0,I++C)∧I.Perm (A++[x])∧I.Pairwise (fun a b=>fS l i a<fS l i b):=by
 intro m
 induction m with
 | zero=>
  intro A C x N hA _ hN _ _ _
  have:A=[]:=List.eq_nil_of_length_eq_zero hA
  subst this
  obtain ⟨N,rfl⟩: ∃N',N=N'+1:=⟨N-1,by simp at hN; omega⟩
  refine ⟨[x],?_,List.Perm.refl _,List.pairwise_singleton _ _⟩
  have hb1:F.ref46_sorted_b1 n (rE 0 l) (i:Int) ((([]:List Int).length:Int),[]++x::C)=some (.inr (0,[x]++C)):=by
   unfold F.ref46_sorted_b1
   dsimp only
   rw [dF (by simp),kF]; rfl
  simp only [loopN,hb1,bB]
 | succ m ih=>
  intro A C x N hA hA2 hN hP hne hs
  obtain ⟨A',a,rfl⟩: ∃A' a,A=A'++[a]:=by
   have hne:A≠[]:=by intro e; rw [e] at hA; simp at hA
   exact ⟨A.dropLast,A.getLast hne,(List.dropLast_concat_getLast hne).symm⟩
  obtain ⟨N,rfl⟩: ∃N',N=N'+1:=⟨N-1,by omega⟩
  have hl:(A'++[a]).length=A'.length+1:=by simp
  have e:A'++[a]++x::C=A'++a::x::C:=by simp
  have hst:=rsort_step hv hi (A:=A') (C:=C) (a:=a) (x:=x) (hP a (by simp)) (hP x (by simp)) (by omega) n
  have hsA:=(List.pairwise_append.1 hs).1
  have hsa:=(List.pairwise_append.1 hs).2.2
  rw [e]
  by_cases q:fS l i x<fS l i a
  ·
   rw [if_pos q] at hst
   obtain ⟨I,i1,i2,i3⟩:=ih A' (a::C) x N (by omega) (by omega) (by omega) (fun b hb=>hP b (by
    rcases List.mem_append.1 hb with hb | hb
    · simp [hb]
    · simp at hb; simp [hb])) (fun b hb=>hne b (by simp [hb])) hsA
   refine ⟨I++[a],?_,?_,?_⟩
   ·
    simp only [loopN,hst,bB]
    rw [i1,List.append_assoc]; rfl
   ·
    refine (i2.append_right [a]).trans ?_
    rw [List.append_assoc,List.append_assoc]
    exact List.Perm.append_left A' (List.Perm.swap a x [])
   ·
    refine List.pairwise_append.2 ⟨i3,List.pairwise_singleton _ _,fun b hb c hc=>?_⟩
    rw [List.mem_singleton] at hc
    subst hc
    rcases List.mem_append.1 (i2.mem_iff.1 hb) with hb | hb
    · exact hsa b hb c (by simp)
    ·
     rw [List.mem_singleton] at hb
     subst hb
     exact q
  ·
   rw [if_neg q] at hst
   have hax:fS l i a<fS l i x:=by
    have:=hne a (by simp)
    grind
   obtain ⟨I,i1,i2,i3⟩:=ih A' (x::C) a N (by omega) (by omega) (by omega) (fun b hb=>hP b (by
    rcases List.mem_append.1 hb with hb | hb
    · simp [hb]
    · simp at hb; simp [hb])) (fun b hb e=>by have:=hsa b hb a (by simp); grind) hsA
   refine ⟨I++[x],?_,?_,?_⟩
   ·
    simp only [loopN,hst,bB]
    rw [i1,List.append_assoc]; rfl
   · exact i2.append_right [x]
   ·
    refine List.pairwise_append.2 ⟨i3,List.pairwise_singleton _ _,fun b hb c hc=>?_⟩
    rw [List.mem_singleton] at hc
    subst hc
    rcases List.mem_append.1 (i2.mem_iff.1 hb) with hb | hb
    · have:=hsa b hb a (by simp); grind
    ·
     rw [List.mem_singleton] at hb
     subst hb
     exact hax
theorem rsort_out (n:Nat) (hn:1000<n) {y:List Int} (hy:y.length≤1000) (hP: ∀a∈y,Pas l i a) (hd:y.Pairwise fun a b=>fS l i a≠fS l i b): ∀(m:Nat) (I C:List Int) (N:Nat),m+I.length=y.length→m<N→(I++C).Perm y→I.Pairwise (fun a b=>fS l i a<fS l i b)→
  ∃J,loopN N (F.ref46_sorted_b0 n (rE 0 l) (i:Int) y) ((I.length:Int),I++C)=some ((y.length:Int),J)∧J.Perm y∧J.Pairwise (fun a b=>fS l i a<fS l i b):=by
 intro m
 induction m with
 | zero=>
  intro I C N hl hN hp hs
  obtain ⟨N,rfl⟩: ∃N',N=N'+1:=⟨N-1,by omega⟩
  have hpl:=hp.length_eq
  rw [List.length_append] at hpl
  have:C=[]:=List.eq_nil_of_length_eq_zero (by omega)
  subst this
  rw [List.append_nil] at hp⊢
  refine ⟨I,?_,hp,hs⟩
  have hb0:F.ref46_sorted_b0 n (rE 0 l) (i:Int) y ((I.length:Int),I)=some (.inr ((y.length:Int),I)):=by
   unfold F.ref46_sorted_b0
   dsimp only
   rw [dF (by omega),kF,show I.length=y.length by omega]
  simp only [loopN,hb0,bB]
 | succ m ih=>
  intro I C N hl hN hp hs
  obtain ⟨N,rfl⟩: ∃N',N=N'+1:=⟨N-1,by omega⟩
  have hpl:=hp.length_eq
  rw [List.length_append] at hpl
  obtain ⟨x,C',rfl⟩: ∃x C',C=x::C':=by
   cases C with
   | nil=>simp at hpl; omega
   | cons x C'=>exact ⟨x,C',rfl⟩
  have hall: ∀a∈I++x::C',Pas l i a:=fun a ha=>hP a (hp.mem_iff.1 ha)
  have hdist:(I++x::C').Pairwise fun a b=>fS l i a≠fS l i b:=(hp.pairwise_iff (R:=fun a b=>fS l i a≠fS l i b) (fun h e=>h e.symm)).2 hd
  obtain ⟨J,j1,j2,j3⟩:=rsort_in hv hi n I.length I C' x n rfl (by omega) (by omega) (fun a ha=>hall a (by
   rcases List.mem_append.1 ha with ha | ha
   · simp [ha]
   · simp at ha; simp [ha])) (fun a ha=>(List.pairwise_append.1 hdist).2.2 a ha x (by simp)) hs
  have hJ:=j2.length_eq
  rw [List.length_append,List.length_singleton] at hJ
  have hp2:(J++C').Perm y:=by
   refine List.Perm.trans ?_ hp
   have:=j2.append_right C'
   rwa [List.append_assoc] at this
  obtain ⟨K,k1,k2,k3⟩:=ih J C' N (by omega) (by omega) hp2 j3
  refine ⟨K,?_,k2,k3⟩
  have hb0:F.ref46_sorted_b0 n (rE 0 l) (i:Int) y ((I.length:Int),I++x::C')=some (.inl ((J.length:Int),J++C')):=by
   unfold F.ref46_sorted_b0
   dsimp only
   rw [dT (by omega),kT,j1,bB]
   dsimp only
   rw [chk_ok (by omega) (by omega),bB,hJ]; rfl
  simp only [loopN,hb0,bB]
  exact k1
theorem rsorted_eq (ht: ¬tie (edS 0 l) i) (n:Nat) (hn:1000<n):F.ref46_sorted n l (rE 0 l) (i:Int)=some ((srt (edS 0 l) i).map (·.1)):=by
 have hb:=vlen hv
 have hN:(edS 0 l).length=sumlen l:=edS_len 0 l
 have hi':i<(edS 0 l).length:=by omega
 have hN1:(edS 0 l).length≤1000000000:=by omega
 have hle:=ps_le (edS 0 l) i (sumlen l)
 have hps:=srt_perm (fitE hv) hN1 hi'
 rw [hN] at hps
 have pas: ∀a∈(ps (edS 0 l) i (sumlen l)).map (·.1),Pas l i a:=fun a ha=>by
  obtain ⟨x,hx,rfl⟩:=List.mem_map.1 ha
  obtain ⟨k,hk,h⟩:=mem_ps.1 hx
  exact ⟨k,hk,(psg_some.1 h).1,x,h⟩
 have key: ∀x∈ps (edS 0 l) i (sumlen l),∀y∈ps (edS 0 l) i (sumlen l),(cmpS (edS 0 l) i x y<0↔fS l i x.1<fS l i y.1):=fun x hx y hy=>by
  obtain ⟨k,hk,e1,w1,f1,_⟩:=rat_pas hv hi (pas _ (List.mem_map.2 ⟨x,hx,rfl⟩))
  obtain ⟨m,hm,e2,w2,f2,_⟩:=rat_pas hv hi (pas _ (List.mem_map.2 ⟨y,hy,rfl⟩))
  rw [f1,f2,←frac_lt w1 w2]
  unfold cmpS
  rw [e1,e2,Int.toNat_natCast,Int.toNat_natCast]
  omega
 have hstrict:((srt (edS 0 l) i).map (·.1)).Pairwise fun a b=>fS l i a<fS l i b:=by
  rw [List.pairwise_map]
  exact List.Pairwise.imp_of_mem (fun {a b} ha hb h=>(key a (hps.mem_iff.1 ha) b (hps.mem_iff.1 hb)).1 h) (srt_strict (fitE hv) hN1 hi' ht)
 have hdist:((ps (edS 0 l) i (sumlen l)).map (·.1)).Pairwise fun a b=>fS l i a≠fS l i b:=by
  refine ((hps.map (·.1)).pairwise_iff (R:=fun a b=>fS l i a≠fS l i b) (fun h e=>h e.symm)).1 ?_
  exact hstrict.imp fun {a b} h=>by grind
 unfold F.ref46_sorted
 rw [rcrs_eq hv hi n hn,bB]
 generalize hy:(ps (edS 0 l) i (sumlen l)).map (·.1)=y at*
 have hyl:y.length≤1000:=by rw [←hy,List.length_map]; omega
 have fin: ∀J:List Int,J.Perm y→J.Pairwise (fun a b=>fS l i a<fS l i b)→J=(srt (edS 0 l) i).map (·.1):=fun J j1 j2=>by
  refine sorted_one (S:=fun a b=>fS l i a<fS l i b) (R:=fun a b=>fS l i a<fS l i b) (j1.trans ?_) j2 hstrict fun a _ b _ s r=>by grind
  rw [←hy]
  exact (hps.map (·.1)).symm
 cases y with
 | nil=>
  have hb0:F.ref46_sorted_b0 n (rE 0 l) (i:Int) ([]:List Int) (1,[])=some (.inr (1,[])):=by
   unfold F.ref46_sorted_b0
   dsimp only
   rw [dF (by simp),kF]
  obtain ⟨n,rfl⟩: ∃n',n=n'+1:=⟨n-1,by omega⟩
  simp only [loopN,hb0,bB]
  exact congrArg some (fin [] (List.Perm.refl _) List.Pairwise.nil)
 | cons a C=>
  obtain ⟨J,j1,j2,j3⟩:=rsort_out hv hi n hn hyl pas hdist C.length [a] C n (by simp) (by simp at hyl; omega) (List.Perm.refl _) (List.pairwise_singleton _ _)
  have j1':loopN n (F.ref46_sorted_b0 n (rE 0 l) (i:Int) (a::C)) (1,a::C)=some (((a::C).length:Int),J):=j1
  rw [j1',bB]
  exact congrArg some (fin J j2 j3)
end
def num (m:List ((Int×Int)×Int)) (k:Int×Int):Int:=match mget m k with | some v=>v+1 | none=>0
def arrS (N:Nat) (m:List ((Int×Int)×Int)):List Int:=iL (N*N) fun q=>num m (kv ((q/ N:Nat):Int) ((q%N:Nat):Int))
theorem cell_lt {N i k:Nat} (hi:i<N) (hk:k<N):i*N+k<N*N:=by
 have:=Nat.mul_le_mul_right N (show i+1≤N by omega)
 rw [Nat.succ_mul] at this
 omega
theorem cell_div {N i k:Nat} (hk:k<N):(i*N+k)/ N=i∧(i*N+k)%N=k:=by
 have hN:0<N:=by omega
 constructor
 · rw [Nat.mul_comm,Nat.mul_add_div hN,Nat.div_eq_of_lt hk,Nat.add_zero]
 · rw [Nat.mul_comm,Nat.mul_add_mod,Nat.mod_eq_of_lt hk]
theorem arr_get {N i k:Nat} (hi:i<N) (hk:k<N) (m:List ((Int×Int)×Int)):Ev.get (arrS N m) ((i*N+k:Nat):Int)=some (num m (kv i k)):=by
 have:=get_at (k:=i*N+k) rfl (iL_get (f:=fun q=>num m (kv ((q/ N:Nat):Int) ((q%N:Nat):Int))) (cell_lt hi hk))
 rw [(cell_div hk).1,(cell_div hk).2] at this
 exact this
theorem kv_comm (a b:Int):kv a b=kv b a:=by unfold kv; rw [Int.min_comm,Int.max_comm]
theorem arr_set {N i k:Nat} (hi:i<N) (hk:k<N) {m:List ((Int×Int)×Int)} {v:Int} (hm:mget m (kv i k)=none):((arrS N m).set (i*N+k) (v+1)).set (k*N+i) (v+1)=arrS N (m++[(kv i k,v)]):=by
 unfold arrS
 rw [iL_set,iL_set]
 refine iL_congr fun q hq=>?_
 have hN:0<N:=by omega
 have hqd:q/ N<N:=Nat.div_lt_of_lt_mul hq
 have hqm:q%N<N:=Nat.mod_lt _ hN
 have hqe:(q/ N)*N+q%N=q:=by rw [Nat.mul_comm]; exact Nat.div_add_mod q N
 unfold num
 rw [mget_snoc]
 by_cases c1:q=k*N+i
 ·
  rw [if_pos c1,c1,(cell_div hi).1,(cell_div hi).2,kv_comm,hm]
  dsimp only
  rw [if_pos rfl]
 ·
  rw [if_neg c1]
  by_cases c2:q=i*N+k
  ·
   rw [if_pos c2,c2,(cell_div hk).1,(cell_div hk).2,hm]
   dsimp only
   rw [if_pos rfl]
  ·
   rw [if_neg c2]
   have hne:kv ((q/ N:Nat):Int) ((q%N:Nat):Int)≠kv (i:Int) (k:Int):=by
    intro e
    rcases kv_eq.1 e with ⟨e1,e2⟩ | ⟨e1,e2⟩
    · apply c2; rw [←e1,←e2,hqe]
    · apply c1; rw [←e1,←e2,hqe]
   cases hq2:mget m (kv ((q/ N:Nat):Int) ((q%N:Nat):Int)) with
   | some w=>rfl
   | none=>dsimp only; rw [if_neg hne]
theorem wd_ne {es:List Ed} {i k:Nat} {x:Int×Bool} (h:psg es i k=some x):((eAt es i).2.1.1-(eAt es i).1.1)*((eAt es k).2.1.2.1-(eAt es k).1.2.1)-((eAt es i).2.1.2.1-(eAt es i).1.2.1)*((eAt es k).2.1.1-(eAt es k).1.1)≠0:=by
 have ho:=(cr_one (psg_some.1 h).2.2.2.1).2
 unfold Opp at ho
 have e:T (eAt es k).1 (eAt es k).2.1 (eAt es i).1-T (eAt es k).1 (eAt es k).2.1 (eAt es i).2.1=((eAt es i).2.1.1-(eAt es i).1.1)*((eAt es k).2.1.2.1-(eAt es k).1.2.1)-((eAt es i).2.1.2.1-(eAt es i).1.2.1)*((eAt es k).2.1.1-(eAt es k).1.1):=by
  unfold T
  grind
 rw [←e]
 omega
section
variable {l : List (List Pt)} (hv : Vd l)
include hv
theorem rsign {i k:Nat} (hi:i<sumlen l) (hk:k<sumlen l) (n:Nat) (i0:Nat) (l7:List (Int×Bool)) (v10:Int) (arr sg:List Int) (x74:Int) (y:Int×Bool) (x234:Int) (b:Bool):
  F.ref46_Project_j3 n (rE 0 l) (i0:Int) l7 v10 arr sg x74 y x234 b (rAt l i).1 (rAt l i).2.1 (rAt l i).2.2.1.1 (rAt l i).2.2.1.2.1 (rAt l i).2.2.1.2.2 (rAt l i).2.2.2.1 (rAt l i).2.2.2.2.1 (rAt l i).2.2.2.2.2 (rAt l k).1 (rAt l k).2.1 (rAt l k).2.2.1.1 (rAt l k).2.2.1.2.1 (rAt l k).2.2.1.2.2 (rAt l k).2.2.2.1 (rAt l k).2.2.2.2.1 (rAt l k).2.2.2.2.2=
   if ((eAt (edS 0 l) i).2.1.1-(eAt (edS 0 l) i).1.1)*((eAt (edS 0 l) k).2.1.2.1-(eAt (edS 0 l) k).1.2.1)-((eAt (edS 0 l) i).2.1.2.1-(eAt (edS 0 l) i).1.2.1)*((eAt (edS 0 l) k).2.1.1-(eAt (edS 0 l) k).1.1)<0 then F.ref46_Project_j4 n (rE 0 l) (i0:Int) l7 v10 arr sg x74 y x234 (-1) true else F.ref46_Project_j4 n (rE 0 l) (i0:Int) l7 v10 arr sg x74 y x234 1 false:=by
 obtain ⟨h1,h2⟩:=fitR hv hi
 obtain ⟨h3,h4⟩:=fitR hv hk
 rw [(rAt_ends hi).1,(rAt_ends hi).2,(rAt_ends hk).1,(rAt_ends hk).2]
 unfold Fit at h1 h2 h3 h4
 generalize eAt (edS 0 l) i=o at*
 generalize eAt (edS 0 l) k=u at*
 have m1:=mulb (A:=2000) (B:=2000) (x:=o.2.1.1-o.1.1) (y:=u.2.1.2.1-u.1.2.1) (by omega) (by omega) (by omega) (by omega)
 have m2:=mulb (A:=2000) (B:=2000) (x:=o.2.1.2.1-o.1.2.1) (y:=u.2.1.1-u.1.1) (by omega) (by omega) (by omega) (by omega)
 unfold F.ref46_Project_j3
 rw [chk_ok (by omega) (by omega),bB,chk_ok (by omega) (by omega),bB,chk_ok (by omega) (by omega),bB,chk_ok (by omega) (by omega),bB,chk_ok (by omega) (by omega),bB,chk_ok (by omega) (by omega),bB,chk_ok (by omega) (by omega),bB]
 by_cases q:(o.2.1.1-o.1.1)*(u.2.1.2.1-u.1.2.1)-(o.2.1.2.1-o.1.2.1)*(u.2.1.1-u.1.1)<0
 · rw [dT q,kT,if_pos q]
 · rw [dF q,kF,if_neg q]
theorem rnew {i k:Nat} (hi:i<sumlen l) (hk:k<sumlen l) (n:Nat) (l7:List (Int×Bool)) (v10:Nat) (hl:l7.length≤1000000) (hvv:v10≤1000000) {m:List ((Int×Int)×Int)} {sg:List Int} (hsl:sg.length≤1000000) (hm:mget m (kv i k)=none) (y:Int×Bool) (s:Int) (b:Bool):
  F.ref46_Project_j4 n (rE 0 l) (i:Int) l7 (v10:Int) (arrS (sumlen l) m) sg (k:Int) y 0 s b=some (.inl (l7++[((sg.length:Int),y.2)],((v10+1:Nat):Int),arrS (sumlen l) (m++[(kv i k,(sg.length:Int))]),sg++[s])):=by
 have hb:sumlen l≤100:=hv.2
 have c1:=cell_lt hi hk
 have c2:=cell_lt hk hi
 have hNN:sumlen l*sumlen l≤100*100:=Nat.mul_le_mul hb hb
 have hln:(((sg++[s]).length:Nat):Int)=(sg.length:Int)+1:=by rw [List.length_append,List.length_singleton]; omega
 have e1:(i:Int)*(sumlen l:Int)=((i*sumlen l:Nat):Int):=by rw [Int.natCast_mul]
 have e2:(k:Int)*(sumlen l:Int)=((k*sumlen l:Nat):Int):=by rw [Int.natCast_mul]
 have z1:((i*sumlen l:Nat):Int)+(k:Int)=((i*sumlen l+k:Nat):Int):=by omega
 have z2:((k*sumlen l:Nat):Int)+(i:Int)=((k*sumlen l+i:Nat):Int):=by omega
 have hlen:((arrS (sumlen l) m).set (i*sumlen l+k) ((sg.length:Int)+1)).length=sumlen l*sumlen l:=by rw [List.length_set]; exact iL_len _ _
 unfold F.ref46_Project_j4
 rw [lim_ok (by simp; omega),bB,rE_len,e1,chk_ok (by omega) (by omega),bB,z1,chk_ok (by omega) (by omega),bB,arr_get hi hk,bB,e2,chk_ok (by omega) (by omega),bB,z2,chk_ok (by omega) (by omega),bB,hln,Int.toNat_natCast,Int.toNat_natCast,get_nat,gE (by rw [hlen]; exact c2),bB,arr_set hi hk hm]
 unfold F.ref46_Project_j2
 have hnum:num (m++[(kv i k,(sg.length:Int))]) (kv i k)=(sg.length:Int)+1:=by
  unfold num
  rw [mget_snoc,hm]
  dsimp only
  rw [if_pos rfl]
 rw [rE_len,e1,chk_ok (by omega) (by omega),bB,z1,chk_ok (by omega) (by omega),bB,arr_get hi hk,bB,hnum,chk_ok (by omega) (by omega),bB,lim_ok (by simp; omega),bB,chk_ok (by omega) (by omega),bB,show (sg.length:Int)+1-1=(sg.length:Int) by omega]
 rfl
theorem rrow_eq (hg:GenE (edS 0 l)) {i:Nat} (hi:i<sumlen l) {c:Nat} {st:CS} (hc:Sz c st) (hcb:c≤100000) (n:Nat) (hn:1000<n):
  loopN n (F.ref46_Project_b1 n (rE 0 l) (i:Int) ((srt (edS 0 l) i).map (·.1))) (st.1,0,arrS (sumlen l) st.2.2,st.2.1)=some ((crow (edS 0 l) i st (srt (edS 0 l) i)).1,((srt (edS 0 l) i).length:Int),arrS (sumlen l) (crow (edS 0 l) i st (srt (edS 0 l) i)).2.2,(crow (edS 0 l) i st (srt (edS 0 l) i)).2.1):=by
 have hb:sumlen l≤100:=hv.2
 have hN:(edS 0 l).length=sumlen l:=edS_len 0 l
 have hi':i<(edS 0 l).length:=by omega
 have hN1:(edS 0 l).length≤1000000000:=by omega
 have hlen:=srt_len (fitE hv) hi' hN1
 have h0:=count_loop (body:=F.ref46_Project_b1 n (rE 0 l) (i:Int) ((srt (edS 0 l) i).map (·.1))) (fun k=>((crow (edS 0 l) i st ((srt (edS 0 l) i).take k)).1,(k:Int),arrS (sumlen l) (crow (edS 0 l) i st ((srt (edS 0 l) i).take k)).2.2,(crow (edS 0 l) i st ((srt (edS 0 l) i).take k)).2.1)) (srt (edS 0 l) i).length (r:=((crow (edS 0 l) i st (srt (edS 0 l) i)).1,((srt (edS 0 l) i).length:Int),arrS (sumlen l) (crow (edS 0 l) i st (srt (edS 0 l) i)).2.2,(crow (edS 0 l) i st (srt (edS 0 l) i)).2.1)) (fun t ht=>by
  have hgt:(srt (edS 0 l) i)[t]? =some (srt (edS 0 l) i)[t]:=gE ht
  obtain ⟨k,hk',hp⟩:=(mem_srt (fitE hv) hN1 hi').1 (List.getElem_mem ht)
  have hk:k<sumlen l:=by omega
  have hsz:Sz (c+t) (crow (edS 0 l) i st ((srt (edS 0 l) i).take t)):=by
   have:=Sz.row (row:=(srt (edS 0 l) i).take t) (es:=edS 0 l) (i:=i) hc
   rwa [List.length_take,Nat.min_eq_left (by omega)] at this
  have hsucc:crow (edS 0 l) i st ((srt (edS 0 l) i).take (t+1))=cstep (edS 0 l) i (crow (edS 0 l) i st ((srt (edS 0 l) i).take t)) (srt (edS 0 l) i)[t]:=by
   unfold crow
   rw [List.take_add_one,hgt,List.foldl_append]
   rfl
  have gk:Ev.get ((srt (edS 0 l) i).map (·.1)) (t:Int)=some (k:Int):=by rw [get_nat,List.getElem?_map,hgt,Option.map_some,(psg_some.1 hp).1]
  have hov:=(psg_some.1 hp).2.2.2.2
  have hk1:=(psg_some.1 hp).1
  rw [hsucc]
  generalize (srt (edS 0 l) i)[t]=x at*
  generalize crow (edS 0 l) i st ((srt (edS 0 l) i).take t)=s at*
  obtain ⟨s1,s2,s3⟩:=hsz
  have c1:=cell_lt hi hk
  have hNN:sumlen l*sumlen l≤100*100:=Nat.mul_le_mul hb hb
  have e1:(i:Int)*(sumlen l:Int)=((i*sumlen l:Nat):Int):=by rw [Int.natCast_mul]
  have z1:((i*sumlen l:Nat):Int)+(k:Int)=((i*sumlen l+k:Nat):Int):=by omega
  unfold F.ref46_Project_b1
  dsimp only
  rw [List.length_map,dT (by omega),kT,gk,bB,get_rAt hi,bB,bB,get_rAt hk,bB,bB,rcross_eq hi hk,bB,rE_len,e1,chk_ok (by omega) (by omega),bB,z1,chk_ok (by omega) (by omega),bB,arr_get hi hk,bB]
  unfold cstep
  rw [hk1]
  cases hm:mget s.2.2 (kv i k) with
  | some v=>
   have hvv:=s3 _ (mget_mem hm)
   dsimp only at hvv
   have hnum:num s.2.2 (kv i k)=v+1:=by unfold num; rw [hm]
   rw [hnum,dF (by omega),kF]
   unfold F.ref46_Project_j2
   rw [rE_len,e1,chk_ok (by omega) (by omega),bB,z1,chk_ok (by omega) (by omega),bB,arr_get hi hk,bB,hnum,chk_ok (by omega) (by omega),bB,lim_ok (by simp; omega),bB,chk_ok (by omega) (by omega),bB,show v+1-1=v by omega,←hov]
   rfl
  | none=>
   have hnum:num s.2.2 (kv i k)=0:=by unfold num; rw [hm]
   rw [hnum,dT rfl,kT,bB,bB,←hov]
   cases hx2:x.2 with
   | true=>
    rw [Bool.not_true,kF,rsign hv hi hk]
    have hW:=wd_ne hp
    have hs:sgX (edS 0 l) i x=if ((eAt (edS 0 l) i).2.1.1-(eAt (edS 0 l) i).1.1)*((eAt (edS 0 l) k).2.1.2.1-(eAt (edS 0 l) k).1.2.1)-((eAt (edS 0 l) i).2.1.2.1-(eAt (edS 0 l) i).1.2.1)*((eAt (edS 0 l) k).2.1.1-(eAt (edS 0 l) k).1.1)<0 then -1 else 1:=by
     unfold sgX sgE
     rw [if_pos hx2,hk1,Int.toNat_natCast]
     split<;>split<;>first | rfl | omega
    dsimp only
    rw [hs]
    split
    · rw [rnew hv hi hk n _ t (by omega) (by omega) (by omega) hm,←hov,hx2]
    · rw [rnew hv hi hk n _ t (by omega) (by omega) (by omega) hm,←hov,hx2]
   | false=>
    rw [Bool.not_false,kT,rsign hv hk hi]
    have hW:=wd_ne (psg_sym hp)
    have hs:sgX (edS 0 l) i x=if ((eAt (edS 0 l) k).2.1.1-(eAt (edS 0 l) k).1.1)*((eAt (edS 0 l) i).2.1.2.1-(eAt (edS 0 l) i).1.2.1)-((eAt (edS 0 l) k).2.1.2.1-(eAt (edS 0 l) k).1.2.1)*((eAt (edS 0 l) i).2.1.1-(eAt (edS 0 l) i).1.1)<0 then -1 else 1:=by
     unfold sgX sgE
     rw [if_neg (by rw [hx2]; decide),hk1,Int.toNat_natCast]
     split<;>split<;>first | rfl | omega
    dsimp only
    rw [hs]
    split
    · rw [rnew hv hi hk n _ t (by omega) (by omega) (by omega) hm,←hov,hx2]
    · rw [rnew hv hi hk n _ t (by omega) (by omega) (by omega) hm,←hov,hx2]) (by
  unfold F.ref46_Project_b1
  dsimp only
  rw [List.length_map,dF (by omega),kF,List.take_length]) n (by omega)
 exact h0
end
def lastE (l:List (List Pt)) (i:Nat):Bool:=decide (i+1=sumlen l) || !(decide ((rAt l (i+1)).1=(rAt l i).1))
abbrev SE:=List Vis×List (List Vis)×List Int×Int×List ((Int×Int)×Int)
def fin (r:CS) (cs:List (List Vis)) (lo:Int) (b:Bool):SE:=if b then (if 0<r.1.length then ([],cs++[r.1],r.2.1,lo,r.2.2) else ([],cs,r.2.1,lo+1,r.2.2)) else (r.1,cs,r.2.1,lo,r.2.2)
def estep (l:List (List Pt)) (a:SE) (i:Nat):SE:=fin (crow (edS 0 l) i (a.1,a.2.2.1,a.2.2.2.2) (srt (edS 0 l) i)) a.2.1 a.2.2.2.1 (lastE l i)
def eS (l:List (List Pt)) (i:Nat):SE:=(List.range i).foldl (estep l) ([],[],[],0,[])
theorem eS_succ (l:List (List Pt)) (i:Nat):eS l (i+1)=estep l (eS l i) i:=by
 unfold eS
 rw [List.range_succ,List.foldl_append]
 rfl
section
variable {l : List (List Pt)} (hv : Vd l)
include hv
theorem eS_size: ∀i,i≤sumlen l→Sz (i*100) ((eS l i).1,(eS l i).2.2.1,(eS l i).2.2.2.2)∧(eS l i).2.1.length≤i∧0≤(eS l i).2.2.2.1∧(eS l i).2.2.2.1≤(i:Int):=by
 have hb:sumlen l≤100:=hv.2
 have hN:(edS 0 l).length=sumlen l:=edS_len 0 l
 intro i
 induction i with
 | zero=>intro _; exact ⟨⟨Nat.le_refl _,Nat.le_refl _,fun e he=>by cases he⟩,Nat.le_refl _,Int.le_refl _,Int.le_refl _⟩
 | succ i ih=>
  intro hi
  obtain ⟨h1,h2,h3,h4⟩:=ih (by omega)
  have hlen:=srt_len (fitE hv) (show i<(edS 0 l).length by omega) (by omega)
  obtain ⟨z1,z2,z3⟩:=Sz.row (row:=srt (edS 0 l) i) (es:=edS 0 l) (i:=i) h1
  rw [eS_succ]
  unfold estep
  generalize eS l i=a at*
  generalize crow (edS 0 l) i (a.1,a.2.2.1,a.2.2.2.2) (srt (edS 0 l) i)=r at*
  have z3': ∀e∈r.2.2,0≤e.2∧e.2≤(((i+1)*100:Nat):Int):=fun e he=>by have:=z3 e he; omega
  unfold fin
  split
  ·
   split
   · exact ⟨⟨by dsimp only; simp,by dsimp only; omega,z3'⟩,by simp; omega,by dsimp only; omega,by dsimp only; omega⟩
   · exact ⟨⟨by dsimp only; simp,by dsimp only; omega,z3'⟩,by dsimp only; omega,by dsimp only; omega,by dsimp only; omega⟩
  · exact ⟨⟨by dsimp only; omega,by dsimp only; omega,z3'⟩,by dsimp only; omega,by dsimp only; omega,by dsimp only; omega⟩
theorem rfin {i:Nat} (hi:i<sumlen l) (n:Nat) (r:CS) {cs:List (List Vis)} {lo:Int} (hc:cs.length≤1000) (h0:0≤lo) (h1:lo≤1000) (b:Bool) (A:List Int):
  F.ref46_Project_j5 n (i:Int) cs lo r.1 A r.2.1 b=some (.inl ((fin r cs lo b).1,((i+1:Nat):Int),A,(fin r cs lo b).2.1,(fin r cs lo b).2.2.1,(fin r cs lo b).2.2.2.1)):=by
 have hb:sumlen l≤100:=hv.2
 unfold F.ref46_Project_j5 fin
 cases b with
 | true=>
  rw [kT,if_pos rfl]
  by_cases q:0<r.1.length
  ·
   rw [dT (by omega),kT,if_pos q,lim_ok (by simp; omega),bB,chk_ok (by omega) (by omega),bB]
   rfl
  ·
   rw [dF (by omega),kF,if_neg q,chk_ok (by omega) (by omega),bB,chk_ok (by omega) (by omega),bB]
   rfl
 | false=>
  rw [kF,if_neg (by decide),chk_ok (by omega) (by omega),bB]
  rfl
omit hv in
theorem fin_map (r:CS) (cs:List (List Vis)) (lo:Int) (b:Bool):(fin r cs lo b).2.2.2.2=r.2.2:=by
 unfold fin
 split
 · split<;>rfl
 · rfl
theorem redge_eq (hg:GenE (edS 0 l)) {i:Nat} (hi:i<sumlen l) (n:Nat) (hn:1000<n):
  F.ref46_Project_b0 n l (rE 0 l) ((eS l i).1,(i:Int),arrS (sumlen l) (eS l i).2.2.2.2,(eS l i).2.1,(eS l i).2.2.1,(eS l i).2.2.2.1)=some (.inl ((eS l (i+1)).1,((i+1:Nat):Int),arrS (sumlen l) (eS l (i+1)).2.2.2.2,(eS l (i+1)).2.1,(eS l (i+1)).2.2.1,(eS l (i+1)).2.2.2.1)):=by
 have hb:sumlen l≤100:=hv.2
 have hN:(edS 0 l).length=sumlen l:=edS_len 0 l
 obtain ⟨h1,h2,h3,h4⟩:=eS_size hv i (by omega)
 have hrow:=rrow_eq hv hg hi h1 (by omega) n hn
 rw [eS_succ]
 unfold estep
 generalize eS l i=a at*
 dsimp only at hrow
 unfold F.ref46_Project_b0
 dsimp only
 rw [rE_len,dT (by omega),kT,rsorted_eq hv hi (hg i (by omega)).2 n hn,bB,hrow,bB]
 dsimp only
 rw [chk_ok (by omega) (by omega),bB,fin_map]
 generalize crow (edS 0 l) i (a.1,a.2.2.1,a.2.2.2.2) (srt (edS 0 l) i)=r at*
 unfold lastE
 by_cases q:i+1=sumlen l
 ·
  rw [dT (by omega),kT,dT q,Bool.true_or]
  exact rfin hv hi n r (by omega) h3 (by omega) true _
 ·
  rw [dF (by omega),kF,dF q,Bool.false_or,bB,show (i:Int)+1=((i+1:Nat):Int) by omega,get_rAt (show i+1<sumlen l by omega),bB,get_rAt hi,bB]
  exact rfin hv hi n r (by omega) h3 (by omega) _ _
omit hv in
theorem last_in {c t:Nat} {p:List Pt} (hc:l[c]? =some p) (ht:t+1<p.length):lastE l (sumlen (l.take c)+t)=false:=by
 have hs:=sumlen_take_succ hc
 have hle:=sumlen_take_le l (c+1)
 have hcl:=(List.getElem?_eq_some_iff.1 hc).1
 have e:l=l.take c++p::l.drop (c+1):=by
  have:=List.take_append_drop c l
  rw [List.drop_eq_getElem_cons hcl] at this
  rw [gE hcl] at hc
  rw [Option.some.inj hc] at this
  exact this.symm
 have r1:(rAt l (sumlen (l.take c)+t)).1=(c:Int):=by
  have:=rAt_dec (l1:=l.take c) (l2:=l.drop (c+1)) (p:=p) (t:=t) (by omega)
  rw [←e,List.length_take,Nat.min_eq_left (by omega)] at this
  rw [this]; rfl
 have r2:(rAt l (sumlen (l.take c)+t+1)).1=(c:Int):=by
  have:=rAt_dec (l1:=l.take c) (l2:=l.drop (c+1)) (p:=p) (t:=t+1) (by omega)
  rw [←e,List.length_take,Nat.min_eq_left (by omega)] at this
  rw [Nat.add_assoc,this]; rfl
 unfold lastE
 rw [r1,r2,dT rfl,dF (by omega)]; rfl
omit hv in
theorem last_end {c:Nat} {p:List Pt} (hc:l[c]? =some p) (hp:0<p.length):lastE l (sumlen (l.take c)+(p.length-1))=true:=by
 have hs:=sumlen_take_succ hc
 have hle:=sumlen_take_le l (c+1)
 unfold lastE
 by_cases q:sumlen (l.take c)+(p.length-1)+1=sumlen l
 · rw [dT q,Bool.true_or]
 ·
  rw [dF q,Bool.false_or]
  obtain ⟨c1,t1,p1,g1,ht1,e1,r1,_⟩:=dec_at' l (sumlen (l.take c)+(p.length-1)+1) (by omega)
  obtain ⟨c2,t2,p2,g2,ht2,e2,r2,_⟩:=dec_at' l (sumlen (l.take c)+(p.length-1)) (by omega)
  rw [r1,r2]
  unfold mkR
  dsimp only
  rw [dF]; rfl
  intro h
  have h:c1=c2:=by omega
  subst h
  rw [g1] at g2
  obtain rfl:=Option.some.inj g2
  -- the polygon c2 is c
  rcases Nat.lt_trichotomy c1 c with w | w | w
  · have:=take_mono g1 w; omega
  ·
   subst w
   rw [hc] at g1
   obtain rfl:=Option.some.inj g1
   omega
  · have:=take_mono hc w; omega
theorem eS_poly: ∀c,c≤l.length→eS l (sumlen (l.take c))=([],(cofold (edS 0 l) (srt (edS 0 l)) (l.take c)).2):=by
 intro c
 induction c with
 | zero=>intro _; rfl
 | succ c ih=>
  intro hc
  have hg:l[c]? =some l[c]:=gE (by omega)
  have hp:3≤l[c].length:=(hv.1 _ (List.getElem_mem (by omega))).1
  have hs:=sumlen_take_succ hg
  have hst:=cofold_start (edS 0 l) (srt (edS 0 l)) (l.take c)
  have hco:cofold (edS 0 l) (srt (edS 0 l)) (l.take (c+1))=costep (edS 0 l) (srt (edS 0 l)) (cofold (edS 0 l) (srt (edS 0 l)) (l.take c)) l[c]:=by
   rw [List.take_add_one,hg]
   exact cofold_snoc _ _ _ _
  have ih:=ih (by omega)
  rw [hco,hs]
  generalize cofold (edS 0 l) (srt (edS 0 l)) (l.take c)=a at*
  generalize l[c]=p at*
  have inner: ∀t,t<p.length→eS l (sumlen (l.take c)+t)=((cpoly (edS 0 l) (srt (edS 0 l)) a.1 t ([],a.2.2.1,a.2.2.2.2)).1,a.2.1,(cpoly (edS 0 l) (srt (edS 0 l)) a.1 t ([],a.2.2.1,a.2.2.2.2)).2.1,a.2.2.2.1,(cpoly (edS 0 l) (srt (edS 0 l)) a.1 t ([],a.2.2.1,a.2.2.2.2)).2.2):=by
   intro t
   induction t with
   | zero=>intro _; rw [Nat.add_zero,ih]; rfl
   | succ t iht=>
    intro ht
    rw [←Nat.add_assoc,eS_succ,iht (by omega),cpoly_succ]
    unfold estep
    rw [last_in hg ht,hst]
    rfl
  obtain ⟨t,ht⟩: ∃t,p.length=t+1:=⟨p.length-1,by omega⟩
  have hl:=last_end hg (by omega)
  rw [ht,Nat.add_sub_cancel] at hl
  unfold costep
  dsimp only
  rw [ht,←Nat.add_assoc,eS_succ,inner t (by omega),cpoly_succ]
  unfold estep fin
  rw [hl,if_pos rfl,hst]
  dsimp only
  split<;>rfl
theorem rproj_eq (hg:GenE (edS 0 l)) (n:Nat) (hl:l.length≤1000000) (hn:1000000<n):F.ref46_Project n l=some (cL l,sL l,oL l):=by
 have hb:sumlen l≤100:=hv.2
 have hNN:sumlen l*sumlen l≤100*100:=Nat.mul_le_mul hb hb
 unfold F.ref46_Project
 have e0:(sumlen l:Int)*(sumlen l:Int)=((sumlen l*sumlen l:Nat):Int):=by rw [Int.natCast_mul]
 rw [redges_eq l n (by omega) (by omega) (by omega) (by omega),bB,rE_len,e0,chk_ok (by omega) (by omega),bB,pos_ok (by omega) (by omega),bB]
 have h0:List.replicate (((sumlen l*sumlen l:Nat):Int)).toNat (0:Int)=arrS (sumlen l) (eS l 0).2.2.2.2:=by
  rw [Int.toNat_natCast,iL_rep]
  rfl
 have hc:loopN n (F.ref46_Project_b0 n l (rE 0 l)) (([]:List (Int×Bool)),0,arrS (sumlen l) (eS l 0).2.2.2.2,([]:List (List (Int×Bool))),([]:List Int),0)=some ((eS l (sumlen l)).1,((sumlen l:Nat):Int),arrS (sumlen l) (eS l (sumlen l)).2.2.2.2,(eS l (sumlen l)).2.1,(eS l (sumlen l)).2.2.1,(eS l (sumlen l)).2.2.2.1):=by
  refine count_loop (fun i:Nat=>((eS l i).1,(i:Int),arrS (sumlen l) (eS l i).2.2.2.2,(eS l i).2.1,(eS l i).2.2.1,(eS l i).2.2.2.1)) (sumlen l) (fun i hi=>redge_eq hv hg hi n (by omega)) ?_ n (by omega)
  unfold F.ref46_Project_b0
  dsimp only
  rw [rE_len,dF (by omega),kF]
 rw [h0,hc,bB]
 dsimp only
 have he:=eS_poly hv l.length (Nat.le_refl _)
 rw [List.take_length] at he
 rw [he]
 have hcode:codeS (edS 0 l) (srt (edS 0 l)) l=(cL l,sL l,oL l):=codeS_fst _ _ _
 unfold codeS at hcode
 rw [←hcode]
omit hv in
theorem rends_eq {sg:List Int} {v:Vis} (h0:0≤v.1) (h1:v.1<(sg.length:Int)) (hs:sg.length≤64) (n:Nat):F.ref02_ends n sg v.1 v.2=some ((outH sg v:Int),(inH sg v:Int)):=by
 obtain ⟨c,hc⟩: ∃c:Nat,v.1=(c:Int):=⟨v.1.toNat,by omega⟩
 unfold F.ref02_ends outH inH
 rw [hc,chk_ok (by omega) (by omega),bB,Int.toNat_natCast]
 cases v.2 with
 | false=>
  rw [Bool.not_false,kT,chk_ok (by omega) (by omega),bB]
  refine congrArg some (Prod.ext ?_ ?_)<;>simp<;>omega
 | true=>
  have hcl:c<sg.length:=by omega
  rw [Bool.not_true,kF,get_nat,gE hcl,bB,getD_of' hcl]
  by_cases q:sg[c]=1
  ·
   rw [dT q,kT,chk_ok (by omega) (by omega),bB,chk_ok (by omega) (by omega),bB,if_pos q,if_pos q]
   refine congrArg some (Prod.ext ?_ ?_)<;>simp
  ·
   rw [dF q,kF,chk_ok (by omega) (by omega),bB,chk_ok (by omega) (by omega),bB,if_neg q,if_neg q]
   refine congrArg some (Prod.ext ?_ ?_)<;>simp
omit hv in
theorem rmates_row {sg:List Int} {w:List Vis} (hw: ∀v∈w,0≤v.1∧v.1<(sg.length:Int)) (hs:sg.length≤64) {M:List Int} (hM:M.length=4*sg.length) (n:Nat) (hn:w.length<n) (hl:w.length≤1000000000):
  loopN n (F.ref02_Diagram_b2 n sg w) (0,M)=some ((w.length:Int),(prs sg w w.length).foldl setP M):=by
 refine count_loop (fun k:Nat=>((k:Int),(prs sg w k).foldl setP M)) w.length (fun k hk=>?_) ?_ n hn
 ·
  have hm:(k+1)%w.length<w.length:=Nat.mod_lt _ (by omega)
  have ht:Int.tmod (((k:Nat):Int)+1) (w.length:Int)=(((k+1)%w.length:Nat):Int):=by
   rw [show ((k:Int)+1)=((k+1:Nat):Int) from by omega,Int.ofNat_tmod]
  have a:=hw _ (List.getElem_mem hk)
  have b:=hw _ (List.getElem_mem hm)
  have la:=(ends_lt a.1 a.2).2
  have lb:=(ends_lt b.1 b.2).1
  have hlen:=fold_len (prs sg w k) M
  rw [prs_succ,List.foldl_append,getD_of' hk,getD_of' hm]
  generalize (prs sg w k).foldl setP M=Q at hlen⊢
  unfold F.ref02_Diagram_b2
  dsimp only
  rw [dT (by omega),kT,get_nat,gE hk,bB,rends_eq a.1 a.2 hs,bB,chk_ok (by omega) (by omega),bB,nz_ok (by omega),bB,ht,get_nat,gE hm,bB,rends_eq b.1 b.2 hs,bB]
  dsimp only
  rw [get_nat,gE (by omega),bB,Int.toNat_natCast,get_nat,gE (by rw [List.length_set]; omega),bB,bB,Int.toNat_natCast]
  rfl
 ·
  unfold F.ref02_Diagram_b2
  dsimp only
  rw [dF (by omega),kF]
omit hv in
theorem rdia_eq {sg:List Int} {cs:List (List Vis)} (hw: ∀v∈cs.flatten,0≤v.1∧v.1<(sg.length:Int)) (hs:sg.length≤64) (lo:Int) (n:Nat) (hn:cs.flatten.length<n) (hc:cs.length<n) (hl:cs.flatten.length≤1000000000) (hcl:cs.length≤1000000000):
  F.ref02_Diagram n cs sg lo=some (sg,mtS sg cs,lo):=by
 unfold F.ref02_Diagram
 rw [chk_ok (by omega) (by omega),bB,lim_ok (by simp; omega),bB,pos_ok (by omega) (by omega),bB]
 unfold F.ref02_Diagram_j0
 have hl:loopN n (F.ref02_Diagram_b1 n cs sg) (0,List.replicate (4*(sg.length:Int)).toNat (0:Int))=some ((cs.length:Int),mtS sg cs):=by
  refine count_loop (fun k:Nat=>((k:Int),(allP sg (cs.take k)).foldl setP (List.replicate (4*sg.length) 0))) cs.length (fun k hk=>?_) ?_ n hc
  ·
   have hg:cs[k]? =some cs[k]:=gE hk
   have hlen:=fold_len (allP sg (cs.take k)) (List.replicate (4*sg.length) 0)
   rw [List.length_replicate] at hlen
   have hsub: ∀v∈cs[k],v∈cs.flatten:=fun v hv=>List.mem_flatten.2 ⟨_,List.getElem_mem hk,hv⟩
   have hle:=flatten_take_le cs (k+1)
   rw [flatten_take_succ hg,List.length_append] at hle
   have e:allP sg (cs.take (k+1))=allP sg (cs.take k)++prs sg cs[k] cs[k].length:=by
    unfold allP
    rw [List.take_add_one,hg,List.flatMap_append]
    simp
   rw [e,List.foldl_append]
   unfold F.ref02_Diagram_b1
   dsimp only
   rw [dT (by omega),kT,get_nat,hg,bB,rmates_row (fun v hv=>hw v (hsub v hv)) hs hlen n (by omega) (by omega),bB]
   dsimp only
   rw [chk_ok (by omega) (by omega),bB]
   rfl
  ·
   unfold F.ref02_Diagram_b1
   dsimp only
   rw [dF (by omega),kF,List.take_length]
   rfl
 rw [hl,bB]
 rfl
omit hv in
theorem rints (xs:List Int) (n:Nat) (hx:xs.length<n) (hb:xs.length≤1000000000):F.ref01_Ints n xs xs=some true:=by
 unfold F.ref01_Ints
 rw [dT rfl,Bool.not_true,kF]
 have hs:loopN n (F.ref01_Ints_b0 n xs xs) 0=some (.inl (xs.length:Int)):=by
  refine count_loop (fun k:Nat=>(k:Int)) xs.length (fun k hk=>?_) ?_ n hx
  ·
   unfold F.ref01_Ints_b0
   dsimp only
   rw [dT (by omega),kT,get_nat,gE hk,bB,bB,dT rfl,Bool.not_true,kF,chk_ok (by omega) (by omega)]
   rfl
  ·
   unfold F.ref01_Ints_b0
   dsimp only
   rw [dF (by omega),kF]
 rw [hs,bB]
end
theorem refrow {l:List (List Pt)} {k:Nat} {p:List Pt} (hg:l[k]? =some p) (n:Nat) (hl:p.length<n) (hp:p.length≤1000000000):loopN n (F.ref46_Valid_b1 n l (k:Int)) 0=some (if∀x∈p,Fit x then .inl (p.length:Int) else .inr false):=by
 have hs:=scan_loop (body:=F.ref46_Valid_b1 n l (k:Int)) (fun k=>(k:Int)) p.length (fun k=>if Fit (p.getD k (0,(0,0))) then none else some false) (e:=(p.length:Int)) (fun j hj=>by
  unfold F.ref46_Valid_b1
  dsimp only
  rw [get_nat,hg,bB,dT (by omega),kT,bB,get_nat,gE hj,bB,fits_eq p[j] n,bB]
  have e:p.getD j (0,(0,0))=p[j]:=by simp [List.getD,gE hj]
  rw [e]
  by_cases hf:Fit p[j]
  · rw [dT hf,Bool.not_true,kF,chk_ok (by omega) (by omega),bB,if_pos hf]; rfl
  · rw [dF hf,if_neg hf]; rfl) (by
  unfold F.ref46_Valid_b1
  dsimp only
  rw [get_nat,hg,bB,dF (by omega),kF]) n hl
 refine hs.trans ?_
 by_cases hf: ∀x∈p,Fit x
 ·
  rw [if_pos hf,findSome_none]
  intro k hk
  rw [if_pos (by
   simp only [List.getD,gE hk,Option.getD_some]
   exact hf _ (List.getElem_mem hk))]
 ·
  rw [if_neg hf]
  have: ∃k,∃h:k<p.length,¬Fit p[k]:=by
   apply Classical.byContradiction
   intro hc
   apply hf
   intro x hx
   obtain ⟨k,hk,rfl⟩:=List.mem_iff_getElem.1 hx
   exact Classical.byContradiction fun hx=>hc ⟨k,hk,hx⟩
  obtain ⟨k,hk,hx⟩:=this
  rw [findSome_one (q:=false) (k:=k) (fun k q' h=>by
   by_cases hc:Fit (p.getD k (0,(0,0)))
   · rw [if_pos hc] at h; cases h
   · rw [if_neg hc] at h; injection h with h; exact h.symm) hk (by
   simp only [List.getD,gE hk,Option.getD_some,if_neg hx]; simp)]
theorem refv_eq (l:List (List Pt)) (n:Nat) (hb:sumlen l≤1000000) (hl:l.length≤1000000) (hn:1000000<n):F.ref46_Valid n l=some (decide (Vd l)):=by
 have hs:=scan_loop (body:=F.ref46_Valid_b0 n l) (fun k=>((sumlen (l.take k):Int),(k:Int))) l.length
  (fun k=>if 3≤(l.getD k []).length∧∀x∈l.getD k [],Fit x then none else some false) (e:=((sumlen l:Int),(l.length:Int))) (fun k hk=>by
  unfold F.ref46_Valid_b0
  dsimp only
  have hg:l[k]? =some l[k]:=gE hk
  have e:l.getD k []=l[k]:=by simp [List.getD,hg]
  have hsu:=sumlen_take_succ hg
  have hle:=sumlen_take_le l (k+1)
  have hme:=sumlen_mem (List.getElem_mem hk:l[k]∈l)
  rw [dT (by omega),kT,get_nat,hg,bB,e]
  by_cases h3:3≤l[k].length
  case neg=>rw [dT (by omega),if_neg (fun h=>h3 h.1)]; rfl
  rw [dF (by omega),kF,bB,chk_ok (by omega) (by omega),bB,refrow hg n (by omega) (by omega),bB]
  by_cases h5: ∀x∈l[k],Fit x
  ·
   rw [if_pos h5,if_pos ⟨h3,h5⟩]
   dsimp only
   rw [chk_ok (by omega) (by omega),bB,hsu,Int.natCast_add]; rfl
  · rw [if_neg h5,if_neg (fun h=>h5 h.2)]) (by
  unfold F.ref46_Valid_b0
  dsimp only
  rw [dF (by omega),kF,List.take_length]) n (by omega)
 unfold F.ref46_Valid
 rw [show ((0:Int),(0:Int))=(fun k:Nat=>((sumlen (l.take k):Int),(k:Int))) 0 from by simp [sumlen],hs,bB]
 by_cases hall: ∀k,k<l.length→3≤(l.getD k []).length∧∀x∈l.getD k [],Fit x
 ·
  rw [findSome_none (fun k hk=>if_pos (hall k hk))]
  dsimp only
  refine congrArg some (decide_eq_decide.mpr ⟨fun h=>⟨fun p hp=>?_,by omega⟩,fun h=>by have:=h.2; omega⟩)
  obtain ⟨k,hk,rfl⟩:=List.mem_iff_getElem.1 hp
  have:=hall k hk
  rwa [getD_of' hk] at this
 ·
  have: ∃k,k<l.length∧¬(3≤(l.getD k []).length∧∀x∈l.getD k [],Fit x):=by
   apply Classical.byContradiction
   intro hc
   exact hall fun k hk=>Classical.byContradiction fun hx=>hc ⟨k,hk,hx⟩
  obtain ⟨k,hk,hx⟩:=this
  have hv: ¬Vd l:=fun h=>hx (by rw [getD_of' hk]; exact h.1 _ (List.getElem_mem hk))
  rw [findSome_one (q:=false) (k:=k) (fun k q' h=>by
   by_cases hc:(3≤(l.getD k []).length∧∀x∈l.getD k [],Fit x)
   · rw [if_pos hc] at h; cases h
   · rw [if_neg hc] at h; injection h with h; exact h.symm) hk (by rw [if_neg hx]; simp),dF hv]
theorem gen_of {l:List (List Pt)} (hv:Vd l) (hg:GenE (edS 0 l)):Gen (edS 0 l) (vsL 0 l):=by
 have p:=pj_of hv
 have hN:(edS 0 l).length=sumlen l:=edS_len 0 l
 have hb:sumlen l≤100:=hv.2
 refine ⟨p.fit,by omega,p.rg,hg,fun i hi=>?_⟩
 obtain ⟨l1,q,l2,t,rfl,ht,rfl⟩:=dec_at l i (by omega)
 have h3:3≤q.length:=(hv.1 q (by simp)).1
 rw [nx_dec ht,nx_dec (Nat.mod_lt _ (by omega))]
 intro e
 have e':((t+1)%q.length+1)%q.length=t:=by omega
 by_cases c:t+1<q.length
 ·
  rw [Nat.mod_eq_of_lt c] at e'
  by_cases c2:t+1+1<q.length
  · rw [Nat.mod_eq_of_lt c2] at e'; omega
  · rw [show t+1+1=q.length by omega,Nat.mod_self] at e'; omega
 · rw [show t+1=q.length by omega,Nat.mod_self,Nat.mod_eq_of_lt (by omega)] at e'; omega
open Classical in
theorem proj_flat {l:List (List Pt)} (hv:Vd l):projS l=if GenE (edS 0 l) then (if 64<(fL l).length then ([],[],0,5) else (sL l,mtS (sL l) (cL l),oL l,0)) else ([],[],0,15):=by
 rw [proj_net hv]
 by_cases hg:GenE (edS 0 l)
 case neg=>rw [if_neg hg,if_neg hg]
 rw [if_pos hg,if_pos hg]
 by_cases h:64<(fL l).length
 · rw [if_pos h,if_pos h]
 ·
  rw [if_neg h,if_neg h]
  have h0:gen2 (sL l).length (muS (sL l) (cL l))=0:=(gen_of hv hg).genus ((pj_of hv).gv (by omega))
  rw [h0,if_pos (show Int.tdiv 0 2=0 from rfl)]
end Pg
open Pg Classical in
theorem law46_PolygonProjects_true (x0:List (List (Int×(Int×Int)))) (o0:Ev.Sh.ok (.sl (.sl (.pr (.int .i64) (.pr (.int .i64) (.int .i64))))) x0) (b0:Ev.Sh.bulk (.sl (.sl (.pr (.int .i64) (.pr (.int .i64) (.int .i64))))) x0≤1048576):
  ∃n,F.law46_PolygonProjects n x0=some true:=by
 have s1:=sumlen_bulk x0
 have s2:=len_bulk x0
 have hs1:sumlen x0≤1048576:=Nat.le_trans s1 b0
 have hs2:x0.length≤1048576:=Nat.le_trans s2 b0
 refine ⟨200000000,?_⟩
 unfold F.law46_PolygonProjects
 rw [awake46,bB,Bool.not_true,kF,few_eq x0 200000000 (by omega) (by omega) (by decide),bB]
 by_cases hf:Few x0
 case neg=>rw [dF hf]; rfl
 rw [dT hf,Bool.not_true,kF]
 have hf1:=hf.1
 have hf2:=hf.2
 have hzero:F.law46_zero 200000000 [] [] 0=some true:=by decide+kernel
 rw [proj_eq x0 200000000 (by omega) (by omega) (by decide),bB,refv_eq x0 200000000 (by omega) (by omega) (by decide),bB]
 have hgq:=generic_eq x0 200000000 (by omega) (by omega) (by decide)
 by_cases hv:Vd x0
 case neg=>
  have hp:projS x0=([],[],0,1):=by unfold projS; rw [if_neg hv]
  rw [dF hv,Bool.not_false,kT,hp]
  dsimp only
  rw [dT rfl,kT,hzero,bB,kT,hgq,bB,dF (fun h=>hv h.1)]
  rfl
 rw [dT hv,Bool.not_true,kF,hgq,bB,rgen_eq hv 200000000 (by omega) (by decide),bB,bB]
 by_cases hg:GenE (edS 0 x0)
 case neg=>
  have hp:projS x0=([],[],0,15):=by rw [proj_flat hv,if_neg hg]
  rw [dF hg,dF (fun h=>hg h.2),hp]
  dsimp only
  rw [show (!(false == false))=false from rfl,kF,Bool.not_false,kT,dT rfl,kT,hzero]
  rfl
 have hp:=proj_flat hv
 rw [if_pos hg] at hp
 rw [dT hg,dT (⟨hv,hg⟩:Vd x0∧GenE (edS 0 x0)),show (!(true == true))=false from rfl,kF,Bool.not_true,kF,rproj_eq hv hg 200000000 (by omega) (by decide),bB]
 dsimp only
 have hsl:(sL x0).length=(fL x0).length:=by unfold sL; rw [List.length_map]
 by_cases h:64<(fL x0).length
 ·
  rw [if_pos h] at hp
  rw [dT (by omega),kT,hp]
  dsimp only
  rw [dT rfl,kT,hzero]
  rfl
 ·
  rw [if_neg h] at hp
  have GG:=(pj_of hv).gv (l:=x0) (by omega)
  obtain ⟨g1,g2,g3,g4,g5,g6,g7,g8⟩:=GG
  have hcl:(cL x0).length≤(cL x0).flatten.length:=by
   have: ∀cs:List (List Vis),(∀c∈cs,c≠[])→cs.length≤cs.flatten.length:=by
    intro cs
    induction cs with
    | nil=>intro _; exact Nat.le_refl _
    | cons c r ih=>
     intro hh
     have a:=ih fun d hd=>hh d (List.mem_cons_of_mem _ hd)
     have b:=List.length_pos_iff.2 (hh c List.mem_cons_self)
     rw [List.flatten_cons,List.length_append,List.length_cons]
     omega
   exact this _ g5
  have hm:(mtS (sL x0) (cL x0)).length=4*(sL x0).length:=by
   unfold mtS
   rw [fold_len,List.length_replicate]
  rw [dF (by omega),kF,hp]
  dsimp only
  rw [dT rfl,kT,rdia_eq g6 g1 (oL x0) 200000000 (by omega) (by omega) (by omega) (by omega),bB]
  dsimp only
  unfold F.ref01_Equal
  rw [rints _ 200000000 (by omega) (by omega),bB,kT,rints _ 200000000 (by omega) (by omega),bB,kT,dT rfl]
  rfl
end Go.Proofs.Yteajmbanlohncaa
