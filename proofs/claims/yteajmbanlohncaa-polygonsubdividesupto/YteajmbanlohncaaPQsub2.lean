import Derived.Test.YteajmbanlohncaaPQtrn
set_option linter.unusedVariables false
set_option linter.unusedSimpArgs false
namespace Go.Proofs.Yteajmbanlohncaa
open Ev
namespace Pg
def vq (F:List Psg) (q:Psg):Vis:=vn F q.1 q.2
theorem prt_vq (P:Nat→List (Int×Bool)) (F:List Psg) (v:List Nat):v.flatMap (prt' P F)=(pas P v).map (vq F):=by
 unfold pas prt'
 rw [List.map_flatMap]
 refine flatMapC fun j _=>?_
 rw [List.map_map]
 rfl
theorem csR_vq (P:Nat→List (Int×Bool)) (F:List Psg) (vs:List (List Nat)):csR (prt' P F) vs=((vs.map (pas P)).map (List.map (vq F))).filter fun w=>!w.isEmpty:=by
 unfold csR
 rw [List.map_map]
 congr 1
 exact List.map_congr_left fun v _=>prt_vq P F v
theorem loR_vq (P:Nat→List (Int×Bool)) (F:List Psg) (vs:List (List Nat)):loR (prt' P F) vs=((((vs.map (pas P)).map (List.map (vq F))).filter fun w=>w.isEmpty).length:Int):=by
 unfold loR
 rw [List.map_map]
 congr 2
 refine congrArg _ ?_
 exact List.map_congr_left fun v _=>prt_vq P F v
theorem pas_flat (P:Nat→List (Int×Bool)): ∀vs:List (List Nat),pas P vs.flatten=(vs.map (pas P)).flatten
 | []=>rfl
 | v::vs=>by rw [List.flatten_cons,pas_app,pas_flat P vs,List.map_cons,List.flatten_cons]
section
variable {ψ : Psg → Psg} {A : List Psg}
theorem fold_map (hA: ∀q∈A,∀q'∈A,kq (ψ q)=kq (ψ q')↔kq q=kq q'): ∀(Q F:List Psg),(∀q∈Q,q∈A)→(∀q∈F,q∈A)→(Q.map ψ).foldl fstep (F.map ψ)=(Q.foldl fstep F).map ψ
 | [],F,_,_=>rfl
 | q::Q,F,hQ,hF=>by
  rw [List.map_cons,List.foldl_cons,List.foldl_cons]
  have hq:=hQ q (by simp)
  have hk:kq (ψ q)∈(F.map ψ).map kq↔kq q∈F.map kq:=by
   rw [List.map_map,List.mem_map,List.mem_map]
   constructor
   ·
    rintro ⟨f,hf,e⟩
    exact ⟨f,hf,(hA f (hF f hf) q hq).1 e⟩
   ·
    rintro ⟨f,hf,e⟩
    exact ⟨f,hf,(hA f (hF f hf) q hq).2 e⟩
  have e:fstep (F.map ψ) (ψ q)=(fstep F q).map ψ:=by
   unfold fstep
   by_cases h:kq q∈F.map kq
   · rw [if_pos h,if_pos (hk.2 h)]
   · rw [if_neg h,if_neg (fun h2=>h (hk.1 h2)),List.map_append]; rfl
  rw [e]
  refine fold_map hA Q _ (fun x hx=>hQ x (by simp [hx])) fun x hx=>?_
  unfold fstep at hx
  split at hx
  · exact hF x hx
  ·
   rcases List.mem_append.1 hx with hx | hx
   · exact hF x hx
   · rw [List.mem_singleton] at hx; rw [hx]; exact hq
theorem vq_map (hA: ∀q∈A,∀q'∈A,kq (ψ q)=kq (ψ q')↔kq q=kq q') (hb: ∀q,(ψ q).2.2=q.2.2) {F:List Psg} (hF: ∀q∈F,q∈A) {q:Psg} (hq:q∈A):vq (F.map ψ) (ψ q)=vq F q:=by
 unfold vq vn
 refine Prod.ext ?_ (hb q)
 have e1:kv ((ψ q).1:Int) (ψ q).2.1=kq (ψ q):=rfl
 have e2:kv (q.1:Int) q.2.1=kq q:=rfl
 dsimp only
 rw [e1,e2]
 congr 1
 -- places in both lists of keys
 have key: ∀l:List Psg,(∀x∈l,x∈A)→((l.map ψ).map kq).idxOf (kq (ψ q))=(l.map kq).idxOf (kq q):=by
  intro l
  induction l with
  | nil=>intro _; rfl
  | cons b l ih=>
   intro h
   rw [List.map_cons,List.map_cons,List.map_cons,List.idxOf_cons,List.idxOf_cons,ih fun x hx=>h x (by simp [hx])]
   by_cases e:kq b=kq q
   · rw [e,(hA b (h b (by simp)) q hq).2 e]; simp
   ·
    have e2: ¬kq (ψ b)=kq (ψ q):=fun z=>e ((hA b (h b (by simp)) q hq).1 z)
    rw [show (kq b == kq q)=false from by simpa using e,show (kq (ψ b) == kq (ψ q))=false from by simpa using e2]
 rw [key F hF]
end
theorem code_same {P P':Nat→List (Int×Bool)} {vs vs':List (List Nat)} {ψ:Psg→Psg} {sx sx':Psg→Int} (hC:vs'.map (pas P')=(vs.map (pas P)).map (List.map ψ))
  (hA: ∀q∈pas P vs.flatten,∀q'∈pas P vs.flatten,kq (ψ q)=kq (ψ q')↔kq q=kq q') (hb: ∀q,(ψ q).2.2=q.2.2) (hs: ∀q∈pas P vs.flatten,sx' (ψ q)=sx q):
  csR (prt' P' (firsts (pas P' vs'.flatten))) vs'=csR (prt' P (firsts (pas P vs.flatten))) vs∧(firsts (pas P' vs'.flatten)).map sx'=(firsts (pas P vs.flatten)).map sx∧loR (prt' P' (firsts (pas P' vs'.flatten))) vs'=loR (prt' P (firsts (pas P vs.flatten))) vs:=by
 have hQ:pas P' vs'.flatten=(pas P vs.flatten).map ψ:=by
  rw [pas_flat,pas_flat,hC,List.map_flatten]
 have hF:firsts (pas P' vs'.flatten)=(firsts (pas P vs.flatten)).map ψ:=by
  unfold firsts
  rw [hQ]
  have:=fold_map hA (pas P vs.flatten) [] (fun q h=>h) (fun q h=>by cases h)
  simpa using this
 have hFA: ∀q∈firsts (pas P vs.flatten),q∈pas P vs.flatten:=fun q hq=>by
  rcases fold_sub _ [] q hq with h | h
  · cases h
  · exact h
 have hrow:(vs'.map (pas P')).map (List.map (vq (firsts (pas P' vs'.flatten))))=(vs.map (pas P)).map (List.map (vq (firsts (pas P vs.flatten)))):=by
  rw [hC,hF,List.map_map]
  refine List.map_congr_left fun w hw=>?_
  show (w.map ψ).map _=_
  rw [List.map_map]
  refine List.map_congr_left fun q hq=>?_
  refine vq_map hA hb hFA ?_
  rw [pas_flat]
  exact List.mem_flatten.2 ⟨w,hw,hq⟩
 refine ⟨by rw [csR_vq,csR_vq,hrow],?_,by rw [loR_vq,loR_vq,hrow]⟩
 rw [hF,List.map_map]
 exact List.map_congr_left fun q hq=>hs q (hFA q hq)
def Mid (a b m:Pt):Prop:=2*m.1=a.1+b.1∧2*m.2.1=a.2.1+b.2.1∧2*m.2.2=a.2.2+b.2.2
section
variable {a b c d m : Pt} (h : Mid a b m)
include h
theorem T_mid1:2*T a m c=T a b c:=by
 obtain ⟨h1,h2,_⟩:=h
 have e1:b.1=2*m.1-a.1:=by omega
 have e2:b.2.1=2*m.2.1-a.2.1:=by omega
 unfold T; rw [e1,e2]; grind
theorem T_mid2:2*T m b c=T a b c:=by
 obtain ⟨h1,h2,_⟩:=h
 have e1:b.1=2*m.1-a.1:=by omega
 have e2:b.2.1=2*m.2.1-a.2.1:=by omega
 unfold T; rw [e1,e2]; grind
theorem T_mid3:2*T c d m=T c d a+T c d b:=by
 obtain ⟨h1,h2,_⟩:=h
 have e1:b.1=2*m.1-a.1:=by omega
 have e2:b.2.1=2*m.2.1-a.2.1:=by omega
 unfold T; rw [e1,e2]; grind
theorem hU_mid1:4*hU a m c d=hU a b c d∧4*hU c d a m=hU c d a b:=by
 have t1:=T_mid1 (c:=c) h
 have t2:=T_mid1 (c:=d) h
 have t3:=T_mid3 (c:=c) (d:=d) h
 obtain ⟨_,_,h3⟩:=h
 have e1:T c d b=2*T c d m-T c d a:=by omega
 have e2:T a b c=2*T a m c:=by omega
 have e3:T a b d=2*T a m d:=by omega
 have e4:b.2.2=2*m.2.2-a.2.2:=by omega
 unfold hU
 rw [e1,e2,e3,e4]
 generalize T c d m=x
 generalize T c d a=y
 generalize T a m c=z
 generalize T a m d=w
 constructor<;>grind
theorem hU_mid2:4*hU m b c d=hU a b c d∧4*hU c d m b=hU c d a b:=by
 have t1:=T_mid2 (c:=c) h
 have t2:=T_mid2 (c:=d) h
 have t3:=T_mid3 (c:=c) (d:=d) h
 obtain ⟨_,_,h3⟩:=h
 have e1:T c d a=2*T c d m-T c d b:=by omega
 have e2:T a b c=2*T m b c:=by omega
 have e3:T a b d=2*T m b d:=by omega
 have e4:a.2.2=2*m.2.2-b.2.2:=by omega
 unfold hU
 rw [e1,e2,e3,e4]
 generalize T c d m=x
 generalize T c d b=y
 generalize T m b c=z
 generalize T m b d=w
 constructor<;>grind
theorem cr_half1 (hf:Fit a∧Fit b∧Fit c∧Fit d) (hm:Fit m) (h1:Opp (T a b c) (T a b d)) (h2:Opp (T c d a) (T c d m)):cr a m c d=cr a b c d:=by
 have t1:=T_mid1 (c:=c) h
 have t2:=T_mid1 (c:=d) h
 have t3:=T_mid3 (c:=c) (d:=d) h
 obtain ⟨u1,u2⟩:=hU_mid1 (c:=c) (d:=d) h
 unfold Opp at h1 h2
 have g:Fit a∧Fit m∧Fit c∧Fit d:=⟨hf.1,hm,hf.2.2.1,hf.2.2.2⟩
 have o1:Opp (T a m c) (T a m d)∧Opp (T c d a) (T c d m):=by unfold Opp; omega
 have o2:Opp (T a b c) (T a b d)∧Opp (T c d a) (T c d b):=by unfold Opp; omega
 unfold cr
 rw [if_pos hf,if_pos g,if_pos o1,if_pos o2]
 have q1:(hU a m c d=hU c d a m)↔(hU a b c d=hU c d a b):=by omega
 have q2:(hU c d a m<hU a m c d)↔(hU c d a b<hU a b c d):=by omega
 have q3:(hU a m c d<hU c d a m)↔(hU a b c d<hU c d a b):=by omega
 have q4:(T c d a<0↔T a m c<0)↔(T c d a<0↔T a b c<0):=by omega
 simp only [q1,q2,q3,q4]
theorem cr_half2 (hf:Fit a∧Fit b∧Fit c∧Fit d) (hm:Fit m) (h1:Opp (T a b c) (T a b d)) (h2:Opp (T c d m) (T c d b)):cr m b c d=cr a b c d:=by
 have t1:=T_mid2 (c:=c) h
 have t2:=T_mid2 (c:=d) h
 have t3:=T_mid3 (c:=c) (d:=d) h
 obtain ⟨u1,u2⟩:=hU_mid2 (c:=c) (d:=d) h
 unfold Opp at h1 h2
 have g:Fit m∧Fit b∧Fit c∧Fit d:=⟨hm,hf.2.1,hf.2.2.1,hf.2.2.2⟩
 have o1:Opp (T m b c) (T m b d)∧Opp (T c d m) (T c d b):=by unfold Opp; omega
 have o2:Opp (T a b c) (T a b d)∧Opp (T c d a) (T c d b):=by unfold Opp; omega
 unfold cr
 rw [if_pos hf,if_pos g,if_pos o1,if_pos o2]
 have q1:(hU m b c d=hU c d m b)↔(hU a b c d=hU c d a b):=by omega
 have q2:(hU c d m b<hU m b c d)↔(hU c d a b<hU a b c d):=by omega
 have q3:(hU m b c d<hU c d m b)↔(hU a b c d<hU c d a b):=by omega
 have q4:(T c d m<0↔T m b c<0)↔(T c d a<0↔T a b c<0):=by omega
 simp only [q1,q2,q3,q4]
theorem half1_cross (hf:Fit a∧Fit b∧Fit c∧Fit d) (hm:Fit m) (h1:(cr a m c d).1=1):cr a m c d=cr a b c d∧Opp (T a b c) (T a b d)∧Opp (T c d a) (T c d b)∧Opp (T c d a) (T c d m):=by
 obtain ⟨q1,q2⟩:=cr_one h1
 have t1:=T_mid1 (c:=c) h
 have t2:=T_mid1 (c:=d) h
 have t3:=T_mid3 (c:=c) (d:=d) h
 have p1:Opp (T a b c) (T a b d):=by unfold Opp at *; omega
 exact ⟨cr_half1 h hf hm p1 q2,p1,by unfold Opp at *; omega,q2⟩
theorem half2_cross (hf:Fit a∧Fit b∧Fit c∧Fit d) (hm:Fit m) (h1:(cr m b c d).1=1):cr m b c d=cr a b c d∧Opp (T a b c) (T a b d)∧Opp (T c d a) (T c d b)∧Opp (T c d m) (T c d b):=by
 obtain ⟨q1,q2⟩:=cr_one h1
 have t1:=T_mid2 (c:=c) h
 have t2:=T_mid2 (c:=d) h
 have t3:=T_mid3 (c:=c) (d:=d) h
 have p1:Opp (T a b c) (T a b d):=by unfold Opp at *; omega
 exact ⟨cr_half2 h hf hm p1 q2,p1,by unfold Opp at *; omega,q2⟩
end
theorem between {X Y k t:Int} (hk:0<k) (h0:0≤t) (h1:t≤k) (e:X*k=t*Y):(0≤Y→0≤X∧X≤Y)∧(Y≤0→Y≤X∧X≤0):=by
 constructor
 ·
  intro hY
  have a:0≤t*Y:=Int.mul_nonneg h0 hY
  have b:t*Y≤k*Y:=Int.mul_le_mul_of_nonneg_right h1 hY
  constructor
  ·
   have:0*k≤X*k:=by omega
   exact Int.le_of_mul_le_mul_right this hk
  ·
   have:X*k≤Y*k:=by rw [Int.mul_comm Y k]; omega
   exact Int.le_of_mul_le_mul_right this hk
 ·
  intro hY
  have a:t*Y≤0:=Int.mul_nonpos_of_nonneg_of_nonpos h0 hY
  have b:k*Y≤t*Y:=Int.mul_le_mul_of_nonpos_right h1 hY
  constructor
  ·
   have:Y*k≤X*k:=by rw [Int.mul_comm Y k]; omega
   exact Int.le_of_mul_le_mul_right this hk
  ·
   have:X*k≤0*k:=by omega
   exact Int.le_of_mul_le_mul_right this hk
theorem on_of_lines {a b c d m:Pt} (h1:Opp (T a b c) (T a b d)) (h2:T a b m=0) (h3:T c d m=0):On c d m:=by
 have e1:(m.1-c.1)*(T a b c-T a b d)=T a b c*(d.1-c.1):=by unfold T at *; grind
 have e2:(m.2.1-c.2.1)*(T a b c-T a b d)=T a b c*(d.2.1-c.2.1):=by unfold T at *; grind
 have key: ∀X Y:Int,X*(T a b c-T a b d)=T a b c*Y→(0≤Y→0≤X∧X≤Y)∧(Y≤0→Y≤X∧X≤0):=by
  intro X Y e
  rcases h1 with ⟨p,q⟩ | ⟨p,q⟩
  ·
   refine between (k:=T a b d-T a b c) (t:=- T a b c) (by omega) (by omega) (by omega) ?_
   have f1:X*(T a b d-T a b c)=-(X*(T a b c-T a b d)):=by rw [←Int.mul_neg]; congr 1; omega
   rw [f1,e,Int.neg_mul]
  · exact between (k:=T a b c-T a b d) (t:=T a b c) (by omega) (by omega) (by omega) e
 have k1:=key _ _ e1
 have k2:=key _ _ e2
 unfold On
 refine ⟨h3,?_⟩
 have r1:min c.1 d.1≤m.1∧m.1≤max c.1 d.1:=by
  rcases Int.le_total 0 (d.1-c.1) with q | q
  · have:=k1.1 q; omega
  · have:=k1.2 q; omega
 have r2:min c.2.1 d.2.1≤m.2.1∧m.2.1≤max c.2.1 d.2.1:=by
  rcases Int.le_total 0 (d.2.1-c.2.1) with q | q
  · have:=k2.1 q; omega
  · have:=k2.2 q; omega
 exact ⟨r1.1,r1.2,r2.1,r2.2⟩
def tu (e k:Nat):Nat:=if k≤e then k else k+1
theorem tu_inj {e k k':Nat} (h:tu e k=tu e k'):k=k':=by unfold tu at h; split at h<;>split at h<;>omega
theorem tu_ne {e k:Nat}:tu e k≠e+1:=by unfold tu; split<;>omega
theorem tu_e {e k:Nat}:tu e k=e↔k=e:=by unfold tu; split<;>omega
theorem tu_cases {e j:Nat}:j=e∨j=e+1∨∃k,k≠e∧j=tu e k:=by
 unfold tu
 by_cases h:j≤e
 ·
  by_cases h2:j=e
  · exact .inl h2
  · exact .inr (.inr ⟨j,h2,by rw [if_pos h]⟩)
 ·
  by_cases h2:j=e+1
  · exact .inr (.inl h2)
  · exact .inr (.inr ⟨j-1,by omega,by rw [if_neg (by omega)]; omega⟩)
structure Sb (es es':List Ed) (e:Nat) (m:Pt):Prop where
 len:es'.length=es.length+1
 lt:e<es.length
 old: ∀i,i<es.length→i≠e→endsE false (eAt es' (tu e i))=endsE false (eAt es i)
 h1:endsE false (eAt es' e)=((eAt es e).1,m)
 h2:endsE false (eAt es' (e+1))=(m,(eAt es e).2.1)
 nx: ∀i,i<es.length→i≠e→nxE es' (tu e i)=tu e (nxE es i)
 nx1:nxE es' e=e+1
 nx2:nxE es' (e+1)=tu e (nxE es e)
 mid:Mid (eAt es e).1 (eAt es e).2.1 m
 fit:Fit m
def sd (es:List Ed) (e:Nat) (m:Pt) (i k:Nat):Nat:=if i=e then (if (cr (eAt es e).1 m (eAt es k).1 (eAt es k).2.1).1=1 then e else e+1) else tu e i
theorem psg_sym {es:List Ed} {i k:Nat} {o:Bool} (h:psg es i k=some ((k:Int),o)):psg es k i=some ((i:Int),!o):=by
 obtain ⟨_,h2,h3,h4,h5⟩:=psg_some.1 h
 obtain ⟨c1,c2,_⟩:=cr_exch (eAt es i).1 (eAt es i).2.1 (eAt es k).1 (eAt es k).2.1
 refine psg_some.2 ⟨rfl,fun e=>h2 e.symm,fun q=>h3 (adj_symm.1 q),by rw [c1,h4],?_⟩
 rw [c2 h4,←h5]
theorem psg_fst {es:List Ed} {i k:Nat} {x:Int×Bool} (h:psg es i k=some x):x=((k:Int),x.2):=Prod.ext (psg_some.1 h).1 rfl
section
variable {es es' : List Ed} {vs vs' : List (List Nat)} {e : Nat} {m : Pt} (hF : FitE es) (hF' : FitE es') (hN : es.length ≤ 100000000) (R : Rg es vs) (R' : Rg es' vs') (hg' : GenE es') (G : Sb es es' e m)
include G in
theorem Sb.tlt {i:Nat} (hi:i<es.length):tu e i<es'.length:=by rw [G.len]; unfold tu; split<;>omega
include G in
theorem Sb.oa {i:Nat} (hi:i<es.length) (hne:i≠e):(eAt es' (tu e i)).1=(eAt es i).1∧(eAt es' (tu e i)).2.1=(eAt es i).2.1:=by
 have:=G.old i hi hne
 exact ⟨(Prod.mk.inj this).1,(Prod.mk.inj this).2⟩
include G in
theorem Sb.a1:(eAt es' e).1=(eAt es e).1∧(eAt es' e).2.1=m:=⟨(Prod.mk.inj G.h1).1,(Prod.mk.inj G.h1).2⟩
include G in
theorem Sb.a2:(eAt es' (e+1)).1=m∧(eAt es' (e+1)).2.1=(eAt es e).2.1:=⟨(Prod.mk.inj G.h2).1,(Prod.mk.inj G.h2).2⟩
include R R' G in
theorem Sb.far {i k:Nat} (hi:i<es.length) (hk:k<es.length) (hie:i≠e) (hke:k≠e) (o:Bool):psg es' (tu e i) (tu e k)=some (((tu e k:Nat):Int),o)↔psg es i k=some ((k:Int),o):=by
 obtain ⟨a1,a2⟩:=G.oa hi hie
 obtain ⟨b1,b2⟩:=G.oa hk hke
 rw [psg_some,psg_some,a1,a2,b1,b2,R.adj hi hk,R'.adj (G.tlt hi) (G.tlt hk),G.nx i hi hie,G.nx k hk hke]
 constructor
 ·
  rintro ⟨_,h2,h3,h4⟩
  exact ⟨rfl,fun q=>h2 (by rw [q]),fun q=>h3 (q.imp (congrArg _) (congrArg _)),h4⟩
 ·
  rintro ⟨_,h2,h3,h4⟩
  exact ⟨rfl,fun q=>h2 (tu_inj q),fun q=>h3 (q.imp tu_inj tu_inj),h4⟩
theorem T_self1 (a b:Pt):T a b a=0:=by unfold T; grind
theorem T_self2 (a b:Pt):T a b b=0:=by unfold T; grind
include hF R R' hg' G in
theorem Sb.near {k:Nat} (hk:k<es.length) (hke:k≠e) {o:Bool} (h:psg es e k=some ((k:Int),o)):psg es' (sd es e m e k) (tu e k)=some (((tu e k:Nat):Int),o):=by
 obtain ⟨_,h2,h3,h4,h5⟩:=psg_some.1 h
 dsimp only at h5
 obtain ⟨o1,o2⟩:=cr_one h4
 obtain ⟨a1,a2⟩:=G.a1
 obtain ⟨c1,c2⟩:=G.a2
 obtain ⟨b1,b2⟩:=G.oa hk hke
 have fe:=hF.at G.lt
 have fk:=hF.at hk
 have hf:Fit (eAt es e).1∧Fit (eAt es e).2.1∧Fit (eAt es k).1∧Fit (eAt es k).2.1:=⟨fe.1,fe.2,fk.1,fk.2⟩
 have t0:=T_mid3 (c:=(eAt es e).1) (d:=(eAt es e).2.1) G.mid
 rw [T_self1,T_self2] at t0
 rw [R.adj G.lt hk] at h3
 have tk:=G.tlt hk
 have hTM:T (eAt es k).1 (eAt es k).2.1 m≠0:=fun q=>by
  have hon:=on_of_lines o1 (by omega:T (eAt es e).1 (eAt es e).2.1 m=0) q
  refine (hg' (tu e k) tk).1 (e+1) (by rw [G.len]; have:=G.lt; omega) (fun q=>tu_ne q.symm) (.inr (.inl ⟨?_,?_⟩))
  ·
   rw [R'.fst (e+1) (by rw [G.len]; have:=G.lt; omega),R'.lst _ tk,G.nx k hk hke]
   intro q
   exact tu_ne (by omega:tu e (nxE es k)=e+1)
  · rw [b1,b2,c1]; exact hon
 have t3:=T_mid3 (c:=(eAt es k).1) (d:=(eAt es k).2.1) G.mid
 have he1:e<es'.length:=by rw [G.len]; have:=G.lt; omega
 have he2:e+1<es'.length:=by rw [G.len]; have:=G.lt; omega
 unfold sd
 rw [if_pos rfl]
 by_cases hc:(cr (eAt es e).1 m (eAt es k).1 (eAt es k).2.1).1=1
 ·
  rw [if_pos hc]
  obtain ⟨q1,_⟩:=half1_cross G.mid hf G.fit hc
  refine psg_some.2 ⟨rfl,fun q=>hke (tu_e.1 q),fun q=>?_,by rw [a1,a2,b1,b2]; exact hc,by rw [a1,a2,b1,b2,q1]; exact h5⟩
  rw [R'.adj he1 tk,G.nx1,G.nx k hk hke] at q
  rcases q with q | q
  · exact tu_ne q
  · exact h3 (.inr (tu_e.1 q.symm).symm)
 ·
  rw [if_neg hc]
  have hn: ¬Opp (T (eAt es k).1 (eAt es k).2.1 (eAt es e).1) (T (eAt es k).1 (eAt es k).2.1 m):=fun q=>hc (by rw [cr_half1 G.mid hf G.fit o1 q]; exact h4)
  have hm:Opp (T (eAt es k).1 (eAt es k).2.1 m) (T (eAt es k).1 (eAt es k).2.1 (eAt es e).2.1):=by unfold Opp at *; omega
  have q1:=cr_half2 G.mid hf G.fit o1 hm
  refine psg_some.2 ⟨rfl,tu_ne,fun q=>?_,by rw [c1,c2,b1,b2,q1]; exact h4,by rw [c1,c2,b1,b2,q1]; exact h5⟩
  rw [R'.adj he2 tk,G.nx2,G.nx k hk hke] at q
  rcases q with q | q
  · exact h3 (.inl (tu_inj q))
  · exact tu_ne q.symm
include hF R G in
theorem Sb.near' {j k:Nat} (hk:k<es.length) (hke:k≠e) (hj:j=e∨j=e+1) {o:Bool} (h:psg es' j (tu e k)=some (((tu e k:Nat):Int),o)):psg es e k=some ((k:Int),o)∧j=sd es e m e k:=by
 obtain ⟨_,h2,h3,h4,h5⟩:=psg_some.1 h
 dsimp only at h5
 obtain ⟨a1,a2⟩:=G.a1
 obtain ⟨c1,c2⟩:=G.a2
 obtain ⟨b1,b2⟩:=G.oa hk hke
 have fe:=hF.at G.lt
 have fk:=hF.at hk
 have hf:Fit (eAt es e).1∧Fit (eAt es e).2.1∧Fit (eAt es k).1∧Fit (eAt es k).2.1:=⟨fe.1,fe.2,fk.1,fk.2⟩
 have nadj:Opp (T (eAt es e).1 (eAt es e).2.1 (eAt es k).1) (T (eAt es e).1 (eAt es e).2.1 (eAt es k).2.1)→¬Adj (eAt es e) (eAt es k):=fun op q=>by
  rw [R.adj G.lt hk] at q
  rcases q with q | q
  ·
   have:=R.jn e G.lt
   rw [←q] at this
   rw [this,T_self2] at op
   unfold Opp at op; omega
  ·
   have:=R.jn k hk
   rw [←q] at this
   rw [←this,T_self1] at op
   unfold Opp at op; omega
 rcases hj with rfl | rfl
 ·
  rw [a1,a2,b1,b2] at h4 h5
  obtain ⟨q1,q2,q3,q4⟩:=half1_cross G.mid hf G.fit h4
  refine ⟨psg_some.2 ⟨rfl,hke,nadj q2,by rw [←q1]; exact h4,by rw [←q1]; exact h5⟩,?_⟩
  unfold sd
  rw [if_pos rfl,if_pos h4]
 ·
  rw [c1,c2,b1,b2] at h4 h5
  obtain ⟨q1,q2,q3,q4⟩:=half2_cross G.mid hf G.fit h4
  refine ⟨psg_some.2 ⟨rfl,hke,nadj q2,by rw [←q1]; exact h4,by rw [←q1]; exact h5⟩,?_⟩
  unfold sd
  rw [if_pos rfl,if_neg]
  intro hc
  obtain ⟨_,_,p3,p4⟩:=half1_cross G.mid hf G.fit hc
  unfold Opp at*
  omega
def ro (es:List Ed) (e:Nat) (m:Pt) (i:Nat) (x:Int×Bool):Int×Bool:=((sd es e m x.1.toNat i:Int),x.2)
theorem nd_of {l:List (Int×Bool)} (h:(l.map (·.1)).Nodup):l.Nodup:=by
 unfold List.Nodup at h⊢
 rw [List.pairwise_map] at h
 exact h.imp fun hab q=>hab (by rw [q])
theorem psg_other {es:List Ed} {i k:Nat} {x:Int×Bool} (h:psg es i k=some x):k≠i:=(psg_some.1 h).2.1
include hF hF' hN R R' hg' G in
theorem Sb.memO {i:Nat} (hi:i<es.length) (hie:i≠e) (y:Int×Bool):y∈srt es' (tu e i)↔∃x∈srt es i,ro es e m i x=y:=by
 have hN':es'.length≤1000000000:=by rw [G.len]; omega
 have lt:=G.lt
 rw [mem_srt hF' hN' (G.tlt hi)]
 constructor
 ·
  rintro ⟨j,hj,h⟩
  have hy:=psg_fst h
  rw [hy] at h⊢
  rcases tu_cases (e:=e) (j:=j) with q | q | ⟨k,hke,rfl⟩
  ·
   have:=psg_sym h
   obtain ⟨n1,n2⟩:=G.near' hF R hi hie (.inl q) this
   refine ⟨_,(mem_srt hF (by omega) hi).2 ⟨e,lt,psg_sym n1⟩,?_⟩
   unfold ro
   dsimp only
   rw [Int.toNat_natCast,←n2,Bool.not_not]
  ·
   have:=psg_sym h
   obtain ⟨n1,n2⟩:=G.near' hF R hi hie (.inr q) this
   refine ⟨_,(mem_srt hF (by omega) hi).2 ⟨e,lt,psg_sym n1⟩,?_⟩
   unfold ro
   dsimp only
   rw [Int.toNat_natCast,←n2,Bool.not_not]
  ·
   have hk:k<es.length:=by
    rw [G.len] at hj
    unfold tu at hj
    split at hj<;>omega
   refine ⟨_,(mem_srt hF (by omega) hi).2 ⟨k,hk,(G.far R R' hi hk hie hke y.2).1 h⟩,?_⟩
   unfold ro sd
   dsimp only
   rw [Int.toNat_natCast,if_neg hke]
 ·
  rintro ⟨x,hx,rfl⟩
  obtain ⟨k,hk,h⟩:=(mem_srt hF (by omega) hi).1 hx
  have hxf:=psg_fst h
  rw [hxf] at h
  have e0:ro es e m i x=((sd es e m k i:Int),x.2):=by
   unfold ro
   rw [hxf]; dsimp only; rw [Int.toNat_natCast]
  rw [e0]
  by_cases hke:k=e
  ·
   subst hke
   have:=G.near hF R R' hg' hi hie (psg_sym h)
   have h2:=psg_sym this
   rw [Bool.not_not] at h2
   refine ⟨_,?_,h2⟩
   rw [G.len]; unfold sd; rw [if_pos rfl]; split<;>omega
  ·
   refine ⟨tu e k,G.tlt hk,?_⟩
   have:=(G.far R R' hi hk hie hke x.2).2 h
   unfold sd
   rw [if_neg hke]; exact this
theorem cmp_scale {px wx py wy qx vx qy vy c d:Int} (hc:c=1∨c=2) (hd:d=1∨d=2) (h1:c*qx=px) (h2:c*vx=wx) (h3:d*qy=py) (h4:d*vy=wy):qx*vy-qy*vx<0↔px*wy-py*wx<0:=by
 have:px*wy-py*wx=(c*d)*(qx*vy-qy*vx):=by rw [←h1,←h2,←h3,←h4]; grind
 rw [this]
 rcases hc with rfl | rfl<;>rcases hd with rfl | rfl<;>omega
include hF hN G in
theorem Sb.cmpO {i:Nat} (hi:i<es.length) (hie:i≠e) {x y:Int×Bool} (hx:x∈srt es i) (hy:y∈srt es i):cmpS es' (tu e i) (ro es e m i x) (ro es e m i y)<0↔cmpS es i x y<0:=by
 obtain ⟨i1,i2⟩:=G.oa hi hie
 have one: ∀{x:Int×Bool},x∈srt es i→∃c:Int,(c=1∨c=2)∧c*prt (eAt es' (tu e i)) (eAt es' (ro es e m i x).1.toNat)=prt (eAt es i) (eAt es x.1.toNat)∧c*whl (eAt es' (tu e i)) (eAt es' (ro es e m i x).1.toNat)=whl (eAt es i) (eAt es x.1.toNat):=by
  intro x hx
  obtain ⟨k,hk,h⟩:=(mem_srt hF (by omega) hi).1 hx
  have hxf:=psg_fst h
  unfold ro prt whl
  rw [i1,i2,hxf]
  dsimp only
  rw [Int.toNat_natCast,Int.toNat_natCast]
  by_cases hke:k=e
  ·
   subst hke
   refine ⟨2,.inr rfl,?_⟩
   obtain ⟨a1,a2⟩:=G.a1
   obtain ⟨c1,c2⟩:=G.a2
   unfold sd
   rw [if_pos rfl]
   have t1:=T_mid1 (c:=(eAt es i).1) G.mid
   have t2:=T_mid1 (c:=(eAt es i).2.1) G.mid
   have t3:=T_mid2 (c:=(eAt es i).1) G.mid
   have t4:=T_mid2 (c:=(eAt es i).2.1) G.mid
   split
   · rw [a1,a2]; omega
   · rw [c1,c2]; omega
  ·
   obtain ⟨b1,b2⟩:=G.oa hk hke
   refine ⟨1,.inl rfl,?_⟩
   unfold sd
   rw [if_neg hke,b1,b2]
   omega
 obtain ⟨c,hc,p1,w1⟩:=one hx
 obtain ⟨d,hd,p2,w2⟩:=one hy
 unfold cmpS
 exact cmp_scale hc hd p1 w1 p2 w2
include hF hF' hN R R' hg' G in
theorem Sb.rowO (hg:GenE es) {i:Nat} (hi:i<es.length) (hie:i≠e):srt es' (tu e i)=(srt es i).map (ro es e m i):=by
 have hN':es'.length≤1000000000:=by rw [G.len]; omega
 have ti:=G.tlt hi
 have nt:=nt_of hF (by omega) R
 have nt':=nt_of hF' hN' R'
 have hs:=srt_strict hF (by omega) hi (hg i hi).2
 have h2:(srt es' (tu e i)).Pairwise (fun x y=> ¬cmpS es' (tu e i) y x<0):=(sortL_perm (sort_eq hF' ti hN' 0).2).2
 refine (sorted_one (S:=fun x y=>cmpS es' (tu e i) x y<0) ?_ ?_ h2 fun a _ b _ s r=>r s).symm
 ·
  refine nd_perm' (nodup_map (nd_of (nt.row i hi)) fun x hx y hy q=>?_) (nd_of (nt'.row _ ti)) fun y=>?_
  ·
   obtain ⟨k,hk,h⟩:=(mem_srt hF (by omega) hi).1 hx
   obtain ⟨k',hk',h'⟩:=(mem_srt hF (by omega) hi).1 hy
   have e1:=(psg_some.1 h).1
   have e2:=(psg_some.1 h').1
   unfold ro at q
   obtain ⟨q1,q2⟩:=Prod.mk.inj q
   rw [e1,e2,Int.toNat_natCast,Int.toNat_natCast] at q1
   have:k=k':=by
    have q1:sd es e m k i=sd es e m k' i:=by omega
    unfold sd at q1
    by_cases a:k=e<;>by_cases b:k'=e
    · omega
    ·
     rw [if_pos a,if_neg b] at q1
     split at q1
     · exact absurd (tu_e.1 q1.symm) b
     · exact absurd q1.symm tu_ne
    ·
     rw [if_neg a,if_pos b] at q1
     split at q1
     · exact absurd (tu_e.1 q1) a
     · exact absurd q1 tu_ne
    ·
     rw [if_neg a,if_neg b] at q1
     exact tu_inj q1
   exact Prod.ext (by rw [e1,e2,this]) q2
  ·
   rw [List.mem_map]
   exact (G.memO hF hF' hN R R' hg' hi hie y).symm
 ·
  rw [List.pairwise_map]
  exact List.Pairwise.imp_of_mem (fun {a b} ha hb h=>(G.cmpO hF hN hi hie ha hb).2 h) hs
theorem filter_split {α:Type} {h:α→Bool}: ∀{l:List α},l.Pairwise (fun x y=> ¬(h x=false∧h y=true))→l=l.filter h++l.filter fun x=>!h x
 | [],_=>rfl
 | a::l,hp=>by
  obtain ⟨h1,h2⟩:=List.pairwise_cons.1 hp
  have ih:=filter_split h2
  cases ha:h a with
  | true=>
   rw [List.filter_cons,if_pos ha,List.filter_cons,if_neg (by simp [ha]),List.cons_append,←ih]
  | false=>
   have hall:l.filter h=[]:=List.filter_eq_nil_iff.2 fun b hb q=>h1 b hb ⟨ha,q⟩
   rw [List.filter_cons,if_neg (by simp [ha]),List.filter_cons,if_pos (by simp [ha]),hall,List.nil_append]
   rw [hall,List.nil_append] at ih
   rw [←ih]
def rt (e:Nat) (x:Int×Bool):Int×Bool:=((tu e x.1.toNat:Int),x.2)
def hf1 (es:List Ed) (e:Nat) (m:Pt) (x:Int×Bool):Bool:=decide (sd es e m e x.1.toNat=e)
include hF hF' hN R R' hg' G in
theorem Sb.memE {j:Nat} (hj:j=e∨j=e+1) (y:Int×Bool):y∈srt es' j↔∃x∈srt es e,sd es e m e x.1.toNat=j∧rt e x=y:=by
 have hN':es'.length≤1000000000:=by rw [G.len]; omega
 have lt:=G.lt
 have hjl:j<es'.length:=by rw [G.len]; omega
 rw [mem_srt hF' hN' hjl]
 constructor
 ·
  rintro ⟨j',hj',h⟩
  have hy:=psg_fst h
  have hne:=psg_other h
  rw [hy] at h⊢
  have hcase: ∃k,k<es.length∧k≠e∧j'=tu e k:=by
   rcases tu_cases (e:=e) (j:=j') with q | q | ⟨k,hke,rfl⟩
   ·
    exfalso
    have:j=e+1:=by omega
    subst this q
    obtain ⟨_,_,h3,_⟩:=psg_some.1 h
    exact h3 ((R'.adj hjl (by rw [G.len]; omega)).2 (.inr G.nx1.symm))
   ·
    exfalso
    have:j=e:=by omega
    subst this q
    obtain ⟨_,_,h3,_⟩:=psg_some.1 h
    exact h3 ((R'.adj hjl (by rw [G.len]; omega)).2 (.inl G.nx1.symm))
   ·
    refine ⟨k,?_,hke,rfl⟩
    rw [G.len] at hj'
    unfold tu at hj'
    split at hj'<;>omega
  obtain ⟨k,hk,hke,rfl⟩:=hcase
  obtain ⟨n1,n2⟩:=G.near' hF R hk hke hj h
  refine ⟨_,(mem_srt hF (by omega) lt).2 ⟨k,hk,n1⟩,?_,?_⟩
  · dsimp only; rw [Int.toNat_natCast]; exact n2.symm
  · unfold rt; dsimp only; rw [Int.toNat_natCast]
 ·
  rintro ⟨x,hx,h1,rfl⟩
  obtain ⟨k,hk,h⟩:=(mem_srt hF (by omega) lt).1 hx
  have hke:=psg_other h
  have hxf:=psg_fst h
  rw [hxf] at h h1
  dsimp only at h1
  rw [Int.toNat_natCast] at h1
  refine ⟨tu e k,G.tlt hk,?_⟩
  have:=G.near hF R R' hg' hk hke h
  rw [h1] at this
  rw [this]
  unfold rt
  rw [hxf]
  dsimp only
  rw [Int.toNat_natCast]
include hF hN R R' hg' G in
theorem Sb.half {x:Int×Bool} (hx:x∈srt es e):0<whl (eAt es e) (eAt es x.1.toNat)∧(hf1 es e m x=true→prt (eAt es' e) (eAt es' (rt e x).1.toNat)=prt (eAt es e) (eAt es x.1.toNat)∧2*whl (eAt es' e) (eAt es' (rt e x).1.toNat)=whl (eAt es e) (eAt es x.1.toNat)∧2*prt (eAt es e) (eAt es x.1.toNat)<whl (eAt es e) (eAt es x.1.toNat))∧
  (hf1 es e m x=false→2*prt (eAt es' (e+1)) (eAt es' (rt e x).1.toNat)=2*prt (eAt es e) (eAt es x.1.toNat)-whl (eAt es e) (eAt es x.1.toNat)∧2*whl (eAt es' (e+1)) (eAt es' (rt e x).1.toNat)=whl (eAt es e) (eAt es x.1.toNat)∧whl (eAt es e) (eAt es x.1.toNat)<2*prt (eAt es e) (eAt es x.1.toNat)):=by
 have lt:=G.lt
 obtain ⟨k,hk,h⟩:=(mem_srt hF (by omega) lt).1 hx
 have hke:=psg_other h
 have hxf:=psg_fst h
 have hcr:=(psg_some.1 h).2.2.2.1
 obtain ⟨o1,o2⟩:=cr_one hcr
 rw [hxf] at h
 have hn:=G.near hF R R' hg' hk hke h
 obtain ⟨b1,b2⟩:=G.oa hk hke
 obtain ⟨a1,a2⟩:=G.a1
 obtain ⟨c1,c2⟩:=G.a2
 have t3:=T_mid3 (c:=(eAt es k).1) (d:=(eAt es k).2.1) G.mid
 have hx1:x.1.toNat=k:=by rw [hxf]; dsimp only; omega
 have e1:(rt e x).1.toNat=tu e k:=by unfold rt; dsimp only; rw [hx1]; omega
 unfold hf1
 rw [e1,hx1]
 unfold prt whl
 rw [b1,b2]
 have hop:=(cr_one (psg_some.1 hn).2.2.2.1).2
 rw [b1,b2] at hop
 refine ⟨by unfold Opp at o2; omega,fun q=>?_,fun q=>?_⟩
 ·
  have q:=of_decide_eq_true q
  rw [q,a1,a2] at hop
  rw [a1,a2]
  unfold Opp at o2 hop
  omega
 ·
  have q:=of_decide_eq_false q
  have q2:sd es e m e k=e+1:=by
   unfold sd at q⊢
   rw [if_pos rfl] at q⊢
   split
   · rename_i z; rw [if_pos z] at q; exact absurd rfl q
   · rfl
  rw [q2,c1,c2] at hop
  rw [c1,c2]
  unfold Opp at o2 hop
  omega
include hF hF' hN R R' hg' G in
theorem Sb.rowE (hg:GenE es):srt es' e++srt es' (e+1)=(srt es e).map (rt e):=by
 have hN':es'.length≤1000000000:=by rw [G.len]; omega
 have lt:=G.lt
 have nt:=nt_of hF (by omega) R
 have nt':=nt_of hF' hN' R'
 have hs:=srt_strict hF (by omega) lt (hg e lt).2
 have half:=fun x hx=>G.half hF hN R R' hg' (x:=x) hx
 have hinj: ∀x∈srt es e,∀y∈srt es e,rt e x=rt e y→x=y:=fun x hx y hy q=>by
  obtain ⟨k,hk,h⟩:=(mem_srt hF (by omega) lt).1 hx
  obtain ⟨k',hk',h'⟩:=(mem_srt hF (by omega) lt).1 hy
  have e1:=(psg_some.1 h).1
  have e2:=(psg_some.1 h').1
  unfold rt at q
  obtain ⟨q1,q2⟩:=Prod.mk.inj q
  rw [e1,e2,Int.toNat_natCast,Int.toNat_natCast] at q1
  have:=tu_inj (show tu e k=tu e k' by omega)
  exact Prod.ext (by rw [e1,e2,this]) q2
 have hsplit:=filter_split (h:=hf1 es e m) (l:=srt es e) (List.Pairwise.imp_of_mem (fun {x y} hx hy h=>by
  rintro ⟨q1,q2⟩
  obtain ⟨wx,_,hx2⟩:=half x hx
  obtain ⟨wy,hy2,_⟩:=half y hy
  obtain ⟨_,_,px⟩:=hx2 q1
  obtain ⟨_,_,py⟩:=hy2 q2
  unfold cmpS at h
  generalize prt (eAt es e) (eAt es x.1.toNat)=p1 at*
  generalize prt (eAt es e) (eAt es y.1.toNat)=p2 at*
  generalize whl (eAt es e) (eAt es x.1.toNat)=w1 at*
  generalize whl (eAt es e) (eAt es y.1.toNat)=w2 at*
  have z1:w1*w2<2*p1*w2:=Int.mul_lt_mul_of_pos_right px wy
  have z2:2*p2*w1<w2*w1:=Int.mul_lt_mul_of_pos_right py wx
  have z3:w2*w1=w1*w2:=Int.mul_comm _ _
  have z4:2*p1*w2=2*(p1*w2):=by grind
  have z5:2*p2*w1=2*(p2*w1):=by grind
  omega) hs)
 have sdc: ∀k,sd es e m e k=e∨sd es e m e k=e+1:=fun k=>by
  unfold sd
  rw [if_pos rfl]
  split
  · exact .inl rfl
  · exact .inr rfl
 have part: ∀(j:Nat) (b:Bool),(j=e∧b=true∨j=e+1∧b=false)→srt es' j=((srt es e).filter fun x=>hf1 es e m x == b).map (rt e):=by
  intro j b hjb
  have hj:j=e∨j=e+1:=by rcases hjb with ⟨q,_⟩ | ⟨q,_⟩<;>omega
  have hjl:j<es'.length:=by rw [G.len]; omega
  have h2:(srt es' j).Pairwise (fun x y=> ¬cmpS es' j y x<0):=(sortL_perm (sort_eq hF' hjl hN' 0).2).2
  refine (sorted_one (S:=fun x y=>cmpS es' j x y<0) ?_ ?_ h2 fun a _ b _ s r=>r s).symm
  ·
   refine nd_perm' (nodup_map (List.Nodup.sublist List.filter_sublist (nd_of (nt.row e lt))) fun x hx y hy q=>hinj x (List.mem_filter.1 hx).1 y (List.mem_filter.1 hy).1 q) (nd_of (nt'.row _ hjl)) fun y=>?_
   rw [G.memE hF hF' hN R R' hg' hj,List.mem_map]
   constructor
   ·
    rintro ⟨x,hx,q⟩
    obtain ⟨h3,h4⟩:=List.mem_filter.1 hx
    refine ⟨x,h3,?_,q⟩
    unfold hf1 at h4
    rcases hjb with ⟨rfl,rfl⟩ | ⟨rfl,rfl⟩
    · simpa using h4
    ·
     have: ¬sd es e m e x.1.toNat=e:=by simpa using h4
     rcases sdc x.1.toNat with z | z
     · exact absurd z this
     · exact z
   ·
    rintro ⟨x,hx,h3,q⟩
    refine ⟨x,List.mem_filter.2 ⟨hx,?_⟩,q⟩
    unfold hf1
    rcases hjb with ⟨rfl,rfl⟩ | ⟨rfl,rfl⟩
    · simp [h3]
    · rw [h3]; simp
  ·
   rw [List.pairwise_map]
   refine List.Pairwise.imp_of_mem (fun {x y} hx hy h=>?_) (List.Pairwise.sublist List.filter_sublist hs)
   obtain ⟨hx1,hx2⟩:=List.mem_filter.1 hx
   obtain ⟨hy1,hy2⟩:=List.mem_filter.1 hy
   obtain ⟨wx,fx1,fx2⟩:=half x hx1
   obtain ⟨wy,fy1,fy2⟩:=half y hy1
   unfold cmpS at h⊢
   rcases hjb with ⟨rfl,rfl⟩ | ⟨rfl,rfl⟩
   ·
    obtain ⟨u1,u2,_⟩:=fx1 (by simpa using hx2)
    obtain ⟨v1,v2,_⟩:=fy1 (by simpa using hy2)
    rw [u1,v1]
    generalize prt (eAt es j) (eAt es x.1.toNat)=p1 at*
    generalize prt (eAt es j) (eAt es y.1.toNat)=p2 at*
    generalize whl (eAt es' j) (eAt es' (rt j x).1.toNat)=q1 at*
    generalize whl (eAt es' j) (eAt es' (rt j y).1.toNat)=q2 at*
    rw [←u2,←v2] at h
    have z1:p1*(2*q2)=2*(p1*q2):=by grind
    have z2:p2*(2*q1)=2*(p2*q1):=by grind
    omega
   ·
    obtain ⟨u1,u2,_⟩:=fx2 (by simpa using hx2)
    obtain ⟨v1,v2,_⟩:=fy2 (by simpa using hy2)
    generalize prt (eAt es' (e+1)) (eAt es' (rt e x).1.toNat)=r1 at*
    generalize prt (eAt es' (e+1)) (eAt es' (rt e y).1.toNat)=r2 at*
    generalize whl (eAt es' (e+1)) (eAt es' (rt e x).1.toNat)=q1 at*
    generalize whl (eAt es' (e+1)) (eAt es' (rt e y).1.toNat)=q2 at*
    generalize prt (eAt es e) (eAt es x.1.toNat)=p1 at*
    generalize prt (eAt es e) (eAt es y.1.toNat)=p2 at*
    rw [←u2,←v2] at h
    have e1:p1=r1+q1:=by omega
    have e2:p2=r2+q2:=by omega
    have:p1*(2*q2)-p2*(2*q1)=2*(r1*q2-r2*q1):=by rw [e1,e2]; grind
    omega
 have p1:=part e true (.inl ⟨rfl,rfl⟩)
 have p2:=part (e+1) false (.inr ⟨rfl,rfl⟩)
 rw [p1,p2,←List.map_append]
 congr 1
 conv=>rhs; rw [hsplit]
 congr 1
 · exact List.filter_congr fun x _=>by cases hf1 es e m x<;>rfl
 · exact List.filter_congr fun x _=>by cases hf1 es e m x<;>rfl
end
def putP (p:List Pt) (e:Nat) (m:Pt):List Pt:=p.take (e+1)++m::p.drop (e+1)
theorem putP_len {p:List Pt} {e:Nat} {m:Pt} (he:e<p.length):(putP p e m).length=p.length+1:=by
 unfold putP
 rw [List.length_append,List.length_cons,List.length_take,List.length_drop]; omega
theorem putP_at {p:List Pt} {e:Nat} {m:Pt} (he:e<p.length) (j:Nat):(putP p e m).getD j p0=if j≤e then p.getD j p0 else if j=e+1 then m else p.getD (j-1) p0:=by
 unfold putP
 rw [List.getD_eq_getElem?_getD,List.getD_eq_getElem?_getD,List.getD_eq_getElem?_getD]
 have hl:(p.take (e+1)).length=e+1:=by rw [List.length_take]; omega
 by_cases h1:j≤e
 · rw [if_pos h1,List.getElem?_append_left (by omega),List.getElem?_take_of_lt (by omega)]
 ·
  rw [if_neg h1,List.getElem?_append_right (by omega),hl]
  by_cases h2:j=e+1
  · rw [if_pos h2,h2,Nat.sub_self]; rfl
  · rw [if_neg h2,show j-(e+1)=(j-(e+2))+1 by omega,List.getElem?_cons_succ,List.getElem?_drop,show e+1+(j-(e+2))=j-1 by omega]
section
variable {l1 l2 : List (List Pt)} {p : List Pt} {e : Nat} {m : Pt} (he : e < p.length)
include he
theorem sb_of (hm:Mid (p.getD e p0) (p.getD ((e+1)%p.length) p0) m) (hf:Fit m):Sb (edS 0 (l1++p::l2)) (edS 0 (l1++putP p e m::l2)) (sumlen l1+e) m:=by
 have hpl:=putP_len (m:=m) he
 have ea:eAt (edS 0 (l1++p::l2)) (sumlen l1+e)=mkE (sumlen l1) p e:=eAt_dec he
 have hs:sumlen (l1++p::l2)=sumlen l1+(p.length+sumlen l2):=by rw [sumlen_app,sumlen_cons]
 have hs':sumlen (l1++putP p e m::l2)=sumlen l1+(p.length+1+sumlen l2):=by rw [sumlen_app,sumlen_cons,hpl]
 have n1:eAt (edS 0 (l1++putP p e m::l2)) (sumlen l1+e)=mkE (sumlen l1) (putP p e m) e:=eAt_dec (by omega)
 have n2:eAt (edS 0 (l1++putP p e m::l2)) (sumlen l1+e+1)=mkE (sumlen l1) (putP p e m) (e+1):=by rw [Nat.add_assoc]; exact eAt_dec (by omega)
 have wrap:(e+2)%(p.length+1)=if e+1<p.length then e+2 else 0:=by
  split
  · rw [Nat.mod_eq_of_lt (by omega)]
  · rw [show e+2=p.length+1 by omega,Nat.mod_self]
 have wrap0:(e+1)%p.length=if e+1<p.length then e+1 else 0:=by
  split
  · rw [Nat.mod_eq_of_lt (by omega)]
  · rw [show e+1=p.length by omega,Nat.mod_self]
 -- where an old edge lies
 have main: ∀i,i<sumlen (l1++p::l2)→i≠sumlen l1+e→endsE false (eAt (edS 0 (l1++putP p e m::l2)) (tu (sumlen l1+e) i))=endsE false (eAt (edS 0 (l1++p::l2)) i)∧nxE (edS 0 (l1++putP p e m::l2)) (tu (sumlen l1+e) i)=tu (sumlen l1+e) (nxE (edS 0 (l1++p::l2)) i):=by
  intro i hi hie
  rw [hs] at hi
  by_cases c1:i<sumlen l1
  ·
   obtain ⟨x,q,y,t,ex,ht,ei⟩:=dec_at l1 i c1
   have f1:l1++p::l2=x++q::(y++p::l2):=by rw [ex]; simp
   have f2:l1++putP p e m::l2=x++q::(y++putP p e m::l2):=by rw [ex]; simp
   have hsx:sumlen l1=sumlen x+(q.length+sumlen y):=by rw [ex,sumlen_app,sumlen_cons]
   have hmod:=Nat.mod_lt (t+1) (show 0<q.length by omega)
   rw [show tu (sumlen l1+e) i=i from if_pos (by omega)]
   rw [f1,f2,ei,eAt_dec ht,eAt_dec ht,nx_dec ht,nx_dec ht]
   exact ⟨rfl,(if_pos (by omega)).symm⟩
  ·
   by_cases c2:i<sumlen l1+p.length
   ·
    obtain ⟨t,rfl⟩: ∃t,i=sumlen l1+t:=⟨i-sumlen l1,by omega⟩
    have ht:t<p.length:=by omega
    rw [eAt_dec ht,nx_dec ht]
    by_cases c3:t<e
    ·
     rw [show tu (sumlen l1+e) (sumlen l1+t)=sumlen l1+t from if_pos (by omega),eAt_dec (by omega),nx_dec (by omega)]
     have q1:(t+1)%p.length=t+1:=Nat.mod_eq_of_lt (by omega)
     have q2:(t+1)%(putP p e m).length=t+1:=Nat.mod_eq_of_lt (by omega)
     unfold mkE endsE
     simp only [Bool.false_eq_true,if_false]
     rw [q1,q2,putP_at he,putP_at he,if_pos (by omega),if_pos (by omega)]
     exact ⟨rfl,(if_pos (by omega)).symm⟩
    ·
     have c4:e<t:=by omega
     rw [show tu (sumlen l1+e) (sumlen l1+t)=sumlen l1+(t+1) from (if_neg (by omega)).trans (by omega),eAt_dec (by omega),nx_dec (by omega)]
     unfold mkE endsE
     simp only [Bool.false_eq_true,if_false]
     rw [hpl,putP_at he,if_neg (by omega),if_neg (by omega)]
     by_cases c5:t+1<p.length
     ·
      rw [show (t+1+1)%(p.length+1)=t+2 from Nat.mod_eq_of_lt (by omega),show (t+1)%p.length=t+1 from Nat.mod_eq_of_lt c5,putP_at he,if_neg (by omega),if_neg (by omega)]
      exact ⟨rfl,((if_neg (by omega)).trans (by omega)).symm⟩
     ·
      rw [show (t+1+1)%(p.length+1)=0 from by rw [show t+1+1=p.length+1 by omega,Nat.mod_self],show (t+1)%p.length=0 from by rw [show t+1=p.length by omega,Nat.mod_self],putP_at he,if_pos (by omega)]
      exact ⟨rfl,(if_pos (by omega)).symm⟩
   ·
    obtain ⟨x,q,y,t,ex,ht,ei⟩:=dec_at l2 (i-(sumlen l1+p.length)) (by omega)
    have f1:l1++p::l2=(l1++p::x)++q::y:=by rw [ex]; simp
    have f2:l1++putP p e m::l2=(l1++putP p e m::x)++q::y:=by rw [ex]; simp
    have s1:sumlen (l1++p::x)=sumlen l1+(p.length+sumlen x):=by rw [sumlen_app,sumlen_cons]
    have s2:sumlen (l1++putP p e m::x)=sumlen l1+(p.length+1+sumlen x):=by rw [sumlen_app,sumlen_cons,hpl]
    have hmod:=Nat.mod_lt (t+1) (show 0<q.length by omega)
    have i1:i=sumlen (l1++p::x)+t:=by omega
    have i2:tu (sumlen l1+e) i=sumlen (l1++putP p e m::x)+t:=(if_neg (by omega)).trans (by omega)
    rw [i2,f1,f2,i1,eAt_dec ht,eAt_dec ht,nx_dec ht,nx_dec ht]
    exact ⟨rfl,((if_neg (by omega)).trans (by omega)).symm⟩
 refine ⟨by rw [edS_len,edS_len,hs,hs']; omega,by rw [edS_len,hs]; omega,fun i hi hie=>(main i (by rw [edS_len] at hi; exact hi) hie).1,?_,?_,fun i hi hie=>(main i (by rw [edS_len] at hi; exact hi) hie).2,?_,?_,by rw [ea]; exact hm,hf⟩
 ·
  rw [n1,ea]
  unfold mkE endsE
  simp only [Bool.false_eq_true,if_false]
  rw [hpl,show (e+1)%(p.length+1)=e+1 from Nat.mod_eq_of_lt (by omega),putP_at he,putP_at he,if_pos (by omega),if_neg (by omega),if_pos rfl]
 ·
  rw [n2,ea]
  unfold mkE endsE
  simp only [Bool.false_eq_true,if_false]
  rw [hpl,putP_at he,if_neg (by omega),if_pos rfl,show e+1+1=e+2 from rfl,wrap,wrap0]
  by_cases c:e+1<p.length
  · rw [if_pos c,if_pos c,putP_at he,if_neg (by omega),if_neg (by omega)]; rfl
  · rw [if_neg c,if_neg c,putP_at he,if_pos (by omega)]
 · rw [nx_dec (by omega),hpl,Nat.mod_eq_of_lt (by omega)]; omega
 ·
  rw [nx_dec he,show sumlen l1+e+1=sumlen l1+(e+1) by omega,nx_dec (by omega),hpl,show e+1+1=e+2 from rfl,wrap,wrap0]
  by_cases c:e+1<p.length
  ·
   rw [if_pos c,if_pos c]
   exact ((if_neg (by omega)).trans (by omega)).symm
  ·
   rw [if_neg c,if_neg c]
   exact (if_pos (by omega)).symm
end
theorem vsL_app: ∀(s:Nat) (l r:List (List Pt)),vsL s (l++r)=vsL s l++vsL (s+sumlen l) r
 | s,[],r=>rfl
 | s,p::l,r=>by
  rw [List.cons_append,vsL,vsL,vsL_app,sumlen_cons,Nat.add_assoc]; rfl
theorem vsL_lt: ∀(s:Nat) (l:List (List Pt)),∀v∈vsL s l,∀c∈v,s≤c∧c<s+sumlen l:=by
 intro s l v hv c hc
 have:c∈(vsL s l).flatten:=List.mem_flatten.2 ⟨v,hv,hc⟩
 rw [vsL_flat] at this
 unfold ringOf at this
 obtain ⟨a,ha,rfl⟩:=List.mem_map.1 this
 have:=List.mem_range.1 ha
 omega
theorem vsL_shift: ∀(s:Nat) (l:List (List Pt)),vsL (s+1) l=(vsL s l).map (List.map (· +1))
 | s,[]=>rfl
 | s,p::l=>by
  rw [vsL,vsL,List.map_cons,show s+1+p.length=s+p.length+1 by omega,vsL_shift]
  congr 1
  unfold ringOf
  rw [List.map_map]
  refine List.map_congr_left fun k _=>?_
  show s+1+k=s+k+1
  omega
theorem ringOf_app (s a b:Nat):ringOf s (a+b)=ringOf s a++ringOf (s+a) b:=by
 unfold ringOf
 rw [List.range_add,List.map_append,List.map_map]
 congr 1
 refine List.map_congr_left fun k _=>?_
 show s+(a+k)=s+a+k
 omega
def psi (es:List Ed) (e:Nat) (m:Pt) (q:Psg):Psg:=(sd es e m q.1 q.2.1.toNat,ro es e m q.1 q.2)
def un (e j:Nat):Nat:=if j≤e then j else j-1
theorem un_tu (e k:Nat):un e (tu e k)=k:=by
 unfold un tu
 by_cases h:k≤e
 · rw [if_pos h,if_pos h]
 · rw [if_neg h,if_neg (by omega)]; omega
theorem un_sd (es:List Ed) (e:Nat) (m:Pt) (i k:Nat):un e (sd es e m i k)=i:=by
 unfold sd
 by_cases h:i=e
 ·
  rw [if_pos h]
  unfold un
  by_cases q:(cr (eAt es e).1 m (eAt es k).1 (eAt es k).2.1).1=1
  · rw [if_pos q,if_pos (Nat.le_refl _)]; exact h.symm
  · rw [if_neg q,if_neg (by omega)]; omega
 · rw [if_neg h,un_tu]
section
variable {es es' : List Ed} {vs vs' : List (List Nat)} {e : Nat} {m : Pt} (hF : FitE es) (hF' : FitE es') (hN : es.length ≤ 100000000) (R : Rg es vs) (R' : Rg es' vs') (hg : GenE es) (hg' : GenE es') (G : Sb es es' e m)
include hF hF' hN R R' hg hg' G
theorem Sb.pasO: ∀(v:List Nat),(∀c∈v,c<es.length∧c≠e)→pas (srt es') (v.map (tu e))=(pas (srt es) v).map (psi es e m)
 | [],_=>rfl
 | c::v,h=>by
  obtain ⟨hc,hce⟩:=h c (by simp)
  have ih:=Sb.pasO v fun d hd=>h d (by simp [hd])
  unfold pas at ih⊢
  rw [List.map_cons,List.flatMap_cons,List.flatMap_cons,List.map_append,ih]
  congr 1
  rw [G.rowO hF hF' hN R R' hg' hg hc hce,List.map_map,List.map_map]
  refine List.map_congr_left fun x _=>?_
  show (tu e c,ro es e m c x)=psi es e m (c,x)
  unfold psi sd
  rw [if_neg hce]
theorem Sb.pasE:pas (srt es') [e,e+1]=(pas (srt es) [e]).map (psi es e m):=by
 have lt:=G.lt
 have hrow:=G.rowE hF hF' hN R R' hg' hg
 have key: ∀j,(j=e∨j=e+1)→(srt es' j).map (Prod.mk j)=(srt es' j).map fun y=>(sd es e m e (un e y.1.toNat),y):=fun j hj=>by
  refine List.map_congr_left fun y hy=>?_
  obtain ⟨x,hx,h1,rfl⟩:=(G.memE hF hF' hN R R' hg' hj y).1 hy
  unfold rt
  dsimp only
  rw [Int.toNat_natCast,un_tu,h1]
 have e1:pas (srt es') [e,e+1]=(srt es' e).map (Prod.mk e)++(srt es' (e+1)).map (Prod.mk (e+1)):=by unfold pas; simp
 have e2:pas (srt es) [e]=(srt es e).map (Prod.mk e):=by unfold pas; simp
 rw [e1,e2,key e (.inl rfl),key (e+1) (.inr rfl),←List.map_append,hrow,List.map_map,List.map_map]
 refine List.map_congr_left fun x hx=>?_
 obtain ⟨k,hk,h⟩:=(mem_srt hF (by omega) lt).1 hx
 have hke:=psg_other h
 have hxf:=psg_fst h
 show (sd es e m e (un e (rt e x).1.toNat),rt e x)=psi es e m (e,x)
 unfold psi rt ro
 rw [hxf]
 dsimp only
 rw [Int.toNat_natCast,Int.toNat_natCast,un_tu]
 have:sd es e m k e=tu e k:=if_neg hke
 rw [this]
omit hF hF' hN R R' hg hg' in
theorem Sb.dir {i k:Nat} (hi:i<es.length): ∃c:Int,(c=1∨c=2)∧c*((eAt es' (sd es e m i k)).2.1.1-(eAt es' (sd es e m i k)).1.1)=(eAt es i).2.1.1-(eAt es i).1.1∧c*((eAt es' (sd es e m i k)).2.1.2.1-(eAt es' (sd es e m i k)).1.2.1)=(eAt es i).2.1.2.1-(eAt es i).1.2.1:=by
 by_cases h:i=e
 ·
  subst h
  refine ⟨2,.inr rfl,?_⟩
  obtain ⟨a1,a2⟩:=G.a1
  obtain ⟨c1,c2⟩:=G.a2
  obtain ⟨m1,m2,_⟩:=G.mid
  unfold sd
  rw [if_pos rfl]
  split
  · rw [a1,a2]; omega
  · rw [c1,c2]; omega
 ·
  refine ⟨1,.inl rfl,?_⟩
  obtain ⟨b1,b2⟩:=G.oa hi h
  unfold sd
  rw [if_neg h,b1,b2]
  omega
omit hF hF' hN R R' hg hg' in
theorem Sb.sgE {i k:Nat} (hi:i<es.length) (hk:k<es.length):Pg.sgE (eAt es' (sd es e m i k)) (eAt es' (sd es e m k i))=Pg.sgE (eAt es i) (eAt es k):=by
 obtain ⟨c,hc,c1,c2⟩:=G.dir (k:=k) hi
 obtain ⟨d,hd,d1,d2⟩:=G.dir (k:=i) hk
 unfold Pg.sgE
 rw [←c1,←c2,←d1,←d2]
 generalize (eAt es' (sd es e m i k)).2.1.1-(eAt es' (sd es e m i k)).1.1=x
 generalize (eAt es' (sd es e m i k)).2.1.2.1-(eAt es' (sd es e m i k)).1.2.1=y
 generalize (eAt es' (sd es e m k i)).2.1.1-(eAt es' (sd es e m k i)).1.1=z
 generalize (eAt es' (sd es e m k i)).2.1.2.1-(eAt es' (sd es e m k i)).1.2.1=w
 have:c*x*(d*w)-c*y*(d*z)=(c*d)*(x*w-y*z):=by grind
 rw [this]
 have q:0<x*w-y*z↔0<c*d*(x*w-y*z):=by rcases hc with rfl | rfl<;>rcases hd with rfl | rfl<;>omega
 by_cases h:0<x*w-y*z
 · rw [if_pos h,if_pos (q.1 h)]
 · rw [if_neg h,if_neg (fun z=>h (q.2 z))]
omit hF' hg hg' R' in
theorem Sb.code (hC:vs'.map (pas (srt es'))=(vs.map (pas (srt es))).map (List.map (psi es e m))):
  csR (prt' (srt es') (fsN (srt es') vs')) vs'=csR (prt' (srt es) (fsN (srt es) vs)) vs∧(fsN (srt es') vs').map (fun q=>sgX es' q.1 q.2)=(fsN (srt es) vs).map (fun q=>sgX es q.1 q.2)∧loR (prt' (srt es') (fsN (srt es') vs')) vs'=loR (prt' (srt es) (fsN (srt es) vs)) vs:=by
 have nt:=nt_of hF (by omega) R
 have hq: ∀q∈pas (srt es) vs.flatten,∃k:Nat,q.1<es.length∧q.2.1=(k:Int)∧k<es.length:=fun q hq=>by
  obtain ⟨h1,h2⟩:=mem_pas.1 hq
  have hlt:=(nt.mem _).1 h1
  obtain ⟨k,e1,hk,_⟩:=nt.sym _ hlt _ h2
  exact ⟨k,hlt,e1,hk⟩
 refine code_same hC (fun q h1 q' h2=>?_) (fun q=>rfl) fun q h1=>?_
 ·
  obtain ⟨k,hi,e1,hk⟩:=hq q h1
  obtain ⟨k',hi',e2,hk'⟩:=hq q' h2
  unfold psi ro kq
  dsimp only
  rw [e1,e2,Int.toNat_natCast,Int.toNat_natCast,kv_eq,kv_eq]
  constructor
  ·
   rintro (⟨a,b⟩ | ⟨a,b⟩)
   ·
    have a':=congrArg (un e) a
    have b':=congrArg (un e) b
    rw [un_sd,un_sd] at a' b'
    exact .inl ⟨a',b'⟩
   ·
    have a':=congrArg (un e) a
    have b':=congrArg (un e) b
    rw [un_sd,un_sd] at a' b'
    exact .inr ⟨a',b'⟩
  ·
   rintro (⟨a,b⟩ | ⟨a,b⟩)
   · exact .inl ⟨by rw [a,b],by rw [a,b]⟩
   · exact .inr ⟨by rw [a,b],by rw [a,b]⟩
 ·
  obtain ⟨k,hi,e1,hk⟩:=hq q h1
  unfold psi ro sgX
  dsimp only
  rw [e1,Int.toNat_natCast,Int.toNat_natCast,G.sgE hi hk,G.sgE hk hi]
end
theorem vd_put {l1 l2:List (List Pt)} {p:List Pt} {e:Nat} {m:Pt} (he:e<p.length) (hv:Vd (l1++p::l2)) (hs:sumlen (l1++p::l2)<100) (hm:Mid (p.getD e p0) (p.getD ((e+1)%p.length) p0) m):Vd (l1++putP p e m::l2)∧Fit m:=by
 have hpv:=hv.1 p (by simp)
 have g1:Fit (p.getD e p0):=by rw [getD_of' he]; exact hpv.2 _ (List.getElem_mem _)
 have hlt:=Nat.mod_lt (e+1) (show 0<p.length by omega)
 have g2:Fit (p.getD ((e+1)%p.length) p0):=by rw [getD_of' hlt]; exact hpv.2 _ (List.getElem_mem _)
 have hf:Fit m:=by
  unfold Mid at hm
  unfold Fit at*
  omega
 have hpl:=putP_len (m:=m) he
 rw [sumlen_app,sumlen_cons] at hs
 refine ⟨⟨fun q hq=>?_,by rw [sumlen_app,sumlen_cons,hpl]; omega⟩,hf⟩
 rcases List.mem_append.1 hq with h | h
 · exact hv.1 q (by simp [h])
 ·
  rcases List.mem_cons.1 h with rfl | h
  ·
   refine ⟨by omega,fun x hx=>?_⟩
   unfold putP at hx
   rcases List.mem_append.1 hx with hx | hx
   · exact hpv.2 x (List.mem_of_mem_take hx)
   ·
    rcases List.mem_cons.1 hx with rfl | hx
    · exact hf
    · exact hpv.2 x (List.mem_of_mem_drop hx)
  · exact hv.1 q (by simp [h])
theorem proj_put {l1 l2:List (List Pt)} {p:List Pt} {e:Nat} {m:Pt} (he:e<p.length) (hs:sumlen (l1++p::l2)<100) (hm:Mid (p.getD e p0) (p.getD ((e+1)%p.length) p0) m) (h:(projS (l1++p::l2)).2.2.2=0):
  projS (l1++putP p e m::l2)=([],[],0,15)∨projS (l1++putP p e m::l2)=projS (l1++p::l2):=by
 obtain ⟨hv,hg,h64,h0,hp⟩:=proj_net_ok h
 obtain ⟨hv',hf⟩:=vd_put he hv hs hm
 have G:=sb_of (l1:=l1) (l2:=l2) he hm hf
 have q:=pj_of hv
 have q':=pj_of hv'
 by_cases hg':GenE (edS 0 (l1++putP p e m::l2))
 case neg=>rw [proj_net hv',if_neg hg']; exact .inl rfl
 right
 have hN:(edS 0 (l1++p::l2)).length≤100000000:=by rw [edS_len]; omega
 have hlen:=edS_len 0 (l1++p::l2)
 rw [sumlen_app,sumlen_cons] at hlen
 have hC:(vsL 0 (l1++putP p e m::l2)).map (pas (srt (edS 0 (l1++putP p e m::l2))))=((vsL 0 (l1++p::l2)).map (pas (srt (edS 0 (l1++p::l2))))).map (List.map (psi (edS 0 (l1++p::l2)) (sumlen l1+e) m)):=by
  have po:=G.pasO q.fit q'.fit hN q.rg q'.rg hg hg'
  have pe:=G.pasE q.fit q'.fit hN q.rg q'.rg hg hg'
  generalize edS 0 (l1++putP p e m::l2)=es' at*
  generalize edS 0 (l1++p::l2)=es at*
  rw [vsL_app,vsL_app,vsL,vsL,putP_len he,Nat.zero_add,List.map_append,List.map_append,List.map_append,List.map_cons,List.map_cons,List.map_cons,List.map_map,List.map_map]
  congr 1
  ·
   refine List.map_congr_left fun v hv=>?_
   have hlt:=fun c hc=>vsL_lt 0 l1 v hv c hc
   have:=po v fun c hc=>by have:=hlt c hc; omega
   show _=(pas (srt es) v).map _
   rw [←this]
   congr 1
   conv=>lhs; rw [←List.map_id v]
   exact List.map_congr_left fun c hc=>(if_pos (by have:=hlt c hc; omega)).symm
  ·
   congr 1
   ·
    obtain ⟨r,hr⟩: ∃r,p.length=e+(1+r):=⟨p.length-e-1,by omega⟩
    have r1:ringOf (sumlen l1) p.length=ringOf (sumlen l1) e++([sumlen l1+e]++ringOf (sumlen l1+e+1) r):=by
     rw [hr,ringOf_app,ringOf_app]; rfl
    have r2:ringOf (sumlen l1) (p.length+1)=(ringOf (sumlen l1) e).map (tu (sumlen l1+e))++([sumlen l1+e,sumlen l1+e+1]++(ringOf (sumlen l1+e+1) r).map (tu (sumlen l1+e))):=by
     have:p.length+1=e+(2+r):=by omega
     rw [this,ringOf_app,ringOf_app]
     congr 1
     ·
      conv=>lhs; rw [←List.map_id (ringOf (sumlen l1) e)]
      refine List.map_congr_left fun c hc=>?_
      unfold ringOf at hc
      obtain ⟨t,ht,rfl⟩:=List.mem_map.1 hc
      have:=List.mem_range.1 ht
      exact (if_pos (by omega)).symm
     ·
      congr 1
      unfold ringOf
      rw [List.map_map]
      refine List.map_congr_left fun t _=>?_
      show sumlen l1+e+2+t=tu (sumlen l1+e) (sumlen l1+e+1+t)
      exact ((if_neg (by omega)).trans (by omega)).symm
    have rl: ∀s n c,c∈ringOf s n→s≤c∧c<s+n:=fun s n c hc=>by
     unfold ringOf at hc
     obtain ⟨t,ht,rfl⟩:=List.mem_map.1 hc
     have:=List.mem_range.1 ht
     omega
    rw [r1,r2,pas_app,pas_app,pas_app,pas_app,List.map_append,List.map_append,pe,po _ fun c hc=>by have:=rl _ _ c hc; omega,po _ fun c hc=>by have:=rl _ _ c hc; omega]
   ·
    rw [show sumlen l1+(p.length+1)=sumlen l1+p.length+1 by omega,vsL_shift,List.map_map]
    refine List.map_congr_left fun v hv=>?_
    have hlt:=fun c hc=>vsL_lt _ l2 v hv c hc
    have:=po v fun c hc=>by have:=hlt c hc; omega
    show pas (srt es') (v.map (· +1))=(pas (srt es) v).map _
    rw [←this]
    congr 1
    exact List.map_congr_left fun c hc=>(if_neg (by have:=hlt c hc; omega)).symm
 obtain ⟨c1,c2,c3⟩:=G.code q.fit hN q.rg hC
 have d1:cL (l1++putP p e m::l2)=cL (l1++p::l2):=c1
 have d2:sL (l1++putP p e m::l2)=sL (l1++p::l2):=c2
 have d3:oL (l1++putP p e m::l2)=oL (l1++p::l2):=c3
 have d4:(fL (l1++putP p e m::l2)).length=(fL (l1++p::l2)).length:=by
  have:=congrArg List.length d2
  unfold sL at this
  rw [List.length_map,List.length_map] at this
  exact this
 rw [proj_net hv',if_pos hg',d1,d2,d3,d4,if_neg (by omega),if_pos h0,hp]
end Pg
end Go.Proofs.Yteajmbanlohncaa
