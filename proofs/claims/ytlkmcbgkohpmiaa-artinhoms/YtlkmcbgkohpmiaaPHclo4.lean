import Derived.Test.YtlkmcbgkohpmiaaPHpg
import Derived.Test.YtlkmcbgkohpmiaaPHart
set_option linter.all false
namespace Go.Proofs.Ytlkmcbgkohpmiaa
open Ev
namespace Pg
def par (T:Nat→Bool) (c:Nat):Bool:=((T (4*c)^^T (4*c+1))^^T (4*c+2))^^T (4*c+3)
theorem par_flip (T:Nat→Bool) (x c:Nat):par (fun z=>T z^^decide (z=x)) c=(par T c^^decide (x/ 4=c)):=by
 have key: ∀q r,r<4→x=4*q+r→par (fun z=>T z^^decide (z=x)) c=(par T c^^decide (x/ 4=c)):=by
  intro q r hr hx
  have hq:x/ 4=q:=by omega
  rw [hq]
  unfold par
  dsimp only
  by_cases e:q=c
  ·
   subst e
   have hr4:r=0∨r=1∨r=2∨r=3:=by omega
   rcases hr4 with h | h | h | h<;>subst h<;>subst hx
   ·
    rw [dT (show 4*q=4*q+0 by omega),dF (show¬4*q+1=4*q+0 by omega),dF (show¬4*q+2=4*q+0 by omega),dF (show¬4*q+3=4*q+0 by omega),dT rfl]
    cases T (4*q)<;>cases T (4*q+1)<;>cases T (4*q+2)<;>cases T (4*q+3)<;>rfl
   ·
    rw [dF (show¬4*q=4*q+1 by omega),dT (show 4*q+1=4*q+1 by omega),dF (show¬4*q+2=4*q+1 by omega),dF (show¬4*q+3=4*q+1 by omega),dT rfl]
    cases T (4*q)<;>cases T (4*q+1)<;>cases T (4*q+2)<;>cases T (4*q+3)<;>rfl
   ·
    rw [dF (show¬4*q=4*q+2 by omega),dF (show¬4*q+1=4*q+2 by omega),dT (show 4*q+2=4*q+2 by omega),dF (show¬4*q+3=4*q+2 by omega),dT rfl]
    cases T (4*q)<;>cases T (4*q+1)<;>cases T (4*q+2)<;>cases T (4*q+3)<;>rfl
   ·
    rw [dF (show¬4*q=4*q+3 by omega),dF (show¬4*q+1=4*q+3 by omega),dF (show¬4*q+2=4*q+3 by omega),dT (show 4*q+3=4*q+3 by omega),dT rfl]
    cases T (4*q)<;>cases T (4*q+1)<;>cases T (4*q+2)<;>cases T (4*q+3)<;>rfl
  ·
   rw [dF (show¬4*c=x by omega),dF (show¬4*c+1=x by omega),dF (show¬4*c+2=x by omega),dF (show¬4*c+3=x by omega),dF e]
   cases T (4*c)<;>cases T (4*c+1)<;>cases T (4*c+2)<;>cases T (4*c+3)<;>rfl
 exact key (x/ 4) (x%4) (Nat.mod_lt _ (by omega)) (by omega)
theorem par_none (c:Nat):par (fun _=>false) c=false:=rfl
theorem way_set {n:Nat} {ν:Nat→Nat} (hν:IV n ν) {p q:Nat} (h:Cn (adjP n ν) p q): ∃T:Nat→Bool,(∀x,x<4*n→T (ν x)=T x)∧(∀x,x<4*n→T x=true→ν x≠x)∧∀c,c<n→par T c=(decide (p=c)^^decide (q=c)):=by
 induction h with
 | refl=>exact ⟨fun _=>false,fun _ _=>rfl,fun _ _ h=>absurd (show false=true from h) (by decide),fun c _=>by rw [par_none]; cases decide (p=c)<;>rfl⟩
 | @step b d h1 h2 ih=>
  obtain ⟨T,t1,t2,t3⟩:=ih
  obtain ⟨hb,hd,s,hs,hm⟩:=h2
  generalize hx:4*b+s=x at hm
  have hxl:x<4*n:=by omega
  have hxb:x/ 4=b:=by omega
  by_cases hf:ν x=x
  ·
   rw [hf,hxb] at hm
   subst hm
   exact ⟨T,t1,t2,t3⟩
  ·
   have hyl:=hν.lt x hxl
   have hyy:=hν.inv x hxl
   refine ⟨fun z=>(T z^^decide (z=x))^^decide (z=ν x),fun z hz=>?_,fun z hz hT=>?_,fun c hc=>?_⟩
   ·
    dsimp only
    rw [t1 z hz]
    have e1:decide (ν z=x)=decide (z=ν x):=decide_eq_decide.2 ⟨fun e=>by rw [←e,hν.inv z hz],fun e=>by rw [e,hyy]⟩
    have e2:decide (ν z=ν x)=decide (z=x):=decide_eq_decide.2 ⟨fun e=>by rw [←hν.inv z hz,e,hyy],fun e=>by rw [e]⟩
    rw [e1,e2]
    cases T z<;>cases decide (z=x)<;>cases decide (z=ν x)<;>rfl
   ·
    dsimp only at hT
    intro hz2
    by_cases e1:z=x
    · subst e1; exact hf hz2
    by_cases e2:z=ν x
    ·
     subst e2
     rw [hyy] at hz2
     exact hf hz2.symm
    rw [dF e1,dF e2,Bool.xor_false,Bool.xor_false] at hT
    exact t2 z hz hT hz2
   ·
    rw [par_flip (fun z=>T z^^decide (z=x)) (ν x) c,par_flip T x c,t3 c hc,hxb,hm]
    cases decide (p=c)<;>cases decide (b=c)<;>cases decide (d=c)<;>rfl
def Parts (n:Nat) (μ:Nat→Nat):Prop:= ∀S:Nat→Bool,(∀x,x<4*n→S (μ x)=S x)→(∀c,c<n→par S c=false)→
 ∃κ:Nat→Bool,(∀x,x<4*n→κ (fc μ x)=κ x)∧∀x,x<4*n→(κ x^^κ (turnN x 3))=S x
theorem dd_add' {n:Nat} {μ:Nat→Nat} (h:IV n μ) {a b:Nat} (ha:a<4*n) (hb:b<4*n) (hab:a≠b) (fa:μ a=a) (fb:μ b=b):dd n (addP μ a b)=dd n μ∨(Cn (adjP n μ) (a/ 4) (b/ 4)∧¬Cn (adjI (4*n) (fc μ)) a b):=by
 have hm:mvd n (addP μ a b)=mvd n μ+2:=by
  unfold mvd
  have c1:=cnt_one (N:=4*n) (p:=fun x=>μ x≠x) ha (fun q=>q fa)
  have c2:=cnt_one (N:=4*n) (p:=fun h=>h=a∨μ h≠h) hb (by rintro (e | e); exact hab e.symm; exact e fb)
  have c3:cnt (4*n) (fun x=>addP μ a b x≠x)=cnt (4*n) (fun h=>h=b∨h=a∨μ h≠h):=by
   refine qbz fun k hk=>?_
   unfold addP
   by_cases k1:k=a
   · subst k1; rw [if_pos rfl]; exact ⟨fun _=>.inr (.inl rfl),fun _ e=>hab e.symm⟩
   by_cases k2:k=b
   · subst k2; rw [if_neg k1,if_pos rfl]; exact ⟨fun _=>.inl rfl,fun _ e=>hab e⟩
   ·
    rw [if_neg k1,if_neg k2]
    exact ⟨fun e=>.inr (.inr e),fun e=>by rcases e with e | e | e; exact absurd e k2; exact absurd e k1; exact e⟩
  omega
 have hf:fc (addP μ a b)=sw (fc μ) a b:=by
  funext x
  unfold fc addP sw
  by_cases x1:x=a
  ·
   rw [if_pos x1,if_pos x1]
   show turnN b 3=turnN (μ b) 3
   rw [fb]
  by_cases x2:x=b
  ·
   rw [if_neg x1,if_pos x2,if_neg x1,if_pos x2]
   show turnN a 3=turnN (μ a) 3
   rw [fa]
  · rw [if_neg x1,if_neg x2,if_neg x1,if_neg x2]
 have hF:cls (4*n) (adjF n (addP μ a b))=cls (4*n) (adjI (4*n) (sw (fc μ) a b)):=by
  rw [←hf]; rfl
 have hF0:cls (4*n) (adjF n μ)=cls (4*n) (adjI (4*n) (fc μ)):=rfl
 obtain ⟨f1,f2⟩:=cls_sw h.pi ha hb hab
 have hP: ∀x y,Cn (adjP n (addP μ a b)) x y↔Cn (orAdj (adjP n μ) (a/ 4) (b/ 4)) x y:=by
  intro x y
  constructor
  ·
   refine fun hc=>Cn.map (f:=id) (fun x y hxy=>?_) hc
   show Cn _ x y
   obtain ⟨h1,h2,s,hs,h3⟩:=hxy
   unfold addP at h3
   by_cases s1:4*x+s=a
   ·
    rw [if_pos s1] at h3
    exact Cn.one (.inr (.inl ⟨by omega,h3.symm⟩))
   by_cases s2:4*x+s=b
   ·
    rw [if_neg s1,if_pos s2] at h3
    exact Cn.one (.inr (.inr ⟨by omega,h3.symm⟩))
   ·
    rw [if_neg s1,if_neg s2] at h3
    exact Cn.one (.inl ⟨h1,h2,s,hs,h3⟩)
  ·
   have hp:adjP n (addP μ a b) (a/ 4) (b/ 4):=⟨by omega,by omega,a%4,by omega,by
    rw [show 4*(a/ 4)+a%4=a from by omega]
    unfold addP
    rw [if_pos rfl]⟩
   refine fun hc=>Cn.map (f:=id) (fun x y hxy=>?_) hc
   show Cn _ x y
   rcases hxy with ⟨h1,h2,s,hs,h3⟩ | ⟨rfl,rfl⟩ | ⟨rfl,rfl⟩
   ·
    by_cases s1:4*x+s=a
    ·
     rw [s1,fa] at h3
     have:x=y:=by omega
     rw [this]; exact .refl _
    by_cases s2:4*x+s=b
    ·
     rw [s2,fb] at h3
     have:x=y:=by omega
     rw [this]; exact .refl _
    ·
     refine Cn.one ⟨h1,h2,s,hs,?_⟩
     unfold addP
     rw [if_neg s1,if_neg s2]; exact h3
   · exact Cn.one hp
   · exact Cn.one ((h.add ha hb hab fa fb).symm _ _ hp)
 have hK:cls n (adjP n (addP μ a b))=cls n (orAdj (adjP n μ) (a/ 4) (b/ 4)):=qcs fun x y _ _=>hP x y
 unfold dd
 by_cases hc:Cn (adjP n μ) (a/ 4) (b/ 4)
 ·
  have hK2:cls n (orAdj (adjP n μ) (a/ 4) (b/ 4))=cls n (adjP n μ):=qcs fun x y _ _=>⟨fun q=>Cn.map (f:=id) (fun x y hxy=>by
   show Cn _ x y
   rcases hxy with hxy | ⟨rfl,rfl⟩ | ⟨rfl,rfl⟩
   · exact Cn.one hxy
   · exact hc
   · exact hc.symm h.symm) q,fun q=>Cn.map (f:=id) (fun x y hxy=>Cn.one (.inl hxy)) q⟩
  by_cases hfc:Cn (adjI (4*n) (fc μ)) a b
  ·
   have:=f2 hfc
   left; omega
  ·
   have:=f1 hfc
   right; exact ⟨hc,hfc⟩
 ·
  have hj:=cls_join h.symm (show a/ 4<n by omega) (show b/ 4<n by omega) hc
  have:=f1 (fun hfc=>hc (face_part h hfc))
  left; omega
theorem dd_flat {n:Nat} {μ:Nat→Nat} (h:IV n μ) (hP:Parts n μ) {ν:Nat→Nat} (hν:IV n ν) (hle: ∀x,x<4*n→ν x=x∨ν x=μ x) {a:Nat} (ha:a<4*n) (hab:a≠μ a) (fa:ν a=a) (fb:ν (μ a)=μ a):dd n (addP ν a (μ a))=dd n ν:=by
 have hb:=h.lt a ha
 rcases dd_add' hν ha hb hab fa fb with q | ⟨hc,hfc⟩
 · exact q
 exfalso
 obtain ⟨T,t1,t2,t3⟩:=way_set hν hc
 have hf:fc (addP ν a (μ a))=sw (fc ν) a (μ a):=by
  funext x
  unfold fc addP sw
  by_cases x1:x=a
  ·
   rw [if_pos x1,if_pos x1]
   show turnN (μ a) 3=turnN (ν (μ a)) 3
   rw [fb]
  by_cases x2:x=μ a
  ·
   rw [if_neg x1,if_pos x2,if_neg x1,if_pos x2]
   show turnN a 3=turnN (ν a) 3
   rw [fa]
  · rw [if_neg x1,if_neg x2,if_neg x1,if_neg x2]
 -- a and its mate are joined by the new faces
 have hj:Cn (adjI (4*n) (fc (addP ν a (μ a)))) a (μ a):=by
  rw [hf]
  exact (cn_sw hν.pi ha hb hfc a (μ a)).2 (Cn.one (.inr (.inl ⟨rfl,rfl⟩)))
 have hia:μ (μ a)=a:=h.inv a ha
 have ha0:T a=false:=by
  cases e:T a with
  | false=>rfl
  | true=>exact absurd fa (t2 a ha e)
 have hb0:T (μ a)=false:=by
  cases e:T (μ a) with
  | false=>rfl
  | true=>exact absurd fb (t2 _ hb e)
 obtain ⟨κ,k1,k2⟩:=hP (fun z=>(T z^^decide (z=a))^^decide (z=μ a)) (fun x hx=>by
  have e1:decide (μ x=a)=decide (x=μ a):=decide_eq_decide.2 ⟨fun e=>by rw [←e,h.inv x hx],fun e=>by rw [e,hia]⟩
  have e2:decide (μ x=μ a)=decide (x=a):=decide_eq_decide.2 ⟨fun e=>by rw [←h.inv x hx,e,hia],fun e=>by rw [e]⟩
  have e3:T (μ x)=T x:=by
   rcases hle x hx with q | q
   ·
    have h1:T x=false:=by
     cases e:T x with
     | false=>rfl
     | true=>exact absurd q (t2 x hx e)
    have h2:T (μ x)=false:=by
     cases e:T (μ x) with
     | false=>rfl
     | true=>
      have h3:=t2 _ (h.lt x hx) e
      rcases hle _ (h.lt x hx) with q2 | q2
      · exact absurd q2 h3
      ·
       rw [h.inv x hx] at q2
       have h4:=hν.inv _ (h.lt x hx)
       rw [q2,q] at h4
       exact absurd (q2.trans h4) h3
    rw [h1,h2]
   · rw [←q,t1 x hx]
  rw [e1,e2,e3]
  cases T x<;>cases decide (x=a)<;>cases decide (x=μ a)<;>rfl) (fun c hcn=>by
  rw [par_flip (fun z=>T z^^decide (z=a)) (μ a) c,par_flip T a c,t3 c hcn]
  cases decide (a/ 4=c)<;>cases decide (μ a/ 4=c)<;>rfl)
 -- the corners of the new faces keep their side
 have hinv: ∀x,x<4*n→κ (fc (addP ν a (μ a)) x)=κ x:=by
  intro x hx
  by_cases x1:x=a
  ·
   have:fc (addP ν a (μ a)) x=fc μ x:=by unfold fc addP; rw [if_pos x1,x1]
   rw [this,k1 x hx]
  by_cases x2:x=μ a
  ·
   have:fc (addP ν a (μ a)) x=fc μ x:=by unfold fc addP; rw [if_neg x1,if_pos x2,x2,hia]
   rw [this,k1 x hx]
  rcases hle x hx with q | q
  ·
   have:fc (addP ν a (μ a)) x=turnN x 3:=by unfold fc addP; rw [if_neg x1,if_neg x2,q]
   rw [this]
   have h1:T x=false:=by
    cases e:T x with
    | false=>rfl
    | true=>exact absurd q (t2 x hx e)
   have h2:=k2 x hx
   rw [h1,dF x1,dF x2] at h2
   revert h2
   cases κ x<;>cases κ (turnN x 3)<;>decide
  ·
   have:fc (addP ν a (μ a)) x=fc μ x:=by unfold fc addP; rw [if_neg x1,if_neg x2,q]
   rw [this,k1 x hx]
 have hsame:κ a=κ (μ a):=by
  have: ∀y,Cn (adjI (4*n) (fc (addP ν a (μ a)))) a y→κ a=κ y:=by
   intro y hy
   refine Cn.closed (S:=fun y=>κ a=κ y) (fun u v hu ⟨h1,h2,h3⟩=>?_) hy rfl
   rcases h3 with h3 | h3
   · rw [h3,hinv u h1]; exact hu
   · rw [h3,hinv v h2] at hu; exact hu
  exact this _ hj
 have h1:=k2 a ha
 have h2:=k1 _ hb
 have h3:fc μ (μ a)=turnN a 3:=by unfold fc; rw [hia]
 rw [h3] at h2
 rw [ha0,dT rfl,dF hab,h2,hsame] at h1
 revert h1
 cases κ (μ a)<;>decide
theorem dd_same {n:Nat} {μ:Nat→Nat} (h:IV n μ) (hP:Parts n μ): ∀(k:Nat) (ν:Nat→Nat),IV n ν→4*n-mvd n ν≤k→(∀x,x<4*n→ν x=x∨ν x=μ x)→dd n μ=dd n ν:=by
 intro k
 induction k with
 | zero=>
  intro ν hν hk hle
  have hc:=cnt_le (4*n) (fun x=>ν x≠x)
  have hall: ∀x,x<4*n→ν x≠x:=by
   intro x hx e
   have:=cnt_one (N:=4*n) (p:=fun x=>ν x≠x) hx (fun q=>q e)
   have h2:=cnt_le (4*n) (fun h=>h=x∨ν h≠h)
   unfold mvd at hk
   omega
  have e: ∀x,x<4*n→ν x=μ x:=fun x hx=>by
   rcases hle x hx with q | q
   · exact absurd q (hall x hx)
   · exact q
  have e1:cls n (adjP n μ)=cls n (adjP n ν):=qcs fun x y _ _=>by
   have:adjP n μ=adjP n ν:=by
    funext c d
    refine propext ⟨fun ⟨h1,h2,s,hs,h3⟩=>⟨h1,h2,s,hs,by rw [e _ (by omega)]; exact h3⟩,fun ⟨h1,h2,s,hs,h3⟩=>⟨h1,h2,s,hs,by rw [←e _ (by omega)]; exact h3⟩⟩
   rw [this]
  have e2:cls (4*n) (adjF n μ)=cls (4*n) (adjF n ν):=qcs fun x y _ _=>by
   have:adjF n μ=adjF n ν:=by
    funext c d
    unfold adjF fc
    refine propext ⟨fun ⟨h1,h2,h3⟩=>⟨h1,h2,by rw [e c h1,e d h2]; exact h3⟩,fun ⟨h1,h2,h3⟩=>⟨h1,h2,by rw [←e c h1,←e d h2]; exact h3⟩⟩
   rw [this]
  have e3:mvd n μ=mvd n ν:=qbz fun x hx=>by rw [e x hx]
  unfold dd
  rw [e1,e2,e3]
 | succ k ih=>
  intro ν hν hk hle
  by_cases hex: ∃x,x<4*n∧ν x≠μ x
  ·
   obtain ⟨a,ha,hne⟩:=hex
   have fa:ν a=a:=by
    rcases hle a ha with q | q
    · exact q
    · exact absurd q hne
   have hb:=h.lt a ha
   have hab:a≠μ a:=fun e=>hne (by rw [fa]; exact e)
   have fb:ν (μ a)=μ a:=by
    rcases hle _ hb with q | q
    · exact q
    ·
     rw [h.inv a ha] at q
     exact absurd (by rw [←hν.inv _ hb,q,fa]) hab
   have hI:=hν.add ha hb hab fa fb
   have hm:mvd n ν+2≤mvd n (addP ν a (μ a)):=by
    have:=dd_add hν ha hb hab fa fb
    unfold mvd
    have c1:=cnt_one (N:=4*n) (p:=fun x=>ν x≠x) ha (fun q=>q fa)
    have c2:=cnt_one (N:=4*n) (p:=fun h=>h=a∨ν h≠h) hb (by rintro (e | e); exact hab e.symm; exact e fb)
    have:cnt (4*n) (fun h=>h=μ a∨h=a∨ν h≠h)=cnt (4*n) (fun x=>addP ν a (μ a) x≠x):=by
     refine qbz fun k hk=>?_
     unfold addP
     by_cases k1:k=a
     · subst k1; rw [if_pos rfl]; exact ⟨fun _ e=>hab e.symm,fun _=>.inr (.inl rfl)⟩
     by_cases k2:k=μ a
     · subst k2; rw [if_neg k1,if_pos rfl]; exact ⟨fun _ e=>hab e,fun _=>.inl rfl⟩
     ·
      rw [if_neg k1,if_neg k2]
      exact ⟨fun e=>by rcases e with e | e | e; exact absurd e k2; exact absurd e k1; exact e,fun e=>.inr (.inr e)⟩
    omega
   have hj:=ih (addP ν a (μ a)) hI (by omega) (fun x hx=>by
    unfold addP
    by_cases x1:x=a
    · right; rw [if_pos x1,x1]
    by_cases x2:x=μ a
    · right; rw [if_neg x1,if_pos x2,x2,h.inv a ha]
    · rw [if_neg x1,if_neg x2]; exact hle x hx)
   rw [hj,dd_flat h hP hν hle ha hab fa fb]
  ·
   have e: ∀x,x<4*n→ν x=μ x:=fun x hx=>Classical.byContradiction fun q=>hex ⟨x,hx,q⟩
   have e1:cls n (adjP n μ)=cls n (adjP n ν):=qcs fun x y _ _=>by
    have:adjP n μ=adjP n ν:=by
     funext c d
     refine propext ⟨fun ⟨h1,h2,s,hs,h3⟩=>⟨h1,h2,s,hs,by rw [e _ (by omega)]; exact h3⟩,fun ⟨h1,h2,s,hs,h3⟩=>⟨h1,h2,s,hs,by rw [←e _ (by omega)]; exact h3⟩⟩
    rw [this]
   have e2:cls (4*n) (adjF n μ)=cls (4*n) (adjF n ν):=qcs fun x y _ _=>by
    have:adjF n μ=adjF n ν:=by
     funext c d
     unfold adjF fc
     refine propext ⟨fun ⟨h1,h2,h3⟩=>⟨h1,h2,by rw [e c h1,e d h2]; exact h3⟩,fun ⟨h1,h2,h3⟩=>⟨h1,h2,by rw [←e c h1,←e d h2]; exact h3⟩⟩
    rw [this]
   have e3:mvd n μ=mvd n ν:=qbz fun x hx=>by rw [e x hx]
   unfold dd
   rw [e1,e2,e3]
theorem planar {n:Nat} {M:List Int} {μ:Nat→Nat} (hM:MT (4*n) M μ) (hP:Parts n μ):gen2 n μ=0:=by
 have h0:IV n (fun h=>h):=⟨fun h hh=>hh,fun h _=>rfl⟩
 have h1:=dd_same hM.iv hP (4*n) (fun h=>h) h0 (by omega) (fun x _=>.inl rfl)
 rw [dd_id,dd_full hM] at h1
 omega
end Pg
end Go.Proofs.Ytlkmcbgkohpmiaa

set_option linter.all false
namespace Go.Proofs.Ytlkmcbgkohpmiaa
open Ev
namespace Gl
open Gar Pg
structure Cl where
 fst:Nat→Int
 lst:Nat→Int
 ps:List (Nat×Nat)
def upd (f:Nat→Int) (p:Nat) (v:Int) (q:Nat):Int:=if q=p then v else f q
def Cl.pass (S:Cl) (p i o:Nat):Cl:=
 if S.lst p<0 then ⟨upd S.fst p i,upd S.lst p o,S.ps⟩ else ⟨S.fst,upd S.lst p o,S.ps++[((S.lst p).toNat,i)]⟩
structure Cl.Ok (S:Cl) (s:Nat) (O I:Nat→Prop):Prop where
 n1:(S.ps.map (·.1)).Nodup
 n2:(S.ps.map (·.2)).Nodup
 o1: ∀a∈S.ps.map (·.1),O a
 i1: ∀a∈S.ps.map (·.2),I a
 lo: ∀p,p<s→-1≤S.lst p∧-1≤S.fst p∧(S.lst p<0↔S.fst p<0)
 l1: ∀p,p<s→0≤S.lst p→O (S.lst p).toNat∧(S.lst p).toNat∉S.ps.map (·.1)
 f1: ∀p,p<s→0≤S.fst p→I (S.fst p).toNat∧(S.fst p).toNat∉S.ps.map (·.2)
 l2: ∀p q,p<s→q<s→0≤S.lst p→S.lst p=S.lst q→p=q
 f2: ∀p q,p<s→q<s→0≤S.fst p→S.fst p=S.fst q→p=q
 ao: ∀h,O h→h∈S.ps.map (·.1)∨∃p,p<s∧S.lst p=(h:Int)
 ai: ∀h,I h→h∈S.ps.map (·.2)∨∃p,p<s∧S.fst p=(h:Int)
theorem qdm (f:Nat→Int) (p:Nat) (v:Int):upd f p v p=v:=if_pos rfl
theorem upd_ne (f:Nat→Int) {p q:Nat} (v:Int) (h:q≠p):upd f p v q=f q:=if_neg h
theorem Cl.Ok.pass {S:Cl} {s:Nat} {O I:Nat→Prop} (h:S.Ok s O I) {p i o:Nat} (hp:p<s) (ho: ¬O o) (hi: ¬I i):(S.pass p i o).Ok s (fun x=>O x∨x=o) (fun x=>I x∨x=i):=by
 obtain ⟨a1,a2,a3⟩:=h.lo p hp
 unfold Cl.pass
 by_cases hl:S.lst p<0
 ·
  rw [if_pos hl]
  have hf:=a3.1 hl
  refine ⟨h.n1,h.n2,fun a ha=>.inl (h.o1 a ha),fun a ha=>.inl (h.i1 a ha),fun q hq=>?_,fun q hq hq0=>?_,fun q hq hq0=>?_,fun q r hq hr h0 e=>?_,fun q r hq hr h0 e=>?_,fun x hx=>?_,fun x hx=>?_⟩
  ·
   dsimp only
   by_cases e:q=p
   · rw [e,qdm,qdm]; omega
   · rw [upd_ne _ _ e,upd_ne _ _ e]; exact h.lo q hq
  ·
   dsimp only at hq0⊢
   by_cases e:q=p
   · rw [e,qdm,Int.toNat_natCast]; exact ⟨.inr rfl,fun m=>ho (h.o1 _ m)⟩
   ·
    rw [upd_ne _ _ e] at hq0⊢
    exact ⟨.inl (h.l1 q hq hq0).1,(h.l1 q hq hq0).2⟩
  ·
   dsimp only at hq0⊢
   by_cases e:q=p
   · rw [e,qdm,Int.toNat_natCast]; exact ⟨.inr rfl,fun m=>hi (h.i1 _ m)⟩
   ·
    rw [upd_ne _ _ e] at hq0⊢
    exact ⟨.inl (h.f1 q hq hq0).1,(h.f1 q hq hq0).2⟩
  ·
   dsimp only at h0 e
   by_cases e1:q=p<;>by_cases e2:r=p
   · rw [e1,e2]
   ·
    exfalso
    rw [e1,qdm,upd_ne _ _ e2] at e
    have:=(h.l1 r hr (by omega)).1
    rw [←e,Int.toNat_natCast] at this
    exact ho this
   ·
    exfalso
    rw [e2,qdm,upd_ne _ _ e1] at e
    rw [upd_ne _ _ e1] at h0
    have:=(h.l1 q hq h0).1
    rw [e,Int.toNat_natCast] at this
    exact ho this
   ·
    rw [upd_ne _ _ e1] at h0
    rw [upd_ne _ _ e1,upd_ne _ _ e2] at e
    exact h.l2 q r hq hr h0 e
  ·
   dsimp only at h0 e
   by_cases e1:q=p<;>by_cases e2:r=p
   · rw [e1,e2]
   ·
    exfalso
    rw [e1,qdm,upd_ne _ _ e2] at e
    have:=(h.f1 r hr (by omega)).1
    rw [←e,Int.toNat_natCast] at this
    exact hi this
   ·
    exfalso
    rw [e2,qdm,upd_ne _ _ e1] at e
    rw [upd_ne _ _ e1] at h0
    have:=(h.f1 q hq h0).1
    rw [e,Int.toNat_natCast] at this
    exact hi this
   ·
    rw [upd_ne _ _ e1] at h0
    rw [upd_ne _ _ e1,upd_ne _ _ e2] at e
    exact h.f2 q r hq hr h0 e
  ·
   dsimp only
   rcases hx with hx | hx
   ·
    rcases h.ao x hx with m | ⟨q,hq,e⟩
    · exact .inl m
    ·
     refine .inr ⟨q,hq,?_⟩
     rw [upd_ne _ _ (fun e1=>by rw [e1] at e; omega)]; exact e
   · exact .inr ⟨p,hp,by rw [qdm,hx]⟩
  ·
   dsimp only
   rcases hx with hx | hx
   ·
    rcases h.ai x hx with m | ⟨q,hq,e⟩
    · exact .inl m
    ·
     refine .inr ⟨q,hq,?_⟩
     rw [upd_ne _ _ (fun e1=>by rw [e1] at e; omega)]; exact e
   · exact .inr ⟨p,hp,by rw [qdm,hx]⟩
 ·
  rw [if_neg hl]
  obtain ⟨b1,b2⟩:=h.l1 p hp (by omega)
  have m1: ∀x,x∈(S.ps++[((S.lst p).toNat,i)]).map (·.1)↔x∈S.ps.map (·.1)∨x=(S.lst p).toNat:=fun x=>by simp only [List.map_append,List.mem_append,List.map_cons,List.map_nil,List.mem_singleton]
  have m2: ∀x,x∈(S.ps++[((S.lst p).toNat,i)]).map (·.2)↔x∈S.ps.map (·.2)∨x=i:=fun x=>by simp only [List.map_append,List.mem_append,List.map_cons,List.map_nil,List.mem_singleton]
  refine ⟨?_,?_,fun a ha=>?_,fun a ha=>?_,fun q hq=>?_,fun q hq hq0=>?_,fun q hq hq0=>?_,fun q r hq hr h0 e=>?_,h.f2,fun x hx=>?_,fun x hx=>?_⟩
  ·
   dsimp only
   rw [List.map_append,List.nodup_append]
   exact ⟨h.n1,by simp,fun a ha b hb e=>by
    simp only [List.map_cons,List.map_nil,List.mem_singleton] at hb
    rw [hb] at e; rw [e] at ha; exact b2 ha⟩
  ·
   dsimp only
   rw [List.map_append,List.nodup_append]
   exact ⟨h.n2,by simp,fun a ha b hb e=>by
    simp only [List.map_cons,List.map_nil,List.mem_singleton] at hb
    rw [hb] at e; rw [e] at ha; exact hi (h.i1 _ ha)⟩
  ·
   rcases (m1 a).1 ha with q | q
   · exact .inl (h.o1 a q)
   · rw [q]; exact .inl b1
  ·
   rcases (m2 a).1 ha with q | q
   · exact .inl (h.i1 a q)
   · exact .inr q
  ·
   dsimp only
   by_cases e:q=p
   · rw [e,qdm]; omega
   · rw [upd_ne _ _ e]; exact h.lo q hq
  ·
   dsimp only at hq0⊢
   by_cases e:q=p
   ·
    rw [e,qdm,Int.toNat_natCast]
    refine ⟨.inr rfl,fun m=>?_⟩
    rcases (m1 o).1 m with k | k
    · exact ho (h.o1 _ k)
    · rw [←k] at b1; exact ho b1
   ·
    rw [upd_ne _ _ e] at hq0⊢
    obtain ⟨c1,c2⟩:=h.l1 q hq hq0
    refine ⟨.inl c1,fun m=>?_⟩
    rcases (m1 _).1 m with k | k
    · exact c2 k
    · exact e (h.l2 q p hq hp hq0 (by omega))
  ·
   dsimp only at hq0⊢
   obtain ⟨c1,c2⟩:=h.f1 q hq hq0
   refine ⟨.inl c1,fun m=>?_⟩
   rcases (m2 _).1 m with k | k
   · exact c2 k
   · rw [k] at c1; exact hi c1
  ·
   dsimp only at h0 e
   by_cases e1:q=p<;>by_cases e2:r=p
   · rw [e1,e2]
   ·
    exfalso
    rw [e1,qdm,upd_ne _ _ e2] at e
    have:=(h.l1 r hr (by omega)).1
    rw [←e,Int.toNat_natCast] at this
    exact ho this
   ·
    exfalso
    rw [e2,qdm,upd_ne _ _ e1] at e
    rw [upd_ne _ _ e1] at h0
    have:=(h.l1 q hq h0).1
    rw [e,Int.toNat_natCast] at this
    exact ho this
   ·
    rw [upd_ne _ _ e1] at h0
    rw [upd_ne _ _ e1,upd_ne _ _ e2] at e
    exact h.l2 q r hq hr h0 e
  ·
   rcases hx with hx | hx
   ·
    rcases h.ao x hx with m | ⟨q,hq,e⟩
    · exact .inl ((m1 x).2 (.inl m))
    ·
     by_cases e1:q=p
     · exact .inl ((m1 x).2 (.inr (by rw [e1] at e; omega)))
     · exact .inr ⟨q,hq,by dsimp only; rw [upd_ne _ _ e1]; exact e⟩
   · exact .inr ⟨p,hp,by dsimp only; rw [qdm,hx]⟩
  ·
   rcases hx with hx | hx
   ·
    rcases h.ai x hx with m | ⟨q,hq,e⟩
    · exact .inl ((m2 x).2 (.inl m))
    · exact .inr ⟨q,hq,e⟩
   · exact .inl ((m2 x).2 (.inr hx))
theorem Cl.pass_fst (S:Cl) (p i o:Nat) (q:Nat) (h:0≤S.fst q) (hq:S.lst p<0→S.fst p<0):(S.pass p i o).fst q=S.fst q:=by
 unfold Cl.pass
 by_cases hl:S.lst p<0
 ·
  rw [if_pos hl]
  exact upd_ne _ _ fun e=>by rw [e] at h; have:=hq hl; omega
 · rw [if_neg hl]
theorem Cl.pass_ps (S:Cl) (p i o:Nat) (a:Nat×Nat) (h:a∈S.ps):a∈(S.pass p i o).ps:=by
 unfold Cl.pass
 split
 · exact h
 · exact List.mem_append_left _ h
theorem Cl.pass_lst (S:Cl) (p i o:Nat) (q:Nat):(S.pass p i o).lst q=upd S.lst p o q:=by
 unfold Cl.pass
 split<;>rfl
theorem Cl.pass_in (S:Cl) (p i o:Nat) (h1: -1≤S.lst p):(S.lst p<0∧(S.pass p i o).fst p=(i:Int))∨(0≤S.lst p∧((S.lst p).toNat,i)∈(S.pass p i o).ps):=by
 unfold Cl.pass
 by_cases hl:S.lst p<0
 · rw [if_pos hl]; exact .inl ⟨hl,qdm _ _ _⟩
 · rw [if_neg hl]; exact .inr ⟨by omega,by simp⟩
open Gar Pg
def inL (v:Int):Nat:=if 0<v then 3 else 0
def inR (v:Int):Nat:=if 0<v then 0 else 1
def ouR (v:Int):Nat:=if 0<v then 1 else 2
def ouL (v:Int):Nat:=if 0<v then 2 else 3
def sgv (v:Int):Int:=if 0<v then 1 else -1
def stp (S:Cl) (k:Nat) (v:Int):Cl:=(S.pass (v.natAbs-1) (4*k+inL v) (4*k+ouL v)).pass v.natAbs (4*k+inR v) (4*k+ouR v)
def stC (w:List Int):Nat→Cl
 | 0=>⟨fun _=>-1,fun _=>-1,[]⟩
 | k+1=>stp (stC w k) k (w.getD k 0)
def OuW (w:List Int) (k h:Nat):Prop:=h<4*k∧(h%4=2∨if 0<w.getD (h/ 4) 0 then h%4=1 else h%4=3)
def InW (w:List Int) (k h:Nat):Prop:=h<4*k∧(h%4=0∨if 0<w.getD (h/ 4) 0 then h%4=3 else h%4=1)
theorem ou_step (w:List Int) (k h:Nat):((OuW w k h∨h=4*k+ouL (w.getD k 0))∨h=4*k+ouR (w.getD k 0))↔OuW w (k+1) h:=by
 unfold OuW ouL ouR
 by_cases q:h/ 4=k
 ·
  rw [q]
  by_cases v:0<w.getD k 0
  · rw [if_pos v,if_pos v,if_pos v]; omega
  · rw [if_neg v,if_neg v,if_neg v]; omega
 ·
  constructor
  ·
   rintro ((⟨h1,h2⟩ | h1) | h1)
   · exact ⟨by omega,h2⟩
   · exfalso; split at h1<;>omega
   · exfalso; split at h1<;>omega
  ·
   rintro ⟨h1,h2⟩
   exact .inl (.inl ⟨by omega,h2⟩)
theorem in_step (w:List Int) (k h:Nat):((InW w k h∨h=4*k+inL (w.getD k 0))∨h=4*k+inR (w.getD k 0))↔InW w (k+1) h:=by
 unfold InW inL inR
 by_cases q:h/ 4=k
 ·
  rw [q]
  by_cases v:0<w.getD k 0
  · rw [if_pos v,if_pos v,if_pos v]; omega
  · rw [if_neg v,if_neg v,if_neg v]; omega
 ·
  constructor
  ·
   rintro ((⟨h1,h2⟩ | h1) | h1)
   · exact ⟨by omega,h2⟩
   · exfalso; split at h1<;>omega
   · exfalso; split at h1<;>omega
  ·
   rintro ⟨h1,h2⟩
   exact .inl (.inl ⟨by omega,h2⟩)
theorem Cl.Ok.congr {S:Cl} {s:Nat} {O I O' I':Nat→Prop} (h:S.Ok s O I) (ho: ∀x,O x↔O' x) (hi: ∀x,I x↔I' x):S.Ok s O' I':=by
 have e1:O=O':=funext fun x=>propext (ho x)
 have e2:I=I':=funext fun x=>propext (hi x)
 rw [←e1,←e2]; exact h
section
variable {s : Nat} {w : List Int} (hw : ∀ x ∈ w, x ≠ 0 ∧ -(s : Int) < x ∧ x < s)
include hw
theorem qfe {k:Nat} (hk:k<w.length):w.getD k 0≠0∧1≤(w.getD k 0).natAbs∧(w.getD k 0).natAbs<s:=by
 have:=hw _ (List.getElem_mem hk)
 rw [qdr hk]
 omega
theorem stC_ok: ∀k,k≤w.length→(stC w k).Ok s (OuW w k) (InW w k)
 | 0,_=>by
  refine ⟨by simp [stC],by simp [stC],by simp [stC],by simp [stC],fun p _=>?_,fun p _ h=>?_,fun p _ h=>?_,fun p q _ _ h=>?_,fun p q _ _ h=>?_,fun h hh=>?_,fun h hh=>?_⟩
  · unfold stC; dsimp only; omega
  · unfold stC at h; dsimp only at h; omega
  · unfold stC at h; dsimp only at h; omega
  · unfold stC at h; dsimp only at h; omega
  · unfold stC at h; dsimp only at h; omega
  · unfold OuW at hh; omega
  · unfold InW at hh; omega
 | k+1,hk=>by
  have ih:=stC_ok k (by omega)
  obtain ⟨v0,v1,v2⟩:=qfe hw (show k<w.length by omega)
  have i1:4*k+inL (w.getD k 0)≠4*k+inR (w.getD k 0):=by unfold inL inR; split<;>omega
  have o1:4*k+ouL (w.getD k 0)≠4*k+ouR (w.getD k 0):=by unfold ouL ouR; split<;>omega
  have h1:=ih.pass (p:=(w.getD k 0).natAbs-1) (i:=4*k+inL (w.getD k 0)) (o:=4*k+ouL (w.getD k 0)) (by omega) (fun h=>by have:=h.1; omega) (fun h=>by have:=h.1; omega)
  have h2:=h1.pass (p:=(w.getD k 0).natAbs) (i:=4*k+inR (w.getD k 0)) (o:=4*k+ouR (w.getD k 0)) v2 (fun h=>by
   rcases h with h | h
   · have:=h.1; omega
   · exact o1 h.symm) (fun h=>by
   rcases h with h | h
   · have:=h.1; omega
   · exact i1 h.symm)
  exact h2.congr (ou_step w k) (in_step w k)
end
theorem c2_eq {S:Cl} {s N p i o:Nat} (hp:p<s) (h1:S.lst p<4*N) (hi:i<4*N) {M0:List Int} (hM:M0.length=4*N) (sgs:List Int) (m:Nat):
  F.qee m p i o (iL s S.lst) (iL s S.fst) sgs (S.ps.foldl setP M0) 0=some (iL s (S.pass p i o).lst,iL s (S.pass p i o).fst,(S.pass p i o).ps.foldl setP M0):=by
 have g1:Ev.get (iL s S.lst) (p:Int)=some (S.lst p):=get_at rfl (qey hp)
 have g2:Ev.get (iL s S.fst) (p:Int)=some (S.fst p):=get_at rfl (qey hp)
 have hl:(S.ps.foldl setP M0).length=4*N:=by rw [fold_len,hM]
 unfold F.qee Cl.pass
 rw [g1,bB]
 by_cases h:S.lst p<0
 ·
  rw [dT h,kT,if_pos h,g2,bB,bB,Int.toNat_natCast,iL_set,iL_set]
  rfl
 ·
  have e1:Ev.get (S.ps.foldl setP M0) (S.lst p)=some ((S.ps.foldl setP M0)[(S.lst p).toNat]'(by omega)):=get_at (k:=(S.lst p).toNat) (by omega) (gE (by omega))
  have e2:Ev.get ((S.ps.foldl setP M0).set (S.lst p).toNat (i:Int)) (i:Int)=some (((S.ps.foldl setP M0).set (S.lst p).toNat (i:Int))[i]'(by rw [List.length_set]; omega)):=get_at rfl (gE (by rw [List.length_set]; omega))
  unfold F.qed
  rw [dF h,kF,if_neg h,bB,e1,bB,e2,bB,bB,bB,Int.toNat_natCast,Int.toNat_natCast,iL_set,List.foldl_append]
  have e3:S.lst p=((S.lst p).toNat:Int):=by omega
  show some (_,_,((S.ps.foldl setP M0).set (S.lst p).toNat (i:Int)).set i (S.lst p))=some (_,_,setP (S.ps.foldl setP M0) ((S.lst p).toNat,i))
  unfold setP
  dsimp only
  rw [←e3]
  rfl
open Gar Pg
def clz (S:Cl) (k:Nat):List (Nat×Nat):=(List.range k).filterMap fun p=>if S.lst p<0 then none else some ((S.lst p).toNat,(S.fst p).toNat)
def lpz (S:Cl) (k:Nat):List Nat:=(List.range k).filter fun p=>decide (S.lst p<0)
theorem clz_step (S:Cl) (k:Nat):clz S (k+1)=clz S k++(if S.lst k<0 then [] else [((S.lst k).toNat,(S.fst k).toNat)]):=by
 unfold clz
 rw [List.range_succ,List.filterMap_append]
 by_cases h:S.lst k<0
 · simp [h]
 · simp [h]
theorem lpz_step (S:Cl) (k:Nat):lpz S (k+1)=lpz S k++(if S.lst k<0 then [k] else []):=by
 unfold lpz
 rw [List.range_succ,List.filter_append]
 by_cases h:S.lst k<0
 · simp [h]
 · simp [h]
theorem lpz_len (S:Cl) (k:Nat):(lpz S k).length≤k:=by
 have:=List.length_filter_le (fun p=>decide (S.lst p<0)) (List.range k)
 rw [List.length_range] at this
 exact this
theorem fold_snoc (l:List (Nat×Nat)) (x:Nat×Nat) (M:List Int):(l++[x]).foldl setP M=setP (l.foldl setP M) x:=by
 rw [List.foldl_append]; rfl
section
variable {s : Nat} {w : List Int} (hw : ∀ x ∈ w, x ≠ 0 ∧ -(s : Int) < x ∧ x < s) (hs : s ≤ 100) (hl : w.length ≤ 64)
include hs
theorem init_run (m:Nat) (hm:1000<m):loopN m (F.qde m (List.replicate s (0:Int))) (0,List.replicate s (0:Int),List.replicate s (0:Int))=some ((s:Int),iL s (fun _=>-1),iL s (fun _=>-1)):=by
 have key:=qax (body:=F.qde m (List.replicate s (0:Int))) (fun k=>((k:Int),iL s (fun p=>if p<k then (-1:Int) else 0),iL s (fun p=>if p<k then (-1:Int) else 0))) s (r:=((s:Int),iL s (fun _=>-1),iL s (fun _=>-1))) (fun k hk=>by
  unfold F.qde
  dsimp only
  rw [List.length_replicate,dT (by omega),kT,get_at rfl (qey hk),bB,bB,qaj (by omega) (by omega),bB,Int.toNat_natCast,iL_set]
  have:iL s (fun j=>if j=k then (-1:Int) else if j<k then -1 else 0)=iL s (fun j=>if j<k+1 then (-1:Int) else 0):=qdt fun j _=>by
   by_cases e:j=k
   · rw [if_pos e,if_pos (by omega)]
   ·
    rw [if_neg e]
    by_cases q:j<k
    · rw [if_pos q,if_pos (by omega)]
    · rw [if_neg q,if_neg (by omega)]
  rw [this]
  rfl) (by
  unfold F.qde
  dsimp only
  rw [List.length_replicate,dF (by omega),kF]
  have:iL s (fun p=>if p<s then (-1:Int) else 0)=iL s (fun _=>-1):=qdt fun j hj=>if_pos hj
  rw [this]) m (by omega)
 have e0:((0:Int),List.replicate s (0:Int),List.replicate s (0:Int))=(((0:Nat):Int),iL s (fun p=>if p<0 then (-1:Int) else 0),iL s (fun p=>if p<0 then (-1:Int) else 0)):=by
  rw [iL_rep]
  have:iL s (fun _=>(0:Int))=iL s (fun p=>if p<0 then (-1:Int) else 0):=qdt fun j _=>(if_neg (by omega)).symm
  rw [this]; rfl
 rw [e0,key]
include hw hl
omit hs hl in
theorem lst_lt {k p:Nat} (hk:k≤w.length) (hp:p<s):(stC w k).lst p<4*w.length:=by
 have h:=stC_ok hw k hk
 by_cases q:0≤(stC w k).lst p
 ·
  have:=(h.l1 p hp q).1.1
  omega
 · omega
theorem letters_run2 {M0:List Int} (hM:M0.length=4*w.length) (m:Nat) (hm:1000<m):
  loopN m (F.qdb m w) (0,M0,[],iL s (fun _=>-1),iL s (fun _=>-1))=some ((w.length:Int),(stC w w.length).ps.foldl setP M0,w.map sgv,iL s (stC w w.length).fst,iL s (stC w w.length).lst):=by
 have key:=qax (body:=F.qdb m w) (fun k=>((k:Int),(stC w k).ps.foldl setP M0,(w.take k).map sgv,iL s (stC w k).fst,iL s (stC w k).lst)) w.length (r:=((w.length:Int),(stC w w.length).ps.foldl setP M0,w.map sgv,iL s (stC w w.length).fst,iL s (stC w w.length).lst)) (fun k hk=>by
  obtain ⟨v0,v1,v2⟩:=qfe hw hk
  have hv:Ev.get w (k:Int)=some (w.getD k 0):=get_at rfl (by rw [gE hk,qdr hk])
  have htl:((w.take k).map sgv).length=k:=by rw [List.length_map,List.length_take]; omega
  have htk:(w.take (k+1)).map sgv=(w.take k).map sgv++[sgv (w.getD k 0)]:=by
   rw [List.take_add_one,gE hk,Option.toList_some,List.map_append,qdr hk]; rfl
  have hb1:=lst_lt hw (k:=k) (p:=(w.getD k 0).natAbs-1) (by omega) (by omega)
  have hb2:=lst_lt hw (k:=k) (p:=(w.getD k 0).natAbs) (by omega) v2
  have hi1:inL (w.getD k 0)<4:=by unfold inL; split<;>omega
  have hi2:inR (w.getD k 0)<4:=by unfold inR; split<;>omega
  have ho1:ouL (w.getD k 0)<4:=by unfold ouL; split<;>omega
  have ho2:ouR (w.getD k 0)<4:=by unfold ouR; split<;>omega
  have c1:=c2_eq (S:=stC w k) (s:=s) (N:=w.length) (p:=(w.getD k 0).natAbs-1) (i:=4*k+inL (w.getD k 0)) (o:=4*k+ouL (w.getD k 0)) (by omega) (by omega) (by omega) hM ((w.take k).map sgv++[sgv (w.getD k 0)]) m
  have c2:=c2_eq (S:=(stC w k).pass ((w.getD k 0).natAbs-1) (4*k+inL (w.getD k 0)) (4*k+ouL (w.getD k 0))) (s:=s) (N:=w.length) (p:=(w.getD k 0).natAbs) (i:=4*k+inR (w.getD k 0)) (o:=4*k+ouR (w.getD k 0)) v2 (by rw [Cl.pass_lst,upd_ne _ _ (by omega)]; omega) (by omega) hM ((w.take k).map sgv++[sgv (w.getD k 0)]) m
  have h4:F.qfh m (k:Int) ((stC w k).ps.foldl setP M0) ((w.take k).map sgv) (iL s (stC w k).fst) (iL s (stC w k).lst) (sgv (w.getD k 0)) (((w.getD k 0).natAbs:Nat):Int) (inL (w.getD k 0):Int) (inR (w.getD k 0):Int) (ouR (w.getD k 0):Int) (ouL (w.getD k 0):Int)=
    some (.inl (((k+1:Nat):Int),(stC w (k+1)).ps.foldl setP M0,(w.take (k+1)).map sgv,iL s (stC w (k+1)).fst,iL s (stC w (k+1)).lst)):=by
   unfold F.qfh
   rw [qaj (z:=(((w.getD k 0).natAbs:Nat):Int)-1) (by omega) (by omega),bB,qaj (z:=4*(k:Int)) (by omega) (by omega),bB,qaj (z:=4*(k:Int)+(inL (w.getD k 0):Int)) (by omega) (by omega),bB,bB,qaj (z:=4*(k:Int)+(ouL (w.getD k 0):Int)) (by omega) (by omega),bB,
    show (((w.getD k 0).natAbs:Nat):Int)-1=(((w.getD k 0).natAbs-1:Nat):Int) by omega,show 4*(k:Int)+(inL (w.getD k 0):Int)=((4*k+inL (w.getD k 0):Nat):Int) by omega,show 4*(k:Int)+(ouL (w.getD k 0):Int)=((4*k+ouL (w.getD k 0):Nat):Int) by omega,c1,bB,bB,
    qaj (z:=4*(k:Int)+(inR (w.getD k 0):Int)) (by omega) (by omega),bB,bB,qaj (z:=4*(k:Int)+(ouR (w.getD k 0):Int)) (by omega) (by omega),bB,show 4*(k:Int)+(inR (w.getD k 0):Int)=((4*k+inR (w.getD k 0):Nat):Int) by omega,show 4*(k:Int)+(ouR (w.getD k 0):Int)=((4*k+ouR (w.getD k 0):Nat):Int) by omega]
   dsimp only
   rw [c2,bB,qaj (by omega) (by omega),bB,htk]
   rfl
  have hg:F.qct m (w.getD k 0)=some (((w.getD k 0).natAbs:Nat):Int):=by
   have hsx:=hw _ (List.getElem_mem hk)
   rw [←qdr hk 0] at hsx
   unfold F.qct
   rw [qaj (by omega) (by omega),bB]
   congr 1; omega
  unfold F.qdb
  dsimp only
  rw [dT (show (k:Int)<(w.length:Int) by omega),kT,hv,bB]
  by_cases q:w.getD k 0<0
  ·
   have e1:sgv (w.getD k 0)=-1:=by unfold sgv; rw [if_neg (by omega)]
   have e2:inL (w.getD k 0)=0∧inR (w.getD k 0)=1∧ouR (w.getD k 0)=2∧ouL (w.getD k 0)=3:=by
    unfold inL inR ouR ouL
    rw [if_neg (by omega),if_neg (by omega),if_neg (by omega),if_neg (by omega)]; exact ⟨rfl,rfl,rfl,rfl⟩
   have g0:Ev.get ([(0,(1,(2,3))),(3,(0,(1,2)))]:List (Int×(Int×(Int×Int)))) (0:Int)=some (0,(1,(2,3))):=rfl
   rw [e1,e2.1,e2.2.1,e2.2.2.1,e2.2.2.2] at h4
   rw [dT q,kT]
   unfold F.qef
   rw [lim_ok (by rw [htl]; simp only [List.length_cons,List.length_nil]; omega),bB,qaj (by omega) (by omega),bB,nz_ok (by decide),bB,show Int.tdiv (-1+1) 2=0 by decide,qaj (by omega) (by omega),bB,g0,bB,hg,bB]
   exact h4
  ·
   have e1:sgv (w.getD k 0)=1:=by unfold sgv; rw [if_pos (by omega)]
   have e2:inL (w.getD k 0)=3∧inR (w.getD k 0)=0∧ouR (w.getD k 0)=1∧ouL (w.getD k 0)=2:=by
    unfold inL inR ouR ouL
    rw [if_pos (by omega),if_pos (by omega),if_pos (by omega),if_pos (by omega)]; exact ⟨rfl,rfl,rfl,rfl⟩
   have g1:Ev.get ([(0,(1,(2,3))),(3,(0,(1,2)))]:List (Int×(Int×(Int×Int)))) (1:Int)=some (3,(0,(1,2))):=rfl
   rw [e1,e2.1,e2.2.1,e2.2.2.1,e2.2.2.2] at h4
   rw [dF q,kF]
   unfold F.qef
   rw [lim_ok (by rw [htl]; simp only [List.length_cons,List.length_nil]; omega),bB,qaj (by omega) (by omega),bB,nz_ok (by decide),bB,show Int.tdiv (1+1) 2=1 by decide,qaj (by omega) (by omega),bB,g1,bB,hg,bB]
   exact h4) (by
  unfold F.qdb
  dsimp only
  rw [dF (by omega),kF,List.take_length]) m (by omega)
 exact key
omit hl in
theorem close_run {M0:List Int} (hM:M0.length=4*w.length) (m:Nat) (hm:1000<m) (sgs:List Int):
  loopN m (F.qda m (List.replicate s (0:Int)) sgs (iL s (stC w w.length).fst) (iL s (stC w w.length).lst)) (0,(stC w w.length).ps.foldl setP M0,0)=some ((s:Int),((stC w w.length).ps++clz (stC w w.length) s).foldl setP M0,((lpz (stC w w.length) s).length:Int)):=by
 have ok:=stC_ok hw w.length (Nat.le_refl _)
 have key:=qax (body:=F.qda m (List.replicate s (0:Int)) sgs (iL s (stC w w.length).fst) (iL s (stC w w.length).lst)) (fun p=>((p:Int),((stC w w.length).ps++clz (stC w w.length) p).foldl setP M0,((lpz (stC w w.length) p).length:Int))) s (r:=((s:Int),((stC w w.length).ps++clz (stC w w.length) s).foldl setP M0,((lpz (stC w w.length) s).length:Int))) (fun p hp=>by
  have hln:=lpz_len (stC w w.length) p
  have g1:Ev.get (iL s (stC w w.length).lst) (p:Int)=some ((stC w w.length).lst p):=get_at rfl (qey hp)
  have g2:Ev.get (iL s (stC w w.length).fst) (p:Int)=some ((stC w w.length).fst p):=get_at rfl (qey hp)
  unfold F.qda
  dsimp only
  rw [List.length_replicate,dT (show (p:Int)<(s:Int) by omega),kT,g1,bB,clz_step,lpz_step]
  by_cases q:(stC w w.length).lst p<0
  ·
   rw [dT q,kT,if_pos q,if_pos q,qaj (by omega) (by omega),bB,qaj (by omega) (by omega),bB,List.append_nil,List.length_append]
   rfl
  ·
   obtain ⟨a1,a2,a3⟩:=ok.lo p hp
   have f0:0≤(stC w w.length).fst p:=by omega
   have b1:=(ok.l1 p hp (by omega)).1.1
   have b2:=(ok.f1 p hp f0).1.1
   have hl2:(((stC w w.length).ps++clz (stC w w.length) p).foldl setP M0).length=4*w.length:=by rw [fold_len,hM]
   rw [dF q,kF,if_neg q,if_neg q,bB,g2,bB,←List.append_assoc,fold_snoc,List.append_nil]
   generalize ((stC w w.length).ps++clz (stC w w.length) p).foldl setP M0=M at*
   have e1:Ev.get M ((stC w w.length).lst p)=some (M[((stC w w.length).lst p).toNat]'(by omega)):=get_at (k:=((stC w w.length).lst p).toNat) (by omega) (gE (by omega))
   have e2:Ev.get (M.set ((stC w w.length).lst p).toNat ((stC w w.length).fst p)) ((stC w w.length).fst p)=some ((M.set ((stC w w.length).lst p).toNat ((stC w w.length).fst p))[((stC w w.length).fst p).toNat]'(by rw [List.length_set]; omega)):=get_at (k:=((stC w w.length).fst p).toNat) (by omega) (gE (by rw [List.length_set]; omega))
   unfold F.qed
   rw [e1,bB,e2,bB,bB,qaj (by omega) (by omega),bB]
   have t1:(((stC w w.length).lst p).toNat:Int)=(stC w w.length).lst p:=by omega
   have t2:(((stC w w.length).fst p).toNat:Int)=(stC w w.length).fst p:=by omega
   unfold setP
   dsimp only
   rw [t1,t2]
   rfl) (by
  unfold F.qda
  dsimp only
  rw [List.length_replicate,dF (by omega),kF]) m (by omega)
 have e0:clz (stC w w.length) 0=[]:=rfl
 have e1:lpz (stC w w.length) 0=[]:=rfl
 rw [e0,e1,List.append_nil] at key
 exact key
end
theorem closure_run {s:Nat} {w:List Int} (hok:okB (s:Int) w=true) (hs:s≤100) (hl:w.length≤64) (m:Nat) (hm:1000<m):
  F.qew m s w=some (w.map sgv,((stC w w.length).ps++clz (stC w w.length) s).foldl setP (List.replicate (4*w.length) 0),((lpz (stC w w.length) s).length:Int),0):=by
 obtain ⟨_,_,_,hw⟩:=okB_iff.1 hok
 unfold F.qew
 rw [braidValid m (by omega),bB,hok,Bool.not_true,kF,dF (by omega),kF,qaj (by omega) (by omega),bB,qep (by omega) (by omega),bB,qep (by omega) (by omega),bB,bB,Int.toNat_natCast]
 unfold F.qgp
 rw [init_run hs m hm,bB]
 dsimp only
 rw [show (4*(w.length:Int)).toNat=4*w.length by omega,letters_run2 hw hs hl (List.length_replicate ..) m hm,bB]
 dsimp only
 rw [close_run hw hs (List.length_replicate ..) m hm,bB]
open Gar Pg
def clP (s:Nat) (w:List Int):List (Nat×Nat):=(stC w w.length).ps++clz (stC w w.length) s
def clM (s:Nat) (w:List Int):List Int:=(clP s w).foldl setP (List.replicate (4*w.length) 0)
def clm (s:Nat) (w:List Int) (h:Nat):Nat:=((clM s w).getD h 0).toNat
def Vv (s:Nat) (w:List Int) (k p:Nat):Nat:=if (stC w k).lst p<0 then ((stC w w.length).fst p).toNat else clm s w ((stC w k).lst p).toNat
theorem mem_clz {S:Cl} {k:Nat} {x:Nat×Nat}:x∈clz S k↔∃p,p<k∧0≤S.lst p∧x=((S.lst p).toNat,(S.fst p).toNat):=by
 unfold clz
 rw [List.mem_filterMap]
 constructor
 ·
  rintro ⟨p,hp,h⟩
  by_cases q:S.lst p<0
  · rw [if_pos q] at h; cases h
  ·
   rw [if_neg q] at h
   exact ⟨p,List.mem_range.1 hp,by omega,(Option.some.inj h).symm⟩
 ·
  rintro ⟨p,hp,h,e⟩
  exact ⟨p,List.mem_range.2 hp,by rw [if_neg (by omega),e]⟩
theorem ou_in {w:List Int} {k h:Nat} (h1:OuW w k h) (h2:InW w k h):False:=by
 obtain ⟨_,a⟩:=h1
 obtain ⟨_,b⟩:=h2
 by_cases q:0<w.getD (h/ 4) 0
 · rw [if_pos q] at a b; omega
 · rw [if_neg q] at a b; omega
theorem ou_or_in {w:List Int} {k h:Nat} (hh:h<4*k):OuW w k h∨InW w k h:=by
 unfold OuW InW
 by_cases q:0<w.getD (h/ 4) 0
 · rw [if_pos q,if_pos q]; omega
 · rw [if_neg q,if_neg q]; omega
section
variable {s : Nat} {w : List Int} (hw : ∀ x ∈ w, x ≠ 0 ∧ -(s : Int) < x ∧ x < s)
include hw
theorem clz_nodup1: ∀k,k≤s→((clz (stC w w.length) k).map (·.1)).Nodup∧((clz (stC w w.length) k).map (·.2)).Nodup
 | 0,_=>by simp [clz]
 | k+1,hk=>by
  have ok:=stC_ok hw w.length (Nat.le_refl _)
  obtain ⟨i1,i2⟩:=clz_nodup1 k (by omega)
  rw [clz_step]
  by_cases q:(stC w w.length).lst k<0
  · rw [if_pos q,List.append_nil]; exact ⟨i1,i2⟩
  ·
   rw [if_neg q,List.map_append,List.map_append,List.nodup_append,List.nodup_append]
   obtain ⟨a1,a2,a3⟩:=ok.lo k (by omega)
   refine ⟨⟨i1,by simp,fun a ha b hb e=>?_⟩,⟨i2,by simp,fun a ha b hb e=>?_⟩⟩
   ·
    obtain ⟨x,hx,rfl⟩:=List.mem_map.1 ha
    obtain ⟨p,hp,h0,rfl⟩:=mem_clz.1 hx
    simp only [List.map_cons,List.map_nil,List.mem_singleton] at hb
    have:=ok.l2 p k (by omega) (by omega) h0 (by dsimp only at e; omega)
    omega
   ·
    obtain ⟨x,hx,rfl⟩:=List.mem_map.1 ha
    obtain ⟨p,hp,h0,rfl⟩:=mem_clz.1 hx
    obtain ⟨b1,b2,b3⟩:=ok.lo p (by omega)
    simp only [List.map_cons,List.map_nil,List.mem_singleton] at hb
    have:=ok.f2 p k (by omega) (by omega) (by omega) (by dsimp only at e; omega)
    omega
theorem clP_ok:((clP s w).map (·.1)).Nodup∧((clP s w).map (·.2)).Nodup∧(∀a∈(clP s w).map (·.1),OuW w w.length a)∧(∀a∈(clP s w).map (·.2),InW w w.length a)∧
  (∀h,OuW w w.length h→h∈(clP s w).map (·.1))∧(∀h,InW w w.length h→h∈(clP s w).map (·.2)):=by
 have ok:=stC_ok hw w.length (Nat.le_refl _)
 obtain ⟨c1,c2⟩:=clz_nodup1 hw s (Nat.le_refl _)
 unfold clP
 rw [List.map_append,List.map_append]
 refine ⟨?_,?_,fun a ha=>?_,fun a ha=>?_,fun h hh=>?_,fun h hh=>?_⟩
 ·
  rw [List.nodup_append]
  refine ⟨ok.n1,c1,fun a ha b hb e=>?_⟩
  obtain ⟨x,hx,rfl⟩:=List.mem_map.1 hb
  obtain ⟨p,hp,h0,rfl⟩:=mem_clz.1 hx
  rw [e] at ha
  exact (ok.l1 p hp h0).2 ha
 ·
  rw [List.nodup_append]
  refine ⟨ok.n2,c2,fun a ha b hb e=>?_⟩
  obtain ⟨x,hx,rfl⟩:=List.mem_map.1 hb
  obtain ⟨p,hp,h0,rfl⟩:=mem_clz.1 hx
  obtain ⟨b1,b2,b3⟩:=ok.lo p hp
  rw [e] at ha
  exact (ok.f1 p hp (by omega)).2 ha
 ·
  rcases List.mem_append.1 ha with ha | ha
  · exact ok.o1 a ha
  ·
   obtain ⟨x,hx,rfl⟩:=List.mem_map.1 ha
   obtain ⟨p,hp,h0,rfl⟩:=mem_clz.1 hx
   exact (ok.l1 p hp h0).1
 ·
  rcases List.mem_append.1 ha with ha | ha
  · exact ok.i1 a ha
  ·
   obtain ⟨x,hx,rfl⟩:=List.mem_map.1 ha
   obtain ⟨p,hp,h0,rfl⟩:=mem_clz.1 hx
   obtain ⟨b1,b2,b3⟩:=ok.lo p hp
   exact (ok.f1 p hp (by omega)).1
 ·
  rw [List.mem_append]
  rcases ok.ao h hh with m | ⟨p,hp,e⟩
  · exact .inl m
  · exact .inr (List.mem_map.2 ⟨_,mem_clz.2 ⟨p,hp,by omega,rfl⟩,by dsimp only; omega⟩)
 ·
  rw [List.mem_append]
  rcases ok.ai h hh with m | ⟨p,hp,e⟩
  · exact .inl m
  ·
   obtain ⟨b1,b2,b3⟩:=ok.lo p hp
   exact .inr (List.mem_map.2 ⟨_,mem_clz.2 ⟨p,hp,by omega,rfl⟩,by dsimp only; omega⟩)
omit hw in
theorem clM_len:(clM s w).length=4*w.length:=by
 unfold clM
 rw [fold_len]; exact List.length_replicate ..
theorem clm_pair {a b:Nat} (h:(a,b)∈clP s w):(clM s w)[a]? =some (b:Int)∧(clM s w)[b]? =some (a:Int)∧clm s w a=b∧clm s w b=a∧a<4*w.length∧b<4*w.length∧a≠b:=by
 obtain ⟨p1,p2,p3,p4,_,_⟩:=clP_ok hw
 have ha:=p3 a (List.mem_map.2 ⟨_,h,rfl⟩)
 have hb:=p4 b (List.mem_map.2 ⟨_,h,rfl⟩)
 have hp:=fold_pair (M:=List.replicate (4*w.length) 0) p1 p2 (fun x hx hx'=>ou_in (p3 x hx) (p4 x hx')) h (by rw [List.length_replicate]; exact ha.1) (by rw [List.length_replicate]; exact hb.1)
 have e1:(clM s w)[a]? =some (b:Int):=hp.1
 have e2:(clM s w)[b]? =some (a:Int):=hp.2
 refine ⟨e1,e2,?_,?_,ha.1,hb.1,fun e=>by rw [e] at ha; exact ou_in ha hb⟩
 · unfold clm; rw [List.getD_eq_getElem?_getD,e1]; rfl
 · unfold clm; rw [List.getD_eq_getElem?_getD,e2]; rfl
theorem clm_mt:MT (4*w.length) (clM s w) (clm s w):=by
 obtain ⟨_,_,_,_,p5,p6⟩:=clP_ok hw
 refine ⟨clM_len,fun h hh=>?_⟩
 rcases ou_or_in (w:=w) hh with q | q
 ·
  obtain ⟨⟨a,b⟩,hm,rfl⟩:=List.mem_map.1 (p5 h q)
  obtain ⟨e1,e2,e3,e4,e5,e6,e7⟩:=clm_pair hw hm
  dsimp only
  rw [e3]
  exact ⟨e1,e6,e4,e7.symm⟩
 ·
  obtain ⟨⟨a,b⟩,hm,rfl⟩:=List.mem_map.1 (p6 h q)
  obtain ⟨e1,e2,e3,e4,e5,e6,e7⟩:=clm_pair hw hm
  dsimp only
  rw [e4]
  exact ⟨e2,e5,e3,e7⟩
omit hw in
theorem ps_mono {j:Nat}: ∀{k:Nat},j≤k→∀a∈(stC w j).ps,a∈(stC w k).ps
 | 0,h,a,ha=>by
  have:j=0:=by omega
  rw [this] at ha; exact ha
 | k+1,h,a,ha=>by
  rcases Nat.lt_or_ge j (k+1) with q | q
  · exact Cl.pass_ps _ _ _ _ _ (Cl.pass_ps _ _ _ _ _ (ps_mono (by omega) a ha))
  ·
   have:j=k+1:=by omega
   rw [this] at ha; exact ha
theorem fst_mono {j q:Nat} (hq:q<s) (h0:0≤(stC w j).fst q): ∀{k:Nat},j≤k→k≤w.length→(stC w k).fst q=(stC w j).fst q
 | 0,h,_=>by
  have:j=0:=by omega
  rw [this]
 | k+1,h,hk=>by
  rcases Nat.lt_or_ge j (k+1) with r | r
  ·
   have ih:=fst_mono hq h0 (k:=k) (by omega) (by omega)
   have ok:=stC_ok hw k (by omega)
   obtain ⟨v0,v1,v2⟩:=qfe hw (show k<w.length by omega)
   have hf:0≤(stC w k).fst q:=by rw [ih]; exact h0
   have a1:=Cl.pass_fst (stC w k) ((w.getD k 0).natAbs-1) (4*k+inL (w.getD k 0)) (4*k+ouL (w.getD k 0)) q hf (fun h=>(ok.lo _ (by omega)).2.2.1 h)
   have a2:=Cl.pass_fst ((stC w k).pass ((w.getD k 0).natAbs-1) (4*k+inL (w.getD k 0)) (4*k+ouL (w.getD k 0))) (w.getD k 0).natAbs (4*k+inR (w.getD k 0)) (4*k+ouR (w.getD k 0)) q (by rw [a1]; exact hf) (fun h=>by
    rw [Cl.pass_lst,upd_ne _ _ (by omega)] at h
    have h2:=(ok.lo _ v2).2.2.1 h
    unfold Cl.pass
    by_cases hl:(stC w k).lst ((w.getD k 0).natAbs-1)<0
    ·
     rw [if_pos hl]
     dsimp only
     rw [upd_ne _ _ (by omega)]; exact h2
    · rw [if_neg hl]; exact h2)
   show (stp (stC w k) k (w.getD k 0)).fst q=_
   unfold stp
   rw [a2,a1,ih]
  ·
   have:j=k+1:=by omega
   rw [this]
theorem Vv_in {k:Nat} (hk:k<w.length):Vv s w k ((w.getD k 0).natAbs-1)=4*k+inL (w.getD k 0)∧Vv s w k (w.getD k 0).natAbs=4*k+inR (w.getD k 0):=by
 obtain ⟨v0,v1,v2⟩:=qfe hw hk
 have ok:=stC_ok hw k (by omega)
 have fin: ∀(p i:Nat),p<s→((stC w k).lst p<0∧(stC w (k+1)).fst p=(i:Int))∨(0≤(stC w k).lst p∧(((stC w k).lst p).toNat,i)∈(stC w (k+1)).ps)→Vv s w k p=i:=by
  intro p i hp h
  unfold Vv
  rcases h with ⟨h1,h2⟩ | ⟨h1,h2⟩
  · rw [if_pos h1,fst_mono hw hp (by rw [h2]; omega) (show k+1≤w.length by omega) (Nat.le_refl _),h2,Int.toNat_natCast]
  ·
   rw [if_neg (by omega)]
   exact (clm_pair hw (List.mem_append_left _ (ps_mono (by omega) _ h2))).2.2.1
 constructor
 ·
  refine fin _ _ (by omega) ?_
  rcases Cl.pass_in (stC w k) ((w.getD k 0).natAbs-1) (4*k+inL (w.getD k 0)) (4*k+ouL (w.getD k 0)) (ok.lo _ (by omega)).1 with ⟨h1,h2⟩ | ⟨h1,h2⟩
  ·
   refine .inl ⟨h1,?_⟩
   show (stp (stC w k) k (w.getD k 0)).fst _=_
   unfold stp
   unfold Cl.pass at h2⊢
   rw [if_pos h1] at h2⊢
   dsimp only at h2⊢
   by_cases hl:upd (stC w k).lst ((w.getD k 0).natAbs-1) ((4*k+ouL (w.getD k 0):Nat):Int) (w.getD k 0).natAbs<0
   ·
    rw [if_pos hl]
    dsimp only
    rw [upd_ne _ _ (by omega)]; exact h2
   · rw [if_neg hl]; exact h2
  · exact .inr ⟨h1,Cl.pass_ps _ _ _ _ _ h2⟩
 ·
  refine fin _ _ v2 ?_
  have hl:((stC w k).pass ((w.getD k 0).natAbs-1) (4*k+inL (w.getD k 0)) (4*k+ouL (w.getD k 0))).lst (w.getD k 0).natAbs=(stC w k).lst (w.getD k 0).natAbs:=by
   rw [Cl.pass_lst,upd_ne _ _ (by omega)]
  have:=Cl.pass_in ((stC w k).pass ((w.getD k 0).natAbs-1) (4*k+inL (w.getD k 0)) (4*k+ouL (w.getD k 0))) (w.getD k 0).natAbs (4*k+inR (w.getD k 0)) (4*k+ouR (w.getD k 0)) (by rw [hl]; exact (ok.lo _ v2).1)
  rw [hl] at this
  exact this
omit hw in
theorem lst_step {k:Nat} (q:Nat):(stC w (k+1)).lst q=upd (upd (stC w k).lst ((w.getD k 0).natAbs-1) ((4*k+ouL (w.getD k 0):Nat):Int)) (w.getD k 0).natAbs ((4*k+ouR (w.getD k 0):Nat):Int) q:=by
 show (stp (stC w k) k (w.getD k 0)).lst q=_
 unfold stp
 rw [Cl.pass_lst]
 unfold upd
 by_cases e:q=(w.getD k 0).natAbs
 · rw [if_pos e,if_pos e]
 · rw [if_neg e,if_neg e,Cl.pass_lst]; rfl
theorem Vv_out {k:Nat} (hk:k<w.length):Vv s w (k+1) ((w.getD k 0).natAbs-1)=clm s w (4*k+ouL (w.getD k 0))∧Vv s w (k+1) (w.getD k 0).natAbs=clm s w (4*k+ouR (w.getD k 0)):=by
 obtain ⟨v0,v1,v2⟩:=qfe hw hk
 constructor
 ·
  unfold Vv
  rw [lst_step,upd_ne _ _ (by omega),qdm,if_neg (by omega),Int.toNat_natCast]
 ·
  unfold Vv
  rw [lst_step,qdm,if_neg (by omega),Int.toNat_natCast]
omit hw in
theorem Vv_keep {k p:Nat} (h1:p≠(w.getD k 0).natAbs-1) (h2:p≠(w.getD k 0).natAbs):Vv s w (k+1) p=Vv s w k p:=by
 unfold Vv
 rw [lst_step,upd_ne _ _ h2,upd_ne _ _ h1]
theorem Vv_end {p:Nat} (hp:p<s):Vv s w w.length p=Vv s w 0 p:=by
 have e0:Vv s w 0 p=((stC w w.length).fst p).toNat:=if_pos (by unfold stC; show (-1:Int)<0; decide)
 rw [e0]
 unfold Vv
 by_cases q:(stC w w.length).lst p<0
 · rw [if_pos q]
 ·
  rw [if_neg q]
  exact (clm_pair hw (List.mem_append_right _ (mem_clz.2 ⟨p,hp,by omega,rfl⟩))).2.2.1
