import Derived.Test.YtkjpldmelafooaaPHpg
import Derived.Test.YtkjpldmelafooaaPHbraid
set_option linter.all false
namespace Go.Proofs.Ytkjpldmelafooaa
open Ev
namespace Pg
def par (T:Nat→Bool) (c:Nat):Bool:=((T (4*c)^^T (4*c+1))^^T (4*c+2))^^T (4*c+3)
theorem par_flip (T:Nat→Bool) (x c:Nat):par (fun z=>T z^^decide (z=x)) c=(par T c^^decide (x/ 4=c)):=by
 have key: ∀q r,r<4→x=4*q+r→par (fun z=>T z^^decide (z=x)) c=(par T c^^decide (x/ 4=c)):=by
  intro q r hr hx
  have hq:x/ 4=q:=by omega
  rw [hq]
  unfold par
  dsimp only
  by_cases e:q=c
  ·
   subst e
   have hr4:r=0∨r=1∨r=2∨r=3:=by omega
   rcases hr4 with h | h | h | h<;>subst h<;>subst hx
   ·
    rw [dT (show 4*q=4*q+0 by omega),dF (show¬4*q+1=4*q+0 by omega),dF (show¬4*q+2=4*q+0 by omega),dF (show¬4*q+3=4*q+0 by omega),dT rfl]
    cases T (4*q)<;>cases T (4*q+1)<;>cases T (4*q+2)<;>cases T (4*q+3)<;>rfl
   ·
    rw [dF (show¬4*q=4*q+1 by omega),dT (show 4*q+1=4*q+1 by omega),dF (show¬4*q+2=4*q+1 by omega),dF (show¬4*q+3=4*q+1 by omega),dT rfl]
    cases T (4*q)<;>cases T (4*q+1)<;>cases T (4*q+2)<;>cases T (4*q+3)<;>rfl
   ·
    rw [dF (show¬4*q=4*q+2 by omega),dF (show¬4*q+1=4*q+2 by omega),dT (show 4*q+2=4*q+2 by omega),dF (show¬4*q+3=4*q+2 by omega),dT rfl]
    cases T (4*q)<;>cases T (4*q+1)<;>cases T (4*q+2)<;>cases T (4*q+3)<;>rfl
   ·
    rw [dF (show¬4*q=4*q+3 by omega),dF (show¬4*q+1=4*q+3 by omega),dF (show¬4*q+2=4*q+3 by omega),dT (show 4*q+3=4*q+3 by omega),dT rfl]
    cases T (4*q)<;>cases T (4*q+1)<;>cases T (4*q+2)<;>cases T (4*q+3)<;>rfl
  ·
   rw [dF (show¬4*c=x by omega),dF (show¬4*c+1=x by omega),dF (show¬4*c+2=x by omega),dF (show¬4*c+3=x by omega),dF e]
   cases T (4*c)<;>cases T (4*c+1)<;>cases T (4*c+2)<;>cases T (4*c+3)<;>rfl
 exact key (x/ 4) (x%4) (Nat.mod_lt _ (by omega)) (by omega)
theorem par_none (c:Nat):par (fun _=>false) c=false:=rfl
theorem way_set {n:Nat} {ν:Nat→Nat} (hν:IV n ν) {p q:Nat} (h:Cn (adjP n ν) p q): ∃T:Nat→Bool,(∀x,x<4*n→T (ν x)=T x)∧(∀x,x<4*n→T x=true→ν x≠x)∧∀c,c<n→par T c=(decide (p=c)^^decide (q=c)):=by
 induction h with
 | refl=>exact ⟨fun _=>false,fun _ _=>rfl,fun _ _ h=>absurd (show false=true from h) (by decide),fun c _=>by rw [par_none]; cases decide (p=c)<;>rfl⟩
 | @step b d h1 h2 ih=>
  obtain ⟨T,t1,t2,t3⟩:=ih
  obtain ⟨hb,hd,s,hs,hm⟩:=h2
  generalize hx:4*b+s=x at hm
  have hxl:x<4*n:=by omega
  have hxb:x/ 4=b:=by omega
  by_cases hf:ν x=x
  ·
   rw [hf,hxb] at hm
   subst hm
   exact ⟨T,t1,t2,t3⟩
  ·
   have hyl:=hν.lt x hxl
   have hyy:=hν.inv x hxl
   refine ⟨fun z=>(T z^^decide (z=x))^^decide (z=ν x),fun z hz=>?_,fun z hz hT=>?_,fun c hc=>?_⟩
   ·
    dsimp only
    rw [t1 z hz]
    have e1:decide (ν z=x)=decide (z=ν x):=decide_eq_decide.2 ⟨fun e=>by rw [←e,hν.inv z hz],fun e=>by rw [e,hyy]⟩
    have e2:decide (ν z=ν x)=decide (z=x):=decide_eq_decide.2 ⟨fun e=>by rw [←hν.inv z hz,e,hyy],fun e=>by rw [e]⟩
    rw [e1,e2]
    cases T z<;>cases decide (z=x)<;>cases decide (z=ν x)<;>rfl
   ·
    dsimp only at hT
    intro hz2
    by_cases e1:z=x
    · subst e1; exact hf hz2
    by_cases e2:z=ν x
    ·
     subst e2
     rw [hyy] at hz2
     exact hf hz2.symm
    rw [dF e1,dF e2,Bool.xor_false,Bool.xor_false] at hT
    exact t2 z hz hT hz2
   ·
    rw [par_flip (fun z=>T z^^decide (z=x)) (ν x) c,par_flip T x c,t3 c hc,hxb,hm]
    cases decide (p=c)<;>cases decide (b=c)<;>cases decide (d=c)<;>rfl
def Parts (n:Nat) (μ:Nat→Nat):Prop:= ∀S:Nat→Bool,(∀x,x<4*n→S (μ x)=S x)→(∀c,c<n→par S c=false)→
 ∃κ:Nat→Bool,(∀x,x<4*n→κ (fc μ x)=κ x)∧∀x,x<4*n→(κ x^^κ (turnN x 3))=S x
theorem dd_add' {n:Nat} {μ:Nat→Nat} (h:IV n μ) {a b:Nat} (ha:a<4*n) (hb:b<4*n) (hab:a≠b) (fa:μ a=a) (fb:μ b=b):dd n (addP μ a b)=dd n μ∨(Cn (adjP n μ) (a/ 4) (b/ 4)∧¬Cn (adjI (4*n) (fc μ)) a b):=by
 have hm:mvd n (addP μ a b)=mvd n μ+2:=by
  unfold mvd
  have c1:=qeg (N:=4*n) (p:=fun x=>μ x≠x) ha (fun q=>q fa)
  have c2:=qeg (N:=4*n) (p:=fun h=>h=a∨μ h≠h) hb (by rintro (e | e); exact hab e.symm; exact e fb)
  have c3:cnt (4*n) (fun x=>addP μ a b x≠x)=cnt (4*n) (fun h=>h=b∨h=a∨μ h≠h):=by
   refine qby fun k hk=>?_
   unfold addP
   by_cases k1:k=a
   · subst k1; rw [if_pos rfl]; exact ⟨fun _=>.inr (.inl rfl),fun _ e=>hab e.symm⟩
   by_cases k2:k=b
   · subst k2; rw [if_neg k1,if_pos rfl]; exact ⟨fun _=>.inl rfl,fun _ e=>hab e⟩
   ·
    rw [if_neg k1,if_neg k2]
    exact ⟨fun e=>.inr (.inr e),fun e=>by rcases e with e | e | e; exact absurd e k2; exact absurd e k1; exact e⟩
  omega
 have hf:fc (addP μ a b)=sw (fc μ) a b:=by
  funext x
  unfold fc addP sw
  by_cases x1:x=a
  ·
   rw [if_pos x1,if_pos x1]
   show turnN b 3=turnN (μ b) 3
   rw [fb]
  by_cases x2:x=b
  ·
   rw [if_neg x1,if_pos x2,if_neg x1,if_pos x2]
   show turnN a 3=turnN (μ a) 3
   rw [fa]
  · rw [if_neg x1,if_neg x2,if_neg x1,if_neg x2]
 have hF:cls (4*n) (adjF n (addP μ a b))=cls (4*n) (adjI (4*n) (sw (fc μ) a b)):=by
  rw [←hf]; rfl
 have hF0:cls (4*n) (adjF n μ)=cls (4*n) (adjI (4*n) (fc μ)):=rfl
 obtain ⟨f1,f2⟩:=cls_sw h.pi ha hb hab
 have hP: ∀x y,Cn (adjP n (addP μ a b)) x y↔Cn (orAdj (adjP n μ) (a/ 4) (b/ 4)) x y:=by
  intro x y
  constructor
  ·
   refine fun hc=>Cn.map (f:=id) (fun x y hxy=>?_) hc
   show Cn _ x y
   obtain ⟨h1,h2,s,hs,h3⟩:=hxy
   unfold addP at h3
   by_cases s1:4*x+s=a
   ·
    rw [if_pos s1] at h3
    exact Cn.one (.inr (.inl ⟨by omega,h3.symm⟩))
   by_cases s2:4*x+s=b
   ·
    rw [if_neg s1,if_pos s2] at h3
    exact Cn.one (.inr (.inr ⟨by omega,h3.symm⟩))
   ·
    rw [if_neg s1,if_neg s2] at h3
    exact Cn.one (.inl ⟨h1,h2,s,hs,h3⟩)
  ·
   have hp:adjP n (addP μ a b) (a/ 4) (b/ 4):=⟨by omega,by omega,a%4,by omega,by
    rw [show 4*(a/ 4)+a%4=a from by omega]
    unfold addP
    rw [if_pos rfl]⟩
   refine fun hc=>Cn.map (f:=id) (fun x y hxy=>?_) hc
   show Cn _ x y
   rcases hxy with ⟨h1,h2,s,hs,h3⟩ | ⟨rfl,rfl⟩ | ⟨rfl,rfl⟩
   ·
    by_cases s1:4*x+s=a
    ·
     rw [s1,fa] at h3
     have:x=y:=by omega
     rw [this]; exact .refl _
    by_cases s2:4*x+s=b
    ·
     rw [s2,fb] at h3
     have:x=y:=by omega
     rw [this]; exact .refl _
    ·
     refine Cn.one ⟨h1,h2,s,hs,?_⟩
     unfold addP
     rw [if_neg s1,if_neg s2]; exact h3
   · exact Cn.one hp
   · exact Cn.one ((h.add ha hb hab fa fb).symm _ _ hp)
 have hK:cls n (adjP n (addP μ a b))=cls n (orAdj (adjP n μ) (a/ 4) (b/ 4)):=qef fun x y _ _=>hP x y
 unfold dd
 by_cases hc:Cn (adjP n μ) (a/ 4) (b/ 4)
 ·
  have hK2:cls n (orAdj (adjP n μ) (a/ 4) (b/ 4))=cls n (adjP n μ):=qef fun x y _ _=>⟨fun q=>Cn.map (f:=id) (fun x y hxy=>by
   show Cn _ x y
   rcases hxy with hxy | ⟨rfl,rfl⟩ | ⟨rfl,rfl⟩
   · exact Cn.one hxy
   · exact hc
   · exact hc.symm h.symm) q,fun q=>Cn.map (f:=id) (fun x y hxy=>Cn.one (.inl hxy)) q⟩
  by_cases hfc:Cn (adjI (4*n) (fc μ)) a b
  ·
   have:=f2 hfc
   left; omega
  ·
   have:=f1 hfc
   right; exact ⟨hc,hfc⟩
 ·
  have hj:=cls_join h.symm (show a/ 4<n by omega) (show b/ 4<n by omega) hc
  have:=f1 (fun hfc=>hc (face_part h hfc))
  left; omega
theorem dd_flat {n:Nat} {μ:Nat→Nat} (h:IV n μ) (hP:Parts n μ) {ν:Nat→Nat} (hν:IV n ν) (hle: ∀x,x<4*n→ν x=x∨ν x=μ x) {a:Nat} (ha:a<4*n) (hab:a≠μ a) (fa:ν a=a) (fb:ν (μ a)=μ a):dd n (addP ν a (μ a))=dd n ν:=by
 have hb:=h.lt a ha
 rcases dd_add' hν ha hb hab fa fb with q | ⟨hc,hfc⟩
 · exact q
 exfalso
 obtain ⟨T,t1,t2,t3⟩:=way_set hν hc
 have hf:fc (addP ν a (μ a))=sw (fc ν) a (μ a):=by
  funext x
  unfold fc addP sw
  by_cases x1:x=a
  ·
   rw [if_pos x1,if_pos x1]
   show turnN (μ a) 3=turnN (ν (μ a)) 3
   rw [fb]
  by_cases x2:x=μ a
  ·
   rw [if_neg x1,if_pos x2,if_neg x1,if_pos x2]
   show turnN a 3=turnN (ν a) 3
   rw [fa]
  · rw [if_neg x1,if_neg x2,if_neg x1,if_neg x2]
 -- a and its mate are joined by the new faces
 have hj:Cn (adjI (4*n) (fc (addP ν a (μ a)))) a (μ a):=by
  rw [hf]
  exact (cn_sw hν.pi ha hb hfc a (μ a)).2 (Cn.one (.inr (.inl ⟨rfl,rfl⟩)))
 have hia:μ (μ a)=a:=h.inv a ha
 have ha0:T a=false:=by
  cases e:T a with
  | false=>rfl
  | true=>exact absurd fa (t2 a ha e)
 have hb0:T (μ a)=false:=by
  cases e:T (μ a) with
  | false=>rfl
  | true=>exact absurd fb (t2 _ hb e)
 obtain ⟨κ,k1,k2⟩:=hP (fun z=>(T z^^decide (z=a))^^decide (z=μ a)) (fun x hx=>by
  have e1:decide (μ x=a)=decide (x=μ a):=decide_eq_decide.2 ⟨fun e=>by rw [←e,h.inv x hx],fun e=>by rw [e,hia]⟩
  have e2:decide (μ x=μ a)=decide (x=a):=decide_eq_decide.2 ⟨fun e=>by rw [←h.inv x hx,e,hia],fun e=>by rw [e]⟩
  have e3:T (μ x)=T x:=by
   rcases hle x hx with q | q
   ·
    have h1:T x=false:=by
     cases e:T x with
     | false=>rfl
     | true=>exact absurd q (t2 x hx e)
    have h2:T (μ x)=false:=by
     cases e:T (μ x) with
     | false=>rfl
     | true=>
      have h3:=t2 _ (h.lt x hx) e
      rcases hle _ (h.lt x hx) with q2 | q2
      · exact absurd q2 h3
      ·
       rw [h.inv x hx] at q2
       have h4:=hν.inv _ (h.lt x hx)
       rw [q2,q] at h4
       exact absurd (q2.trans h4) h3
    rw [h1,h2]
   · rw [←q,t1 x hx]
  rw [e1,e2,e3]
  cases T x<;>cases decide (x=a)<;>cases decide (x=μ a)<;>rfl) (fun c hcn=>by
  rw [par_flip (fun z=>T z^^decide (z=a)) (μ a) c,par_flip T a c,t3 c hcn]
  cases decide (a/ 4=c)<;>cases decide (μ a/ 4=c)<;>rfl)
 -- the corners of the new faces keep their side
 have hinv: ∀x,x<4*n→κ (fc (addP ν a (μ a)) x)=κ x:=by
  intro x hx
  by_cases x1:x=a
  ·
   have:fc (addP ν a (μ a)) x=fc μ x:=by unfold fc addP; rw [if_pos x1,x1]
   rw [this,k1 x hx]
  by_cases x2:x=μ a
  ·
   have:fc (addP ν a (μ a)) x=fc μ x:=by unfold fc addP; rw [if_neg x1,if_pos x2,x2,hia]
   rw [this,k1 x hx]
  rcases hle x hx with q | q
  ·
   have:fc (addP ν a (μ a)) x=turnN x 3:=by unfold fc addP; rw [if_neg x1,if_neg x2,q]
   rw [this]
   have h1:T x=false:=by
    cases e:T x with
    | false=>rfl
    | true=>exact absurd q (t2 x hx e)
   have h2:=k2 x hx
   rw [h1,dF x1,dF x2] at h2
   revert h2
   cases κ x<;>cases κ (turnN x 3)<;>decide
  ·
   have:fc (addP ν a (μ a)) x=fc μ x:=by unfold fc addP; rw [if_neg x1,if_neg x2,q]
   rw [this,k1 x hx]
 have hsame:κ a=κ (μ a):=by
  have: ∀y,Cn (adjI (4*n) (fc (addP ν a (μ a)))) a y→κ a=κ y:=by
   intro y hy
   refine Cn.closed (S:=fun y=>κ a=κ y) (fun u v hu ⟨h1,h2,h3⟩=>?_) hy rfl
   rcases h3 with h3 | h3
   · rw [h3,hinv u h1]; exact hu
   · rw [h3,hinv v h2] at hu; exact hu
  exact this _ hj
 have h1:=k2 a ha
 have h2:=k1 _ hb
 have h3:fc μ (μ a)=turnN a 3:=by unfold fc; rw [hia]
 rw [h3] at h2
 rw [ha0,dT rfl,dF hab,h2,hsame] at h1
 revert h1
 cases κ (μ a)<;>decide
theorem dd_same {n:Nat} {μ:Nat→Nat} (h:IV n μ) (hP:Parts n μ): ∀(k:Nat) (ν:Nat→Nat),IV n ν→4*n-mvd n ν≤k→(∀x,x<4*n→ν x=x∨ν x=μ x)→dd n μ=dd n ν:=by
 intro k
 induction k with
 | zero=>
  intro ν hν hk hle
  have hc:=cnt_le (4*n) (fun x=>ν x≠x)
  have hall: ∀x,x<4*n→ν x≠x:=by
   intro x hx e
   have:=qeg (N:=4*n) (p:=fun x=>ν x≠x) hx (fun q=>q e)
   have h2:=cnt_le (4*n) (fun h=>h=x∨ν h≠h)
   unfold mvd at hk
   omega
  have e: ∀x,x<4*n→ν x=μ x:=fun x hx=>by
   rcases hle x hx with q | q
   · exact absurd q (hall x hx)
   · exact q
  have e1:cls n (adjP n μ)=cls n (adjP n ν):=qef fun x y _ _=>by
   have:adjP n μ=adjP n ν:=by
    funext c d
    refine propext ⟨fun ⟨h1,h2,s,hs,h3⟩=>⟨h1,h2,s,hs,by rw [e _ (by omega)]; exact h3⟩,fun ⟨h1,h2,s,hs,h3⟩=>⟨h1,h2,s,hs,by rw [←e _ (by omega)]; exact h3⟩⟩
   rw [this]
  have e2:cls (4*n) (adjF n μ)=cls (4*n) (adjF n ν):=qef fun x y _ _=>by
   have:adjF n μ=adjF n ν:=by
    funext c d
    unfold adjF fc
    refine propext ⟨fun ⟨h1,h2,h3⟩=>⟨h1,h2,by rw [e c h1,e d h2]; exact h3⟩,fun ⟨h1,h2,h3⟩=>⟨h1,h2,by rw [←e c h1,←e d h2]; exact h3⟩⟩
   rw [this]
  have e3:mvd n μ=mvd n ν:=qby fun x hx=>by rw [e x hx]
  unfold dd
  rw [e1,e2,e3]
 | succ k ih=>
  intro ν hν hk hle
  by_cases hex: ∃x,x<4*n∧ν x≠μ x
  ·
   obtain ⟨a,ha,hne⟩:=hex
   have fa:ν a=a:=by
    rcases hle a ha with q | q
    · exact q
    · exact absurd q hne
   have hb:=h.lt a ha
   have hab:a≠μ a:=fun e=>hne (by rw [fa]; exact e)
   have fb:ν (μ a)=μ a:=by
    rcases hle _ hb with q | q
    · exact q
    ·
     rw [h.inv a ha] at q
     exact absurd (by rw [←hν.inv _ hb,q,fa]) hab
   have hI:=hν.add ha hb hab fa fb
   have hm:mvd n ν+2≤mvd n (addP ν a (μ a)):=by
    have:=dd_add hν ha hb hab fa fb
    unfold mvd
    have c1:=qeg (N:=4*n) (p:=fun x=>ν x≠x) ha (fun q=>q fa)
    have c2:=qeg (N:=4*n) (p:=fun h=>h=a∨ν h≠h) hb (by rintro (e | e); exact hab e.symm; exact e fb)
    have:cnt (4*n) (fun h=>h=μ a∨h=a∨ν h≠h)=cnt (4*n) (fun x=>addP ν a (μ a) x≠x):=by
     refine qby fun k hk=>?_
     unfold addP
     by_cases k1:k=a
     · subst k1; rw [if_pos rfl]; exact ⟨fun _ e=>hab e.symm,fun _=>.inr (.inl rfl)⟩
     by_cases k2:k=μ a
     · subst k2; rw [if_neg k1,if_pos rfl]; exact ⟨fun _ e=>hab e,fun _=>.inl rfl⟩
     ·
      rw [if_neg k1,if_neg k2]
      exact ⟨fun e=>by rcases e with e | e | e; exact absurd e k2; exact absurd e k1; exact e,fun e=>.inr (.inr e)⟩
    omega
   have hj:=ih (addP ν a (μ a)) hI (by omega) (fun x hx=>by
    unfold addP
    by_cases x1:x=a
    · right; rw [if_pos x1,x1]
    by_cases x2:x=μ a
    · right; rw [if_neg x1,if_pos x2,x2,h.inv a ha]
    · rw [if_neg x1,if_neg x2]; exact hle x hx)
   rw [hj,dd_flat h hP hν hle ha hab fa fb]
  ·
   have e: ∀x,x<4*n→ν x=μ x:=fun x hx=>Classical.byContradiction fun q=>hex ⟨x,hx,q⟩
   have e1:cls n (adjP n μ)=cls n (adjP n ν):=qef fun x y _ _=>by
    have:adjP n μ=adjP n ν:=by
     funext c d
     refine propext ⟨fun ⟨h1,h2,s,hs,h3⟩=>⟨h1,h2,s,hs,by rw [e _ (by omega)]; exact h3⟩,fun ⟨h1,h2,s,hs,h3⟩=>⟨h1,h2,s,hs,by rw [←e _ (by omega)]; exact h3⟩⟩
    rw [this]
   have e2:cls (4*n) (adjF n μ)=cls (4*n) (adjF n ν):=qef fun x y _ _=>by
    have:adjF n μ=adjF n ν:=by
     funext c d
     unfold adjF fc
     refine propext ⟨fun ⟨h1,h2,h3⟩=>⟨h1,h2,by rw [e c h1,e d h2]; exact h3⟩,fun ⟨h1,h2,h3⟩=>⟨h1,h2,by rw [←e c h1,←e d h2]; exact h3⟩⟩
    rw [this]
   have e3:mvd n μ=mvd n ν:=qby fun x hx=>by rw [e x hx]
   unfold dd
   rw [e1,e2,e3]
theorem planar {n:Nat} {M:List Int} {μ:Nat→Nat} (hM:MT (4*n) M μ) (hP:Parts n μ):gen2 n μ=0:=by
 have h0:IV n (fun h=>h):=⟨fun h hh=>hh,fun h _=>rfl⟩
 have h1:=dd_same hM.iv hP (4*n) (fun h=>h) h0 (by omega) (fun x _=>.inl rfl)
 rw [dd_id,dd_full hM] at h1
 omega
end Pg
end Go.Proofs.Ytkjpldmelafooaa

set_option linter.all false
namespace Go.Proofs.Ytkjpldmelafooaa
open Ev
namespace Gl
open Gar Pg
structure Cl where
 fst:Nat→Int
 lst:Nat→Int
 ps:List (Nat×Nat)
def upd (f:Nat→Int) (p:Nat) (v:Int) (q:Nat):Int:=if q=p then v else f q
def Cl.pass (S:Cl) (p i o:Nat):Cl:=
 if S.lst p<0 then ⟨upd S.fst p i,upd S.lst p o,S.ps⟩ else ⟨S.fst,upd S.lst p o,S.ps++[((S.lst p).toNat,i)]⟩
structure Cl.Ok (S:Cl) (s:Nat) (O I:Nat→Prop):Prop where
 n1:(S.ps.map (·.1)).Nodup
 n2:(S.ps.map (·.2)).Nodup
 o1: ∀a∈S.ps.map (·.1),O a
 i1: ∀a∈S.ps.map (·.2),I a
 lo: ∀p,p<s→-1≤S.lst p∧-1≤S.fst p∧(S.lst p<0↔S.fst p<0)
 l1: ∀p,p<s→0≤S.lst p→O (S.lst p).toNat∧(S.lst p).toNat∉S.ps.map (·.1)
 f1: ∀p,p<s→0≤S.fst p→I (S.fst p).toNat∧(S.fst p).toNat∉S.ps.map (·.2)
 l2: ∀p q,p<s→q<s→0≤S.lst p→S.lst p=S.lst q→p=q
 f2: ∀p q,p<s→q<s→0≤S.fst p→S.fst p=S.fst q→p=q
 ao: ∀h,O h→h∈S.ps.map (·.1)∨∃p,p<s∧S.lst p=(h:Int)
 ai: ∀h,I h→h∈S.ps.map (·.2)∨∃p,p<s∧S.fst p=(h:Int)
theorem qca (f:Nat→Int) (p:Nat) (v:Int):upd f p v p=v:=if_pos rfl
theorem upd_ne (f:Nat→Int) {p q:Nat} (v:Int) (h:q≠p):upd f p v q=f q:=if_neg h
theorem Cl.Ok.pass {S:Cl} {s:Nat} {O I:Nat→Prop} (h:S.Ok s O I) {p i o:Nat} (hp:p<s) (ho: ¬O o) (hi: ¬I i):(S.pass p i o).Ok s (fun x=>O x∨x=o) (fun x=>I x∨x=i):=by
 obtain ⟨a1,a2,a3⟩:=h.lo p hp
 unfold Cl.pass
 by_cases hl:S.lst p<0
 ·
  rw [if_pos hl]
  have hf:=a3.1 hl
  refine ⟨h.n1,h.n2,fun a ha=>.inl (h.o1 a ha),fun a ha=>.inl (h.i1 a ha),fun q hq=>?_,fun q hq hq0=>?_,fun q hq hq0=>?_,fun q r hq hr h0 e=>?_,fun q r hq hr h0 e=>?_,fun x hx=>?_,fun x hx=>?_⟩
  ·
   dsimp only
   by_cases e:q=p
   · rw [e,qca,qca]; omega
   · rw [upd_ne _ _ e,upd_ne _ _ e]; exact h.lo q hq
  ·
   dsimp only at hq0⊢
   by_cases e:q=p
   · rw [e,qca,Int.toNat_natCast]; exact ⟨.inr rfl,fun m=>ho (h.o1 _ m)⟩
   ·
    rw [upd_ne _ _ e] at hq0⊢
    exact ⟨.inl (h.l1 q hq hq0).1,(h.l1 q hq hq0).2⟩
  ·
   dsimp only at hq0⊢
   by_cases e:q=p
   · rw [e,qca,Int.toNat_natCast]; exact ⟨.inr rfl,fun m=>hi (h.i1 _ m)⟩
   ·
    rw [upd_ne _ _ e] at hq0⊢
    exact ⟨.inl (h.f1 q hq hq0).1,(h.f1 q hq hq0).2⟩
  ·
   dsimp only at h0 e
   by_cases e1:q=p<;>by_cases e2:r=p
   · rw [e1,e2]
   ·
    exfalso
    rw [e1,qca,upd_ne _ _ e2] at e
    have:=(h.l1 r hr (by omega)).1
    rw [←e,Int.toNat_natCast] at this
    exact ho this
   ·
    exfalso
    rw [e2,qca,upd_ne _ _ e1] at e
    rw [upd_ne _ _ e1] at h0
    have:=(h.l1 q hq h0).1
    rw [e,Int.toNat_natCast] at this
    exact ho this
   ·
    rw [upd_ne _ _ e1] at h0
    rw [upd_ne _ _ e1,upd_ne _ _ e2] at e
    exact h.l2 q r hq hr h0 e
  ·
   dsimp only at h0 e
   by_cases e1:q=p<;>by_cases e2:r=p
   · rw [e1,e2]
   ·
    exfalso
    rw [e1,qca,upd_ne _ _ e2] at e
    have:=(h.f1 r hr (by omega)).1
    rw [←e,Int.toNat_natCast] at this
    exact hi this
   ·
    exfalso
    rw [e2,qca,upd_ne _ _ e1] at e
    rw [upd_ne _ _ e1] at h0
    have:=(h.f1 q hq h0).1
    rw [e,Int.toNat_natCast] at this
    exact hi this
   ·
    rw [upd_ne _ _ e1] at h0
    rw [upd_ne _ _ e1,upd_ne _ _ e2] at e
    exact h.f2 q r hq hr h0 e
  ·
   dsimp only
   rcases hx with hx | hx
   ·
    rcases h.ao x hx with m | ⟨q,hq,e⟩
    · exact .inl m
    ·
     refine .inr ⟨q,hq,?_⟩
     rw [upd_ne _ _ (fun e1=>by rw [e1] at e; omega)]; exact e
   · exact .inr ⟨p,hp,by rw [qca,hx]⟩
  ·
   dsimp only
   rcases hx with hx | hx
   ·
    rcases h.ai x hx with m | ⟨q,hq,e⟩
    · exact .inl m
    ·
     refine .inr ⟨q,hq,?_⟩
     rw [upd_ne _ _ (fun e1=>by rw [e1] at e; omega)]; exact e
   · exact .inr ⟨p,hp,by rw [qca,hx]⟩
 ·
  rw [if_neg hl]
  obtain ⟨b1,b2⟩:=h.l1 p hp (by omega)
  have m1: ∀x,x∈(S.ps++[((S.lst p).toNat,i)]).map (·.1)↔x∈S.ps.map (·.1)∨x=(S.lst p).toNat:=fun x=>by simp only [List.map_append,List.mem_append,List.map_cons,List.map_nil,List.mem_singleton]
  have m2: ∀x,x∈(S.ps++[((S.lst p).toNat,i)]).map (·.2)↔x∈S.ps.map (·.2)∨x=i:=fun x=>by simp only [List.map_append,List.mem_append,List.map_cons,List.map_nil,List.mem_singleton]
  refine ⟨?_,?_,fun a ha=>?_,fun a ha=>?_,fun q hq=>?_,fun q hq hq0=>?_,fun q hq hq0=>?_,fun q r hq hr h0 e=>?_,h.f2,fun x hx=>?_,fun x hx=>?_⟩
  ·
   dsimp only
   rw [List.map_append,List.nodup_append]
   exact ⟨h.n1,by simp,fun a ha b hb e=>by
    simp only [List.map_cons,List.map_nil,List.mem_singleton] at hb
    rw [hb] at e; rw [e] at ha; exact b2 ha⟩
  ·
   dsimp only
   rw [List.map_append,List.nodup_append]
   exact ⟨h.n2,by simp,fun a ha b hb e=>by
    simp only [List.map_cons,List.map_nil,List.mem_singleton] at hb
    rw [hb] at e; rw [e] at ha; exact hi (h.i1 _ ha)⟩
  ·
   rcases (m1 a).1 ha with q | q
   · exact .inl (h.o1 a q)
   · rw [q]; exact .inl b1
  ·
   rcases (m2 a).1 ha with q | q
   · exact .inl (h.i1 a q)
   · exact .inr q
  ·
   dsimp only
   by_cases e:q=p
   · rw [e,qca]; omega
   · rw [upd_ne _ _ e]; exact h.lo q hq
  ·
   dsimp only at hq0⊢
   by_cases e:q=p
   ·
    rw [e,qca,Int.toNat_natCast]
    refine ⟨.inr rfl,fun m=>?_⟩
    rcases (m1 o).1 m with k | k
    · exact ho (h.o1 _ k)
    · rw [←k] at b1; exact ho b1
   ·
    rw [upd_ne _ _ e] at hq0⊢
    obtain ⟨c1,c2⟩:=h.l1 q hq hq0
    refine ⟨.inl c1,fun m=>?_⟩
    rcases (m1 _).1 m with k | k
    · exact c2 k
    · exact e (h.l2 q p hq hp hq0 (by omega))
  ·
   dsimp only at hq0⊢
   obtain ⟨c1,c2⟩:=h.f1 q hq hq0
   refine ⟨.inl c1,fun m=>?_⟩
   rcases (m2 _).1 m with k | k
   · exact c2 k
   · rw [k] at c1; exact hi c1
  ·
   dsimp only at h0 e
   by_cases e1:q=p<;>by_cases e2:r=p
   · rw [e1,e2]
   ·
    exfalso
    rw [e1,qca,upd_ne _ _ e2] at e
    have:=(h.l1 r hr (by omega)).1
    rw [←e,Int.toNat_natCast] at this
    exact ho this
   ·
    exfalso
    rw [e2,qca,upd_ne _ _ e1] at e
    rw [upd_ne _ _ e1] at h0
    have:=(h.l1 q hq h0).1
    rw [e,Int.toNat_natCast] at this
    exact ho this
   ·
    rw [upd_ne _ _ e1] at h0
    rw [upd_ne _ _ e1,upd_ne _ _ e2] at e
    exact h.l2 q r hq hr h0 e
  ·
   rcases hx with hx | hx
   ·
    rcases h.ao x hx with m | ⟨q,hq,e⟩
    · exact .inl ((m1 x).2 (.inl m))
    ·
     by_cases e1:q=p
     · exact .inl ((m1 x).2 (.inr (by rw [e1] at e; omega)))
     · exact .inr ⟨q,hq,by dsimp only; rw [upd_ne _ _ e1]; exact e⟩
   · exact .inr ⟨p,hp,by dsimp only; rw [qca,hx]⟩
  ·
   rcases hx with hx | hx
   ·
    rcases h.ai x hx with m | ⟨q,hq,e⟩
    · exact .inl ((m2 x).2 (.inl m))
    · exact .inr ⟨q,hq,e⟩
   · exact .inl ((m2 x).2 (.inr hx))
theorem Cl.pass_fst (S:Cl) (p i o:Nat) (q:Nat) (h:0≤S.fst q) (hq:S.lst p<0→S.fst p<0):(S.pass p i o).fst q=S.fst q:=by
 unfold Cl.pass
 by_cases hl:S.lst p<0
 ·
  rw [if_pos hl]
  exact upd_ne _ _ fun e=>by rw [e] at h; have:=hq hl; omega
 · rw [if_neg hl]
theorem Cl.pass_ps (S:Cl) (p i o:Nat) (a:Nat×Nat) (h:a∈S.ps):a∈(S.pass p i o).ps:=by
 unfold Cl.pass
 split
 · exact h
 · exact List.mem_append_left _ h
theorem Cl.pass_lst (S:Cl) (p i o:Nat) (q:Nat):(S.pass p i o).lst q=upd S.lst p o q:=by
 unfold Cl.pass
 split<;>rfl
theorem Cl.pass_in (S:Cl) (p i o:Nat) (h1: -1≤S.lst p):(S.lst p<0∧(S.pass p i o).fst p=(i:Int))∨(0≤S.lst p∧((S.lst p).toNat,i)∈(S.pass p i o).ps):=by
 unfold Cl.pass
 by_cases hl:S.lst p<0
 · rw [if_pos hl]; exact .inl ⟨hl,qca _ _ _⟩
 · rw [if_neg hl]; exact .inr ⟨by omega,by simp⟩
open Gar Pg
def inL (v:Int):Nat:=if 0<v then 3 else 0
def inR (v:Int):Nat:=if 0<v then 0 else 1
def ouR (v:Int):Nat:=if 0<v then 1 else 2
def ouL (v:Int):Nat:=if 0<v then 2 else 3
def sgv (v:Int):Int:=if 0<v then 1 else -1
def stp (S:Cl) (k:Nat) (v:Int):Cl:=(S.pass (v.natAbs-1) (4*k+inL v) (4*k+ouL v)).pass v.natAbs (4*k+inR v) (4*k+ouR v)
def stC (w:List Int):Nat→Cl
 | 0=>⟨fun _=>-1,fun _=>-1,[]⟩
 | k+1=>stp (stC w k) k (w.getD k 0)
def OuW (w:List Int) (k h:Nat):Prop:=h<4*k∧(h%4=2∨if 0<w.getD (h/ 4) 0 then h%4=1 else h%4=3)
def InW (w:List Int) (k h:Nat):Prop:=h<4*k∧(h%4=0∨if 0<w.getD (h/ 4) 0 then h%4=3 else h%4=1)
theorem ou_step (w:List Int) (k h:Nat):((OuW w k h∨h=4*k+ouL (w.getD k 0))∨h=4*k+ouR (w.getD k 0))↔OuW w (k+1) h:=by
 unfold OuW ouL ouR
 by_cases q:h/ 4=k
 ·
  rw [q]
  by_cases v:0<w.getD k 0
  · rw [if_pos v,if_pos v,if_pos v]; omega
  · rw [if_neg v,if_neg v,if_neg v]; omega
 ·
  constructor
  ·
   rintro ((⟨h1,h2⟩ | h1) | h1)
   · exact ⟨by omega,h2⟩
   · exfalso; split at h1<;>omega
   · exfalso; split at h1<;>omega
  ·
   rintro ⟨h1,h2⟩
   exact .inl (.inl ⟨by omega,h2⟩)
theorem in_step (w:List Int) (k h:Nat):((InW w k h∨h=4*k+inL (w.getD k 0))∨h=4*k+inR (w.getD k 0))↔InW w (k+1) h:=by
 unfold InW inL inR
 by_cases q:h/ 4=k
 ·
  rw [q]
  by_cases v:0<w.getD k 0
  · rw [if_pos v,if_pos v,if_pos v]; omega
  · rw [if_neg v,if_neg v,if_neg v]; omega
 ·
  constructor
  ·
   rintro ((⟨h1,h2⟩ | h1) | h1)
   · exact ⟨by omega,h2⟩
   · exfalso; split at h1<;>omega
   · exfalso; split at h1<;>omega
  ·
   rintro ⟨h1,h2⟩
   exact .inl (.inl ⟨by omega,h2⟩)
theorem Cl.Ok.congr {S:Cl} {s:Nat} {O I O' I':Nat→Prop} (h:S.Ok s O I) (ho: ∀x,O x↔O' x) (hi: ∀x,I x↔I' x):S.Ok s O' I':=by
 have e1:O=O':=funext fun x=>propext (ho x)
 have e2:I=I':=funext fun x=>propext (hi x)
 rw [←e1,←e2]; exact h
section
variable {s : Nat} {w : List Int} (hw : ∀ x ∈ w, x ≠ 0 ∧ -(s : Int) < x ∧ x < s)
include hw
theorem qck {k:Nat} (hk:k<w.length):w.getD k 0≠0∧1≤(w.getD k 0).natAbs∧(w.getD k 0).natAbs<s:=by
 have:=hw _ (List.getElem_mem hk)
 rw [qbr hk]
 omega
theorem stC_ok: ∀k,k≤w.length→(stC w k).Ok s (OuW w k) (InW w k)
 | 0,_=>by
  refine ⟨by simp [stC],by simp [stC],by simp [stC],by simp [stC],fun p _=>?_,fun p _ h=>?_,fun p _ h=>?_,fun p q _ _ h=>?_,fun p q _ _ h=>?_,fun h hh=>?_,fun h hh=>?_⟩
  · unfold stC; dsimp only; omega
  · unfold stC at h; dsimp only at h; omega
  · unfold stC at h; dsimp only at h; omega
  · unfold stC at h; dsimp only at h; omega
  · unfold stC at h; dsimp only at h; omega
  · unfold OuW at hh; omega
  · unfold InW at hh; omega
 | k+1,hk=>by
  have ih:=stC_ok k (by omega)
  obtain ⟨v0,v1,v2⟩:=qck hw (show k<w.length by omega)
  have i1:4*k+inL (w.getD k 0)≠4*k+inR (w.getD k 0):=by unfold inL inR; split<;>omega
  have o1:4*k+ouL (w.getD k 0)≠4*k+ouR (w.getD k 0):=by unfold ouL ouR; split<;>omega
  have h1:=ih.pass (p:=(w.getD k 0).natAbs-1) (i:=4*k+inL (w.getD k 0)) (o:=4*k+ouL (w.getD k 0)) (by omega) (fun h=>by have:=h.1; omega) (fun h=>by have:=h.1; omega)
  have h2:=h1.pass (p:=(w.getD k 0).natAbs) (i:=4*k+inR (w.getD k 0)) (o:=4*k+ouR (w.getD k 0)) v2 (fun h=>by
   rcases h with h | h
   · have:=h.1; omega
   · exact o1 h.symm) (fun h=>by
   rcases h with h | h
   · have:=h.1; omega
   · exact i1 h.symm)
  exact h2.congr (ou_step w k) (in_step w k)
end
theorem c2_eq {S:Cl} {s N p i o:Nat} (hp:p<s) (h1:S.lst p<4*N) (hi:i<4*N) {M0:List Int} (hM:M0.length=4*N) (sgs:List Int) (m:Nat):
  F.qfs m p i o (iL s S.lst) (iL s S.fst) sgs (S.ps.foldl setP M0) 0=some (iL s (S.pass p i o).lst,iL s (S.pass p i o).fst,(S.pass p i o).ps.foldl setP M0):=by
 have g1:Ev.get (iL s S.lst) (p:Int)=some (S.lst p):=get_at rfl (qdw hp)
 have g2:Ev.get (iL s S.fst) (p:Int)=some (S.fst p):=get_at rfl (qdw hp)
 have hl:(S.ps.foldl setP M0).length=4*N:=by rw [fold_len,hM]
 unfold F.qfs Cl.pass
 rw [g1,bB]
 by_cases h:S.lst p<0
 ·
  rw [dT h,kT,if_pos h,g2,bB,bB,Int.toNat_natCast,iL_set,iL_set]
  rfl
 ·
  have e1:Ev.get (S.ps.foldl setP M0) (S.lst p)=some ((S.ps.foldl setP M0)[(S.lst p).toNat]'(by omega)):=get_at (k:=(S.lst p).toNat) (by omega) (gE (by omega))
  have e2:Ev.get ((S.ps.foldl setP M0).set (S.lst p).toNat (i:Int)) (i:Int)=some (((S.ps.foldl setP M0).set (S.lst p).toNat (i:Int))[i]'(by rw [List.length_set]; omega)):=get_at rfl (gE (by rw [List.length_set]; omega))
  unfold F.qfn
  rw [dF h,kF,if_neg h,bB,e1,bB,e2,bB,bB,bB,Int.toNat_natCast,Int.toNat_natCast,iL_set,List.foldl_append]
  have e3:S.lst p=((S.lst p).toNat:Int):=by omega
  show some (_,_,((S.ps.foldl setP M0).set (S.lst p).toNat (i:Int)).set i (S.lst p))=some (_,_,setP (S.ps.foldl setP M0) ((S.lst p).toNat,i))
  unfold setP
  dsimp only
  rw [←e3]
  rfl
open Gar Pg
def clz (S:Cl) (k:Nat):List (Nat×Nat):=(List.range k).filterMap fun p=>if S.lst p<0 then none else some ((S.lst p).toNat,(S.fst p).toNat)
def lpz (S:Cl) (k:Nat):List Nat:=(List.range k).filter fun p=>decide (S.lst p<0)
theorem clz_step (S:Cl) (k:Nat):clz S (k+1)=clz S k++(if S.lst k<0 then [] else [((S.lst k).toNat,(S.fst k).toNat)]):=by
 unfold clz
 rw [List.range_succ,List.filterMap_append]
 by_cases h:S.lst k<0
 · simp [h]
 · simp [h]
theorem lpz_step (S:Cl) (k:Nat):lpz S (k+1)=lpz S k++(if S.lst k<0 then [k] else []):=by
 unfold lpz
 rw [List.range_succ,List.filter_append]
 by_cases h:S.lst k<0
 · simp [h]
 · simp [h]
theorem lpz_len (S:Cl) (k:Nat):(lpz S k).length≤k:=by
 have:=List.length_filter_le (fun p=>decide (S.lst p<0)) (List.range k)
 rw [List.length_range] at this
 exact this
theorem fold_snoc (l:List (Nat×Nat)) (x:Nat×Nat) (M:List Int):(l++[x]).foldl setP M=setP (l.foldl setP M) x:=by
 rw [List.foldl_append]; rfl
section
variable {s : Nat} {w : List Int} (hw : ∀ x ∈ w, x ≠ 0 ∧ -(s : Int) < x ∧ x < s) (hs : s ≤ 100) (hl : w.length ≤ 64)
include hs
theorem init_run (m:Nat) (hm:1000<m):loopN m (F.qer m (List.replicate s (0:Int))) (0,List.replicate s (0:Int),List.replicate s (0:Int))=some ((s:Int),iL s (fun _=>-1),iL s (fun _=>-1)):=by
 have key:=qce (body:=F.qer m (List.replicate s (0:Int))) (fun k=>((k:Int),iL s (fun p=>if p<k then (-1:Int) else 0),iL s (fun p=>if p<k then (-1:Int) else 0))) s (r:=((s:Int),iL s (fun _=>-1),iL s (fun _=>-1))) (fun k hk=>by
  unfold F.qer
  dsimp only
  rw [List.length_replicate,dT (by omega),kT,get_at rfl (qdw hk),bB,bB,qal (by omega) (by omega),bB,Int.toNat_natCast,iL_set]
  have:iL s (fun j=>if j=k then (-1:Int) else if j<k then -1 else 0)=iL s (fun j=>if j<k+1 then (-1:Int) else 0):=qdb fun j _=>by
   by_cases e:j=k
   · rw [if_pos e,if_pos (by omega)]
   ·
    rw [if_neg e]
    by_cases q:j<k
    · rw [if_pos q,if_pos (by omega)]
    · rw [if_neg q,if_neg (by omega)]
  rw [this]
  rfl) (by
  unfold F.qer
  dsimp only
  rw [List.length_replicate,dF (by omega),kF]
  have:iL s (fun p=>if p<s then (-1:Int) else 0)=iL s (fun _=>-1):=qdb fun j hj=>if_pos hj
  rw [this]) m (by omega)
 have e0:((0:Int),List.replicate s (0:Int),List.replicate s (0:Int))=(((0:Nat):Int),iL s (fun p=>if p<0 then (-1:Int) else 0),iL s (fun p=>if p<0 then (-1:Int) else 0)):=by
  rw [iL_rep]
  have:iL s (fun _=>(0:Int))=iL s (fun p=>if p<0 then (-1:Int) else 0):=qdb fun j _=>(if_neg (by omega)).symm
  rw [this]; rfl
 rw [e0,key]
include hw hl
omit hs hl in
theorem lst_lt {k p:Nat} (hk:k≤w.length) (hp:p<s):(stC w k).lst p<4*w.length:=by
 have h:=stC_ok hw k hk
 by_cases q:0≤(stC w k).lst p
 ·
  have:=(h.l1 p hp q).1.1
  omega
 · omega
theorem letters_run2 {M0:List Int} (hM:M0.length=4*w.length) (m:Nat) (hm:1000<m):
  loopN m (F.qek m w) (0,M0,[],iL s (fun _=>-1),iL s (fun _=>-1))=some ((w.length:Int),(stC w w.length).ps.foldl setP M0,w.map sgv,iL s (stC w w.length).fst,iL s (stC w w.length).lst):=by
 have key:=qce (body:=F.qek m w) (fun k=>((k:Int),(stC w k).ps.foldl setP M0,(w.take k).map sgv,iL s (stC w k).fst,iL s (stC w k).lst)) w.length (r:=((w.length:Int),(stC w w.length).ps.foldl setP M0,w.map sgv,iL s (stC w w.length).fst,iL s (stC w w.length).lst)) (fun k hk=>by
  obtain ⟨v0,v1,v2⟩:=qck hw hk
  have hv:Ev.get w (k:Int)=some (w.getD k 0):=get_at rfl (by rw [gE hk,qbr hk])
  have htl:((w.take k).map sgv).length=k:=by rw [List.length_map,List.length_take]; omega
  have htk:(w.take (k+1)).map sgv=(w.take k).map sgv++[sgv (w.getD k 0)]:=by
   rw [List.take_add_one,gE hk,Option.toList_some,List.map_append,qbr hk]; rfl
  have hb1:=lst_lt hw (k:=k) (p:=(w.getD k 0).natAbs-1) (by omega) (by omega)
  have hb2:=lst_lt hw (k:=k) (p:=(w.getD k 0).natAbs) (by omega) v2
  have hi1:inL (w.getD k 0)<4:=by unfold inL; split<;>omega
  have hi2:inR (w.getD k 0)<4:=by unfold inR; split<;>omega
  have ho1:ouL (w.getD k 0)<4:=by unfold ouL; split<;>omega
  have ho2:ouR (w.getD k 0)<4:=by unfold ouR; split<;>omega
  have c1:=c2_eq (S:=stC w k) (s:=s) (N:=w.length) (p:=(w.getD k 0).natAbs-1) (i:=4*k+inL (w.getD k 0)) (o:=4*k+ouL (w.getD k 0)) (by omega) (by omega) (by omega) hM ((w.take k).map sgv++[sgv (w.getD k 0)]) m
  have c2:=c2_eq (S:=(stC w k).pass ((w.getD k 0).natAbs-1) (4*k+inL (w.getD k 0)) (4*k+ouL (w.getD k 0))) (s:=s) (N:=w.length) (p:=(w.getD k 0).natAbs) (i:=4*k+inR (w.getD k 0)) (o:=4*k+ouR (w.getD k 0)) v2 (by rw [Cl.pass_lst,upd_ne _ _ (by omega)]; omega) (by omega) hM ((w.take k).map sgv++[sgv (w.getD k 0)]) m
  have h4:F.qgv m (k:Int) ((stC w k).ps.foldl setP M0) ((w.take k).map sgv) (iL s (stC w k).fst) (iL s (stC w k).lst) (sgv (w.getD k 0)) (((w.getD k 0).natAbs:Nat):Int) (inL (w.getD k 0):Int) (inR (w.getD k 0):Int) (ouR (w.getD k 0):Int) (ouL (w.getD k 0):Int)=
    some (.inl (((k+1:Nat):Int),(stC w (k+1)).ps.foldl setP M0,(w.take (k+1)).map sgv,iL s (stC w (k+1)).fst,iL s (stC w (k+1)).lst)):=by
   unfold F.qgv
   rw [qal (z:=(((w.getD k 0).natAbs:Nat):Int)-1) (by omega) (by omega),bB,qal (z:=4*(k:Int)) (by omega) (by omega),bB,qal (z:=4*(k:Int)+(inL (w.getD k 0):Int)) (by omega) (by omega),bB,bB,qal (z:=4*(k:Int)+(ouL (w.getD k 0):Int)) (by omega) (by omega),bB,
    show (((w.getD k 0).natAbs:Nat):Int)-1=(((w.getD k 0).natAbs-1:Nat):Int) by omega,show 4*(k:Int)+(inL (w.getD k 0):Int)=((4*k+inL (w.getD k 0):Nat):Int) by omega,show 4*(k:Int)+(ouL (w.getD k 0):Int)=((4*k+ouL (w.getD k 0):Nat):Int) by omega,c1,bB,bB,
    qal (z:=4*(k:Int)+(inR (w.getD k 0):Int)) (by omega) (by omega),bB,bB,qal (z:=4*(k:Int)+(ouR (w.getD k 0):Int)) (by omega) (by omega),bB,show 4*(k:Int)+(inR (w.getD k 0):Int)=((4*k+inR (w.getD k 0):Nat):Int) by omega,show 4*(k:Int)+(ouR (w.getD k 0):Int)=((4*k+ouR (w.getD k 0):Nat):Int) by omega]
   dsimp only
   rw [c2,bB,qal (by omega) (by omega),bB,htk]
   rfl
  have hg:F.qhd m (w.getD k 0)=some (((w.getD k 0).natAbs:Nat):Int):=by
   have hsx:=hw _ (List.getElem_mem hk)
   rw [←qbr hk 0] at hsx
   unfold F.qhd
   rw [qal (by omega) (by omega),bB]
   congr 1; omega
  unfold F.qek
  dsimp only
  rw [dT (show (k:Int)<(w.length:Int) by omega),kT,hv,bB]
  by_cases q:w.getD k 0<0
  ·
   have e1:sgv (w.getD k 0)=-1:=by unfold sgv; rw [if_neg (by omega)]
   have e2:inL (w.getD k 0)=0∧inR (w.getD k 0)=1∧ouR (w.getD k 0)=2∧ouL (w.getD k 0)=3:=by
    unfold inL inR ouR ouL
    rw [if_neg (by omega),if_neg (by omega),if_neg (by omega),if_neg (by omega)]; exact ⟨rfl,rfl,rfl,rfl⟩
   have g0:Ev.get ([(0,(1,(2,3))),(3,(0,(1,2)))]:List (Int×(Int×(Int×Int)))) (0:Int)=some (0,(1,(2,3))):=rfl
   rw [e1,e2.1,e2.2.1,e2.2.2.1,e2.2.2.2] at h4
   rw [dT q,kT]
   unfold F.qfv
   rw [lim_ok (by rw [htl]; simp only [List.length_cons,List.length_nil]; omega),bB,qal (by omega) (by omega),bB,nz_ok (by decide),bB,show Int.tdiv (-1+1) 2=0 by decide,qal (by omega) (by omega),bB,g0,bB,hg,bB]
   exact h4
  ·
   have e1:sgv (w.getD k 0)=1:=by unfold sgv; rw [if_pos (by omega)]
   have e2:inL (w.getD k 0)=3∧inR (w.getD k 0)=0∧ouR (w.getD k 0)=1∧ouL (w.getD k 0)=2:=by
    unfold inL inR ouR ouL
    rw [if_pos (by omega),if_pos (by omega),if_pos (by omega),if_pos (by omega)]; exact ⟨rfl,rfl,rfl,rfl⟩
   have g1:Ev.get ([(0,(1,(2,3))),(3,(0,(1,2)))]:List (Int×(Int×(Int×Int)))) (1:Int)=some (3,(0,(1,2))):=rfl
   rw [e1,e2.1,e2.2.1,e2.2.2.1,e2.2.2.2] at h4
   rw [dF q,kF]
   unfold F.qfv
   rw [lim_ok (by rw [htl]; simp only [List.length_cons,List.length_nil]; omega),bB,qal (by omega) (by omega),bB,nz_ok (by decide),bB,show Int.tdiv (1+1) 2=1 by decide,qal (by omega) (by omega),bB,g1,bB,hg,bB]
   exact h4) (by
  unfold F.qek
  dsimp only
  rw [dF (by omega),kF,List.take_length]) m (by omega)
 exact key
omit hl in
theorem close_run {M0:List Int} (hM:M0.length=4*w.length) (m:Nat) (hm:1000<m) (sgs:List Int):
  loopN m (F.qet m (List.replicate s (0:Int)) sgs (iL s (stC w w.length).fst) (iL s (stC w w.length).lst)) (0,(stC w w.length).ps.foldl setP M0,0)=some ((s:Int),((stC w w.length).ps++clz (stC w w.length) s).foldl setP M0,((lpz (stC w w.length) s).length:Int)):=by
 have ok:=stC_ok hw w.length (Nat.le_refl _)
 have key:=qce (body:=F.qet m (List.replicate s (0:Int)) sgs (iL s (stC w w.length).fst) (iL s (stC w w.length).lst)) (fun p=>((p:Int),((stC w w.length).ps++clz (stC w w.length) p).foldl setP M0,((lpz (stC w w.length) p).length:Int))) s (r:=((s:Int),((stC w w.length).ps++clz (stC w w.length) s).foldl setP M0,((lpz (stC w w.length) s).length:Int))) (fun p hp=>by
  have hln:=lpz_len (stC w w.length) p
  have g1:Ev.get (iL s (stC w w.length).lst) (p:Int)=some ((stC w w.length).lst p):=get_at rfl (qdw hp)
  have g2:Ev.get (iL s (stC w w.length).fst) (p:Int)=some ((stC w w.length).fst p):=get_at rfl (qdw hp)
  unfold F.qet
  dsimp only
  rw [List.length_replicate,dT (show (p:Int)<(s:Int) by omega),kT,g1,bB,clz_step,lpz_step]
  by_cases q:(stC w w.length).lst p<0
  ·
   rw [dT q,kT,if_pos q,if_pos q,qal (by omega) (by omega),bB,qal (by omega) (by omega),bB,List.append_nil,List.length_append]
   rfl
  ·
   obtain ⟨a1,a2,a3⟩:=ok.lo p hp
   have f0:0≤(stC w w.length).fst p:=by omega
   have b1:=(ok.l1 p hp (by omega)).1.1
   have b2:=(ok.f1 p hp f0).1.1
   have hl2:(((stC w w.length).ps++clz (stC w w.length) p).foldl setP M0).length=4*w.length:=by rw [fold_len,hM]
   rw [dF q,kF,if_neg q,if_neg q,bB,g2,bB,←List.append_assoc,fold_snoc,List.append_nil]
   generalize ((stC w w.length).ps++clz (stC w w.length) p).foldl setP M0=M at*
   have e1:Ev.get M ((stC w w.length).lst p)=some (M[((stC w w.length).lst p).toNat]'(by omega)):=get_at (k:=((stC w w.length).lst p).toNat) (by omega) (gE (by omega))
   have e2:Ev.get (M.set ((stC w w.length).lst p).toNat ((stC w w.length).fst p)) ((stC w w.length).fst p)=some ((M.set ((stC w w.length).lst p).toNat ((stC w w.length).fst p))[((stC w w.length).fst p).toNat]'(by rw [List.length_set]; omega)):=get_at (k:=((stC w w.length).fst p).toNat) (by omega) (gE (by rw [List.length_set]; omega))
   unfold F.qfn
   rw [e1,bB,e2,bB,bB,qal (by omega) (by omega),bB]
   have t1:(((stC w w.length).lst p).toNat:Int)=(stC w w.length).lst p:=by omega
   have t2:(((stC w w.length).fst p).toNat:Int)=(stC w w.length).fst p:=by omega
   unfold setP
   dsimp only
   rw [t1,t2]
   rfl) (by
  unfold F.qet
  dsimp only
  rw [List.length_replicate,dF (by omega),kF]) m (by omega)
 have e0:clz (stC w w.length) 0=[]:=rfl
 have e1:lpz (stC w w.length) 0=[]:=rfl
 rw [e0,e1,List.append_nil] at key
 exact key
end
theorem closure_run {s:Nat} {w:List Int} (hok:okB (s:Int) w=true) (hs:s≤100) (hl:w.length≤64) (m:Nat) (hm:1000<m):
  F.qgi m s w=some (w.map sgv,((stC w w.length).ps++clz (stC w w.length) s).foldl setP (List.replicate (4*w.length) 0),((lpz (stC w w.length) s).length:Int),0):=by
 obtain ⟨_,_,_,hw⟩:=qcy.1 hok
 unfold F.qgi
 rw [braidValid m (by omega),bB,hok,Bool.not_true,kF,dF (by omega),kF,qal (by omega) (by omega),bB,pos_ok (by omega) (by omega),bB,pos_ok (by omega) (by omega),bB,bB,Int.toNat_natCast]
 unfold F.qhq
 rw [init_run hs m hm,bB]
 dsimp only
 rw [show (4*(w.length:Int)).toNat=4*w.length by omega,letters_run2 hw hs hl (List.length_replicate ..) m hm,bB]
 dsimp only
 rw [close_run hw hs (List.length_replicate ..) m hm,bB]
open Gar Pg
def clP (s:Nat) (w:List Int):List (Nat×Nat):=(stC w w.length).ps++clz (stC w w.length) s
def clM (s:Nat) (w:List Int):List Int:=(clP s w).foldl setP (List.replicate (4*w.length) 0)
def clm (s:Nat) (w:List Int) (h:Nat):Nat:=((clM s w).getD h 0).toNat
def Vv (s:Nat) (w:List Int) (k p:Nat):Nat:=if (stC w k).lst p<0 then ((stC w w.length).fst p).toNat else clm s w ((stC w k).lst p).toNat
theorem mem_clz {S:Cl} {k:Nat} {x:Nat×Nat}:x∈clz S k↔∃p,p<k∧0≤S.lst p∧x=((S.lst p).toNat,(S.fst p).toNat):=by
 unfold clz
 rw [List.mem_filterMap]
 constructor
 ·
  rintro ⟨p,hp,h⟩
  by_cases q:S.lst p<0
  · rw [if_pos q] at h; cases h
  ·
   rw [if_neg q] at h
   exact ⟨p,List.mem_range.1 hp,by omega,(Option.some.inj h).symm⟩
 ·
  rintro ⟨p,hp,h,e⟩
  exact ⟨p,List.mem_range.2 hp,by rw [if_neg (by omega),e]⟩
theorem ou_in {w:List Int} {k h:Nat} (h1:OuW w k h) (h2:InW w k h):False:=by
 obtain ⟨_,a⟩:=h1
 obtain ⟨_,b⟩:=h2
 by_cases q:0<w.getD (h/ 4) 0
 · rw [if_pos q] at a b; omega
 · rw [if_neg q] at a b; omega
theorem ou_or_in {w:List Int} {k h:Nat} (hh:h<4*k):OuW w k h∨InW w k h:=by
 unfold OuW InW
 by_cases q:0<w.getD (h/ 4) 0
 · rw [if_pos q,if_pos q]; omega
 · rw [if_neg q,if_neg q]; omega
section
variable {s : Nat} {w : List Int} (hw : ∀ x ∈ w, x ≠ 0 ∧ -(s : Int) < x ∧ x < s)
include hw
theorem clz_nodup1: ∀k,k≤s→((clz (stC w w.length) k).map (·.1)).Nodup∧((clz (stC w w.length) k).map (·.2)).Nodup
 | 0,_=>by simp [clz]
 | k+1,hk=>by
  have ok:=stC_ok hw w.length (Nat.le_refl _)
  obtain ⟨i1,i2⟩:=clz_nodup1 k (by omega)
  rw [clz_step]
  by_cases q:(stC w w.length).lst k<0
  · rw [if_pos q,List.append_nil]; exact ⟨i1,i2⟩
  ·
   rw [if_neg q,List.map_append,List.map_append,List.nodup_append,List.nodup_append]
   obtain ⟨a1,a2,a3⟩:=ok.lo k (by omega)
   refine ⟨⟨i1,by simp,fun a ha b hb e=>?_⟩,⟨i2,by simp,fun a ha b hb e=>?_⟩⟩
   ·
    obtain ⟨x,hx,rfl⟩:=List.mem_map.1 ha
    obtain ⟨p,hp,h0,rfl⟩:=mem_clz.1 hx
    simp only [List.map_cons,List.map_nil,List.mem_singleton] at hb
    have:=ok.l2 p k (by omega) (by omega) h0 (by dsimp only at e; omega)
    omega
   ·
    obtain ⟨x,hx,rfl⟩:=List.mem_map.1 ha
    obtain ⟨p,hp,h0,rfl⟩:=mem_clz.1 hx
    obtain ⟨b1,b2,b3⟩:=ok.lo p (by omega)
    simp only [List.map_cons,List.map_nil,List.mem_singleton] at hb
    have:=ok.f2 p k (by omega) (by omega) (by omega) (by dsimp only at e; omega)
    omega
theorem clP_ok:((clP s w).map (·.1)).Nodup∧((clP s w).map (·.2)).Nodup∧(∀a∈(clP s w).map (·.1),OuW w w.length a)∧(∀a∈(clP s w).map (·.2),InW w w.length a)∧
  (∀h,OuW w w.length h→h∈(clP s w).map (·.1))∧(∀h,InW w w.length h→h∈(clP s w).map (·.2)):=by
 have ok:=stC_ok hw w.length (Nat.le_refl _)
 obtain ⟨c1,c2⟩:=clz_nodup1 hw s (Nat.le_refl _)
 unfold clP
 rw [List.map_append,List.map_append]
 refine ⟨?_,?_,fun a ha=>?_,fun a ha=>?_,fun h hh=>?_,fun h hh=>?_⟩
 ·
  rw [List.nodup_append]
  refine ⟨ok.n1,c1,fun a ha b hb e=>?_⟩
  obtain ⟨x,hx,rfl⟩:=List.mem_map.1 hb
  obtain ⟨p,hp,h0,rfl⟩:=mem_clz.1 hx
  rw [e] at ha
  exact (ok.l1 p hp h0).2 ha
 ·
  rw [List.nodup_append]
  refine ⟨ok.n2,c2,fun a ha b hb e=>?_⟩
  obtain ⟨x,hx,rfl⟩:=List.mem_map.1 hb
  obtain ⟨p,hp,h0,rfl⟩:=mem_clz.1 hx
  obtain ⟨b1,b2,b3⟩:=ok.lo p hp
  rw [e] at ha
  exact (ok.f1 p hp (by omega)).2 ha
 ·
  rcases List.mem_append.1 ha with ha | ha
  · exact ok.o1 a ha
  ·
   obtain ⟨x,hx,rfl⟩:=List.mem_map.1 ha
   obtain ⟨p,hp,h0,rfl⟩:=mem_clz.1 hx
   exact (ok.l1 p hp h0).1
 ·
  rcases List.mem_append.1 ha with ha | ha
  · exact ok.i1 a ha
  ·
   obtain ⟨x,hx,rfl⟩:=List.mem_map.1 ha
   obtain ⟨p,hp,h0,rfl⟩:=mem_clz.1 hx
   obtain ⟨b1,b2,b3⟩:=ok.lo p hp
   exact (ok.f1 p hp (by omega)).1
 ·
  rw [List.mem_append]
  rcases ok.ao h hh with m | ⟨p,hp,e⟩
  · exact .inl m
  · exact .inr (List.mem_map.2 ⟨_,mem_clz.2 ⟨p,hp,by omega,rfl⟩,by dsimp only; omega⟩)
 ·
  rw [List.mem_append]
  rcases ok.ai h hh with m | ⟨p,hp,e⟩
  · exact .inl m
  ·
   obtain ⟨b1,b2,b3⟩:=ok.lo p hp
   exact .inr (List.mem_map.2 ⟨_,mem_clz.2 ⟨p,hp,by omega,rfl⟩,by dsimp only; omega⟩)
omit hw in
theorem clM_len:(clM s w).length=4*w.length:=by
 unfold clM
 rw [fold_len]; exact List.length_replicate ..
theorem clm_pair {a b:Nat} (h:(a,b)∈clP s w):(clM s w)[a]? =some (b:Int)∧(clM s w)[b]? =some (a:Int)∧clm s w a=b∧clm s w b=a∧a<4*w.length∧b<4*w.length∧a≠b:=by
 obtain ⟨p1,p2,p3,p4,_,_⟩:=clP_ok hw
 have ha:=p3 a (List.mem_map.2 ⟨_,h,rfl⟩)
 have hb:=p4 b (List.mem_map.2 ⟨_,h,rfl⟩)
 have hp:=fold_pair (M:=List.replicate (4*w.length) 0) p1 p2 (fun x hx hx'=>ou_in (p3 x hx) (p4 x hx')) h (by rw [List.length_replicate]; exact ha.1) (by rw [List.length_replicate]; exact hb.1)
 have e1:(clM s w)[a]? =some (b:Int):=hp.1
 have e2:(clM s w)[b]? =some (a:Int):=hp.2
 refine ⟨e1,e2,?_,?_,ha.1,hb.1,fun e=>by rw [e] at ha; exact ou_in ha hb⟩
 · unfold clm; rw [List.getD_eq_getElem?_getD,e1]; rfl
 · unfold clm; rw [List.getD_eq_getElem?_getD,e2]; rfl
theorem qcp:MT (4*w.length) (clM s w) (clm s w):=by
 obtain ⟨_,_,_,_,p5,p6⟩:=clP_ok hw
 refine ⟨clM_len,fun h hh=>?_⟩
 rcases ou_or_in (w:=w) hh with q | q
 ·
  obtain ⟨⟨a,b⟩,hm,rfl⟩:=List.mem_map.1 (p5 h q)
  obtain ⟨e1,e2,e3,e4,e5,e6,e7⟩:=clm_pair hw hm
  dsimp only
  rw [e3]
  exact ⟨e1,e6,e4,e7.symm⟩
 ·
  obtain ⟨⟨a,b⟩,hm,rfl⟩:=List.mem_map.1 (p6 h q)
  obtain ⟨e1,e2,e3,e4,e5,e6,e7⟩:=clm_pair hw hm
  dsimp only
  rw [e4]
  exact ⟨e2,e5,e3,e7⟩
omit hw in
theorem ps_mono {j:Nat}: ∀{k:Nat},j≤k→∀a∈(stC w j).ps,a∈(stC w k).ps
 | 0,h,a,ha=>by
  have:j=0:=by omega
  rw [this] at ha; exact ha
 | k+1,h,a,ha=>by
  rcases Nat.lt_or_ge j (k+1) with q | q
  · exact Cl.pass_ps _ _ _ _ _ (Cl.pass_ps _ _ _ _ _ (ps_mono (by omega) a ha))
  ·
   have:j=k+1:=by omega
   rw [this] at ha; exact ha
theorem fst_mono {j q:Nat} (hq:q<s) (h0:0≤(stC w j).fst q): ∀{k:Nat},j≤k→k≤w.length→(stC w k).fst q=(stC w j).fst q
 | 0,h,_=>by
  have:j=0:=by omega
  rw [this]
 | k+1,h,hk=>by
  rcases Nat.lt_or_ge j (k+1) with r | r
  ·
   have ih:=fst_mono hq h0 (k:=k) (by omega) (by omega)
   have ok:=stC_ok hw k (by omega)
   obtain ⟨v0,v1,v2⟩:=qck hw (show k<w.length by omega)
   have hf:0≤(stC w k).fst q:=by rw [ih]; exact h0
   have a1:=Cl.pass_fst (stC w k) ((w.getD k 0).natAbs-1) (4*k+inL (w.getD k 0)) (4*k+ouL (w.getD k 0)) q hf (fun h=>(ok.lo _ (by omega)).2.2.1 h)
   have a2:=Cl.pass_fst ((stC w k).pass ((w.getD k 0).natAbs-1) (4*k+inL (w.getD k 0)) (4*k+ouL (w.getD k 0))) (w.getD k 0).natAbs (4*k+inR (w.getD k 0)) (4*k+ouR (w.getD k 0)) q (by rw [a1]; exact hf) (fun h=>by
    rw [Cl.pass_lst,upd_ne _ _ (by omega)] at h
    have h2:=(ok.lo _ v2).2.2.1 h
    unfold Cl.pass
    by_cases hl:(stC w k).lst ((w.getD k 0).natAbs-1)<0
    ·
     rw [if_pos hl]
     dsimp only
     rw [upd_ne _ _ (by omega)]; exact h2
    · rw [if_neg hl]; exact h2)
   show (stp (stC w k) k (w.getD k 0)).fst q=_
   unfold stp
   rw [a2,a1,ih]
  ·
   have:j=k+1:=by omega
   rw [this]
theorem Vv_in {k:Nat} (hk:k<w.length):Vv s w k ((w.getD k 0).natAbs-1)=4*k+inL (w.getD k 0)∧Vv s w k (w.getD k 0).natAbs=4*k+inR (w.getD k 0):=by
 obtain ⟨v0,v1,v2⟩:=qck hw hk
 have ok:=stC_ok hw k (by omega)
 have fin: ∀(p i:Nat),p<s→((stC w k).lst p<0∧(stC w (k+1)).fst p=(i:Int))∨(0≤(stC w k).lst p∧(((stC w k).lst p).toNat,i)∈(stC w (k+1)).ps)→Vv s w k p=i:=by
  intro p i hp h
  unfold Vv
  rcases h with ⟨h1,h2⟩ | ⟨h1,h2⟩
  · rw [if_pos h1,fst_mono hw hp (by rw [h2]; omega) (show k+1≤w.length by omega) (Nat.le_refl _),h2,Int.toNat_natCast]
  ·
   rw [if_neg (by omega)]
   exact (clm_pair hw (List.mem_append_left _ (ps_mono (by omega) _ h2))).2.2.1
 constructor
 ·
  refine fin _ _ (by omega) ?_
  rcases Cl.pass_in (stC w k) ((w.getD k 0).natAbs-1) (4*k+inL (w.getD k 0)) (4*k+ouL (w.getD k 0)) (ok.lo _ (by omega)).1 with ⟨h1,h2⟩ | ⟨h1,h2⟩
  ·
   refine .inl ⟨h1,?_⟩
   show (stp (stC w k) k (w.getD k 0)).fst _=_
   unfold stp
   unfold Cl.pass at h2⊢
   rw [if_pos h1] at h2⊢
   dsimp only at h2⊢
   by_cases hl:upd (stC w k).lst ((w.getD k 0).natAbs-1) ((4*k+ouL (w.getD k 0):Nat):Int) (w.getD k 0).natAbs<0
   ·
    rw [if_pos hl]
    dsimp only
    rw [upd_ne _ _ (by omega)]; exact h2
   · rw [if_neg hl]; exact h2
  · exact .inr ⟨h1,Cl.pass_ps _ _ _ _ _ h2⟩
 ·
  refine fin _ _ v2 ?_
  have hl:((stC w k).pass ((w.getD k 0).natAbs-1) (4*k+inL (w.getD k 0)) (4*k+ouL (w.getD k 0))).lst (w.getD k 0).natAbs=(stC w k).lst (w.getD k 0).natAbs:=by
   rw [Cl.pass_lst,upd_ne _ _ (by omega)]
  have:=Cl.pass_in ((stC w k).pass ((w.getD k 0).natAbs-1) (4*k+inL (w.getD k 0)) (4*k+ouL (w.getD k 0))) (w.getD k 0).natAbs (4*k+inR (w.getD k 0)) (4*k+ouR (w.getD k 0)) (by rw [hl]; exact (ok.lo _ v2).1)
  rw [hl] at this
  exact this
omit hw in
theorem lst_step {k:Nat} (q:Nat):(stC w (k+1)).lst q=upd (upd (stC w k).lst ((w.getD k 0).natAbs-1) ((4*k+ouL (w.getD k 0):Nat):Int)) (w.getD k 0).natAbs ((4*k+ouR (w.getD k 0):Nat):Int) q:=by
 show (stp (stC w k) k (w.getD k 0)).lst q=_
 unfold stp
 rw [Cl.pass_lst]
 unfold upd
 by_cases e:q=(w.getD k 0).natAbs
 · rw [if_pos e,if_pos e]
 · rw [if_neg e,if_neg e,Cl.pass_lst]; rfl
theorem Vv_out {k:Nat} (hk:k<w.length):Vv s w (k+1) ((w.getD k 0).natAbs-1)=clm s w (4*k+ouL (w.getD k 0))∧Vv s w (k+1) (w.getD k 0).natAbs=clm s w (4*k+ouR (w.getD k 0)):=by
 obtain ⟨v0,v1,v2⟩:=qck hw hk
 constructor
 ·
  unfold Vv
  rw [lst_step,upd_ne _ _ (by omega),qca,if_neg (by omega),Int.toNat_natCast]
 ·
  unfold Vv
  rw [lst_step,qca,if_neg (by omega),Int.toNat_natCast]
omit hw in
theorem Vv_keep {k p:Nat} (h1:p≠(w.getD k 0).natAbs-1) (h2:p≠(w.getD k 0).natAbs):Vv s w (k+1) p=Vv s w k p:=by
 unfold Vv
 rw [lst_step,upd_ne _ _ h2,upd_ne _ _ h1]
theorem Vv_end {p:Nat} (hp:p<s):Vv s w w.length p=Vv s w 0 p:=by
 have e0:Vv s w 0 p=((stC w w.length).fst p).toNat:=if_pos (by unfold stC; show (-1:Int)<0; decide)
 rw [e0]
 unfold Vv
 by_cases q:(stC w w.length).lst p<0
 · rw [if_pos q]
 ·
  rw [if_neg q]
  exact (clm_pair hw (List.mem_append_right _ (mem_clz.2 ⟨p,hp,by omega,rfl⟩))).2.2.1
end
open Gar Pg
theorem qcu {w:List Int} {h:Nat} (hh:h<4*w.length):Outg (w.map sgv) h↔OuW w w.length h:=by
 have e:(w.map sgv).getD (h/ 4) 0=sgv (w.getD (h/ 4) 0):=by
  have hl:h/ 4<w.length:=by omega
  rw [qbr (by rw [List.length_map]; exact hl),List.getElem_map,qbr hl]
 unfold Outg OuW
 rw [e]
 unfold sgv
 by_cases q:0<w.getD (h/ 4) 0
 · rw [if_pos q,if_pos q]; omega
 · rw [if_neg q,if_neg q]; omega
def Tch (w:List Int) (k p:Nat):Prop:=p=(w.getD k 0).natAbs-1∨p=(w.getD k 0).natAbs
section
variable {s : Nat} {w : List Int}
theorem lst_of {p:Nat}: ∀{k:Nat},0≤(stC w k).lst p→∃j,j<k∧Tch w j p
 | 0,h=>by unfold stC at h; exact absurd h (show¬(0:Int)≤-1 by decide)
 | k+1,h=>by
  by_cases q:Tch w k p
  · exact ⟨k,by omega,q⟩
  ·
   unfold Tch at q
   rw [lst_step,upd_ne _ _ (fun e=>q (.inr e)),upd_ne _ _ (fun e=>q (.inl e))] at h
   obtain ⟨j,h1,h2⟩:=lst_of h
   exact ⟨j,by omega,h2⟩
theorem qdk {p j:Nat} (hj:Tch w j p): ∀{k:Nat},j<k→0≤(stC w k).lst p
 | k+1,h=>by
  rw [lst_step]
  by_cases e2:p=(w.getD k 0).natAbs
  · rw [e2,qca]; omega
  ·
   rw [upd_ne _ _ e2]
   by_cases e1:p=(w.getD k 0).natAbs-1
   · rw [e1,qca]; omega
   ·
    rw [upd_ne _ _ e1]
    rcases Nat.lt_succ_iff_lt_or_eq.1 h with h1 | h1
    · exact qdk hj h1
    · subst h1; exact (hj.elim e1 e2).elim
variable (hw : ∀ x ∈ w, x ≠ 0 ∧ -(s : Int) < x ∧ x < s)
include hw
theorem lev_gen {α:Type} (G:Nat→α) (Y:Nat→Nat→α) (hE: ∀p,p<s→Y w.length p=Y 0 p)
  (hI: ∀k,k<w.length→G (4*k+inL (w.getD k 0))=Y k ((w.getD k 0).natAbs-1)∧G (4*k+inR (w.getD k 0))=Y k (w.getD k 0).natAbs)
  (hK: ∀k p,k<w.length→p<s→¬Tch w k p→Y (k+1) p=Y k p) {p:Nat} (hp:p<s) (hl:0≤(stC w w.length).lst p) {k:Nat} (hk:k≤w.length):G (Vv s w k p)=Y k p:=by
 have one: ∀k,k<w.length→Tch w k p→G (Vv s w k p)=Y k p:=fun k hk ht=>by
  obtain ⟨v1,v2⟩:=Vv_in hw hk
  rcases ht with e | e
  · rw [e,v1]; exact (hI k hk).1
  · rw [e,v2]; exact (hI k hk).2
 have down: ∀d k,k+d≤w.length→G (Vv s w (k+d) p)=Y (k+d) p→G (Vv s w k p)=Y k p:=by
  intro d
  induction d with
  | zero=>intro k _ h; exact h
  | succ d ih=>
   intro k hkd h
   by_cases ht:Tch w k p
   · exact one k (by omega) ht
   ·
    have:=ih (k+1) (by omega) (by rw [show k+1+d=k+(d+1) by omega]; exact h)
    rwa [Vv_keep (fun e=>ht (.inl e)) (fun e=>ht (.inr e)),hK k p (by omega) hp ht] at this
 obtain ⟨j,hj,ht⟩:=lst_of hl
 have h0:G (Vv s w 0 p)=Y 0 p:=down j 0 (by omega) (by rw [Nat.zero_add]; exact one j hj ht)
 have hm:G (Vv s w w.length p)=Y w.length p:=by rw [Vv_end hw hp,hE p hp]; exact h0
 exact down (w.length-k) k (by omega) (by rw [show k+(w.length-k)=w.length by omega]; exact hm)
theorem clm_out: ∀h,h<4*w.length→(Outg (w.map sgv) (clm s w h)↔¬Outg (w.map sgv) h):=fun h hh=>by
 have M':=qcp hw
 have h2:=(M'.2 h hh).2.1
 rw [qcu hh,qcu h2]
 obtain ⟨_,_,p3,p4,p5,p6⟩:=clP_ok hw
 rcases ou_or_in (w:=w) hh with q | q
 ·
  obtain ⟨⟨a,b⟩,hmem,rfl⟩:=List.mem_map.1 (p5 h q)
  obtain ⟨_,_,e3,_⟩:=clm_pair hw hmem
  have hb:=p4 b (List.mem_map.2 ⟨_,hmem,rfl⟩)
  dsimp only at q⊢
  rw [e3]
  exact ⟨fun k=>absurd hb (fun hb=>ou_in k hb),fun k=>absurd q k⟩
 ·
  obtain ⟨⟨a,b⟩,hmem,rfl⟩:=List.mem_map.1 (p6 h q)
  obtain ⟨_,_,_,e4,_⟩:=clm_pair hw hmem
  have ha:=p3 a (List.mem_map.2 ⟨_,hmem,rfl⟩)
  dsimp only at q⊢
  rw [e4]
  exact ⟨fun _ k=>ou_in k q,fun _=>ha⟩
omit hw in
theorem four (h:Nat) (hh:h<4*w.length): ∃k,k<w.length∧(h=4*k+inL (w.getD k 0)∨h=4*k+inR (w.getD k 0)∨h=4*k+ouL (w.getD k 0)∨h=4*k+ouR (w.getD k 0)):=by
 refine ⟨h/ 4,by omega,?_⟩
 unfold inL inR ouL ouR
 by_cases q:0<w.getD (h/ 4) 0
 · rw [if_pos q,if_pos q,if_pos q,if_pos q]; omega
 · rw [if_neg q,if_neg q,if_neg q,if_neg q]; omega
end
def xsm (b:Nat→Bool):Nat→Bool
 | 0=>false
 | j+1=>xsm b j^^b j
theorem xsm_two {b b':Nat→Bool} {i:Nat} (hi:1≤i) (hk: ∀p,p≠i-1→p≠i→b' p=b p) (he:(b' (i-1)^^b' i)=(b (i-1)^^b i)): ∀j,j≠i→xsm b' j=xsm b j:=by
 have low: ∀j,j≤i-1→xsm b' j=xsm b j:=by
  intro j
  induction j with
  | zero=>intro _; rfl
  | succ j ih=>intro h; unfold xsm; rw [ih (by omega),hk j (by omega) (by omega)]
 have mid:xsm b' (i+1)=xsm b (i+1):=by
  obtain ⟨j,rfl⟩: ∃j,i=j+1:=⟨i-1,by omega⟩
  rw [show xsm b' (j+1+1)=((xsm b' j^^b' j)^^b' (j+1)) from rfl,show xsm b (j+1+1)=((xsm b j^^b j)^^b (j+1)) from rfl,low j (by omega),Bool.xor_assoc,Bool.xor_assoc]
  rw [Nat.add_sub_cancel] at he
  rw [he]
 intro j hj
 by_cases h:j≤i-1
 · exact low j h
 ·
  have: ∀d,xsm b' (i+1+d)=xsm b (i+1+d):=by
   intro d
   induction d with
   | zero=>exact mid
   | succ d ih=>
    rw [show i+1+(d+1)=(i+1+d)+1 by omega]
    unfold xsm
    rw [ih,hk _ (by omega) (by omega)]
  have:=this (j-(i+1))
  rwa [show i+1+(j-(i+1))=j by omega] at this
def kap (X:Nat→Nat→Bool) (w:List Int) (x:Nat):Bool:=
 let v:=w.getD (x/ 4) 0
 if x%4=inL v then X (x/ 4) v.natAbs else if x%4=inR v then X (x/ 4) (v.natAbs+1) else if x%4=ouR v then X (x/ 4+1) v.natAbs else X (x/ 4) (v.natAbs-1)
theorem kap_at (X:Nat→Nat→Bool) (w:List Int) (k:Nat):kap X w (4*k+inL (w.getD k 0))=X k (w.getD k 0).natAbs∧kap X w (4*k+inR (w.getD k 0))=X k ((w.getD k 0).natAbs+1)∧kap X w (4*k+ouR (w.getD k 0))=X (k+1) (w.getD k 0).natAbs∧kap X w (4*k+ouL (w.getD k 0))=X k ((w.getD k 0).natAbs-1):=by
 have key: ∀r,r<4→(4*k+r)/ 4=k∧(4*k+r)%4=r:=fun r hr=>by omega
 have h4:inL (w.getD k 0)<4∧inR (w.getD k 0)<4∧ouR (w.getD k 0)<4∧ouL (w.getD k 0)<4:=by
  unfold inL inR ouL ouR; repeat' split
  all_goals decide
 have hd:inR (w.getD k 0)≠inL (w.getD k 0)∧ouR (w.getD k 0)≠inL (w.getD k 0)∧ouR (w.getD k 0)≠inR (w.getD k 0)∧ouL (w.getD k 0)≠inL (w.getD k 0)∧ouL (w.getD k 0)≠inR (w.getD k 0)∧ouL (w.getD k 0)≠ouR (w.getD k 0):=by
  unfold inL inR ouL ouR
  by_cases q:0<w.getD k 0
  · simp only [if_pos q]; decide
  · simp only [if_neg q]; decide
 obtain ⟨d1,d2,d3,d4,d5,d6⟩:=hd
 refine ⟨?_,?_,?_,?_⟩
 · unfold kap; rw [(key _ h4.1).1,(key _ h4.1).2,if_pos rfl]
 · unfold kap; rw [(key _ h4.2.1).1,(key _ h4.2.1).2,if_neg d1,if_pos rfl]
 · unfold kap; rw [(key _ h4.2.2.1).1,(key _ h4.2.2.1).2,if_neg d2,if_neg d3,if_pos rfl]
 · unfold kap; rw [(key _ h4.2.2.2).1,(key _ h4.2.2.2).2,if_neg d4,if_neg d5,if_neg d6]
theorem turn_at (k:Nat) (v:Int):turnN (4*k+inL v) 3=4*k+ouL v∧turnN (4*k+inR v) 3=4*k+inL v∧turnN (4*k+ouR v) 3=4*k+inR v∧turnN (4*k+ouL v) 3=4*k+ouR v:=by
 unfold turnN inL inR ouL ouR
 by_cases q:0<v
 · rw [if_pos q,if_pos q,if_pos q,if_pos q]; omega
 · rw [if_neg q,if_neg q,if_neg q,if_neg q]; omega
section
variable {s : Nat} {w : List Int} (hw : ∀ x ∈ w, x ≠ 0 ∧ -(s : Int) < x ∧ x < s)
include hw
theorem clo_parts:Parts w.length (clm s w):=by
 intro S hS hP
 have M':=qcp hw
 have hb: ∀k,k<w.length→S (Vv s w k ((w.getD k 0).natAbs-1))=S (4*k+inL (w.getD k 0))∧S (Vv s w k (w.getD k 0).natAbs)=S (4*k+inR (w.getD k 0))∧S (Vv s w (k+1) ((w.getD k 0).natAbs-1))=S (4*k+ouL (w.getD k 0))∧S (Vv s w (k+1) (w.getD k 0).natAbs)=S (4*k+ouR (w.getD k 0)):=fun k hk=>by
  obtain ⟨v1,v2⟩:=Vv_in hw hk
  obtain ⟨u1,u2⟩:=Vv_out hw hk
  have h4:ouR (w.getD k 0)<4∧ouL (w.getD k 0)<4:=by
   unfold ouL ouR; repeat' split
   all_goals decide
  exact ⟨by rw [v1],by rw [v2],by rw [u1]; exact hS _ (by omega),by rw [u2]; exact hS _ (by omega)⟩
 have heven: ∀k,k<w.length→(S (Vv s w (k+1) ((w.getD k 0).natAbs-1))^^S (Vv s w (k+1) (w.getD k 0).natAbs))=(S (Vv s w k ((w.getD k 0).natAbs-1))^^S (Vv s w k (w.getD k 0).natAbs)):=fun k hk=>by
  obtain ⟨a,b,c,d⟩:=hb k hk
  rw [a,b,c,d]
  have:=hP k hk
  unfold Pg.par at this
  unfold inL inR ouL ouR
  by_cases q:0<w.getD k 0
  ·
   simp only [if_pos q]
   rw [Nat.add_zero]
   revert this
   cases S (4*k)<;>cases S (4*k+1)<;>cases S (4*k+2)<;>cases S (4*k+3)<;>decide
  ·
   simp only [if_neg q]
   rw [Nat.add_zero]
   revert this
   cases S (4*k)<;>cases S (4*k+1)<;>cases S (4*k+2)<;>cases S (4*k+3)<;>decide
 let X:Nat→Nat→Bool:=fun k j=>xsm (fun p=>S (Vv s w k p)) j
 have hXk: ∀k,k<w.length→∀j,j≠(w.getD k 0).natAbs→X (k+1) j=X k j:=fun k hk=>
  xsm_two (qck hw hk).2.1 (fun p h1 h2=>by rw [Vv_keep h1 h2]) (heven k hk)
 have hXe: ∀j,j≤s→X w.length j=X 0 j:=by
  intro j
  induction j with
  | zero=>intro _; rfl
  | succ j ih=>
   intro h
   show (X w.length j^^S (Vv s w w.length j))=(X 0 j^^S (Vv s w 0 j))
   rw [ih (by omega),Vv_end hw (by omega)]
 have hX1: ∀k j,X k (j+1)=(X k j^^S (Vv s w k j)):=fun k j=>rfl
 have left: ∀{p k:Nat},p<s→0≤(stC w w.length).lst p→k≤w.length→kap X w (turnN (Vv s w k p) 3)=X k p:=fun {p k} hp hl hk=>
  lev_gen hw (fun y=>kap X w (turnN y 3)) X (fun p hp=>hXe p (by omega)) (fun k hk=>by
   obtain ⟨t1,t2,_,_⟩:=turn_at k (w.getD k 0)
   obtain ⟨a1,a2,a3,a4⟩:=kap_at X w k
   exact ⟨by rw [t1,a4],by rw [t2,a1]⟩) (fun k p hk hp ht=>hXk k hk p fun e=>ht (.inr e)) hp hl hk
 have right: ∀{p k:Nat},p<s→0≤(stC w w.length).lst p→k≤w.length→kap X w (Vv s w k p)=X k (p+1):=fun {p k} hp hl hk=>
  lev_gen hw (kap X w) (fun k p=>X k (p+1)) (fun p hp=>hXe (p+1) (by omega)) (fun k hk=>by
   obtain ⟨a1,a2,a3,a4⟩:=kap_at X w k
   have:=(qck hw hk).2.1
   exact ⟨by rw [a1,show (w.getD k 0).natAbs-1+1=(w.getD k 0).natAbs by omega],by rw [a2]⟩) (fun k p hk hp ht=>hXk k hk (p+1) fun e=>ht (.inl (by omega))) hp hl hk
 refine ⟨kap X w,fun x hx=>?_,fun x hx=>?_⟩
 ·
  have out: ∀k,k<w.length→∀y,(y=4*k+ouL (w.getD k 0)∨y=4*k+ouR (w.getD k 0))→kap X w (turnN (clm s w y) 3)=kap X w y∧kap X w (turnN y 3)=kap X w (clm s w y):=by
   intro k hk y hy
   obtain ⟨l0,l1,l2⟩:=qck hw hk
   obtain ⟨u1,u2⟩:=Vv_out hw hk
   obtain ⟨a1,a2,a3,a4⟩:=kap_at X w k
   obtain ⟨_,_,t3,t4⟩:=turn_at k (w.getD k 0)
   have p1:0≤(stC w w.length).lst ((w.getD k 0).natAbs-1):=qdk (.inl rfl) hk
   have p2:0≤(stC w w.length).lst (w.getD k 0).natAbs:=qdk (.inr rfl) hk
   rcases hy with e | e
   ·
    have e1:=left (p:=(w.getD k 0).natAbs-1) (k:=k+1) (by omega) p1 hk
    have e2:=right (p:=(w.getD k 0).natAbs-1) (k:=k+1) (by omega) p1 hk
    rw [u1] at e1 e2
    rw [e]
    refine ⟨by rw [e1,a4]; exact hXk k hk _ (by omega),by rw [e2,t4,a3,show (w.getD k 0).natAbs-1+1=(w.getD k 0).natAbs by omega]⟩
   ·
    have e1:=left (p:=(w.getD k 0).natAbs) (k:=k+1) (by omega) p2 hk
    have e2:=right (p:=(w.getD k 0).natAbs) (k:=k+1) (by omega) p2 hk
    rw [u2] at e1 e2
    rw [e]
    refine ⟨by rw [e1,a3],by rw [e2,t3,a2]; exact (hXk k hk _ (by omega)).symm⟩
  show kap X w (turnN (clm s w x) 3)=kap X w x
  by_cases ho:Outg (w.map sgv) x
  ·
   obtain ⟨k,hk,h⟩:=four x hx
   have hou:=(qcu hx).1 ho
   have hnin: ∀r,x=4*k+r→(r=inL (w.getD k 0)∨r=inR (w.getD k 0))→False:=fun r hr h=>by
    refine ou_in hou ⟨hou.1,?_⟩
    have h4:r<4:=by
     rcases h with h | h<;>rw [h]<;>(first | unfold inL | unfold inR)<;>split<;>decide
    rw [show x/ 4=k by omega,show x%4=r by omega]
    unfold inL inR at h
    by_cases q:0<w.getD k 0
    · rw [if_pos q] at h⊢; rw [if_pos q] at h; omega
    · rw [if_neg q] at h⊢; rw [if_neg q] at h; omega
   rcases h with h | h | h | h
   · exact (hnin _ h (.inl rfl)).elim
   · exact (hnin _ h (.inr rfl)).elim
   · exact (out k hk x (.inl h)).1
   · exact (out k hk x (.inr h)).1
  ·
   obtain ⟨_,y1,y2,_⟩:=M'.2 x hx
   have hoy:=(clm_out hw x hx).2 ho
   obtain ⟨k,hk,h⟩:=four _ y1
   have hou:=(qcu y1).1 hoy
   have hnin: ∀r,clm s w x=4*k+r→(r=inL (w.getD k 0)∨r=inR (w.getD k 0))→False:=fun r hr h=>by
    refine ou_in hou ⟨hou.1,?_⟩
    have h4:r<4:=by
     rcases h with h | h<;>rw [h]<;>(first | unfold inL | unfold inR)<;>split<;>decide
    rw [show clm s w x/ 4=k by omega,show clm s w x%4=r by omega]
    unfold inL inR at h
    by_cases q:0<w.getD k 0
    · rw [if_pos q] at h⊢; rw [if_pos q] at h; omega
    · rw [if_neg q] at h⊢; rw [if_neg q] at h; omega
   rcases h with h | h | h | h
   · exact (hnin _ h (.inl rfl)).elim
   · exact (hnin _ h (.inr rfl)).elim
   · have:=(out k hk _ (.inl h)).2; rwa [y2] at this
   · have:=(out k hk _ (.inr h)).2; rwa [y2] at this
 ·
  obtain ⟨k,hk,h⟩:=four x hx
  obtain ⟨l0,l1,l2⟩:=qck hw hk
  obtain ⟨b1,b2,b3,b4⟩:=hb k hk
  obtain ⟨a1,a2,a3,a4⟩:=kap_at X w k
  obtain ⟨t1,t2,t3,t4⟩:=turn_at k (w.getD k 0)
  have bx: ∀a b:Bool,((a^^b)^^a)=b:=by decide
  have by_: ∀a b:Bool,(a^^(a^^b))=b:=by decide
  have eL: ∀k',X k' (w.getD k 0).natAbs=(X k' ((w.getD k 0).natAbs-1)^^S (Vv s w k' ((w.getD k 0).natAbs-1))):=fun k'=>by
   have:=hX1 k' ((w.getD k 0).natAbs-1)
   rwa [show (w.getD k 0).natAbs-1+1=(w.getD k 0).natAbs by omega] at this
  rcases h with h | h | h | h
  · rw [h,t1,a1,a4,eL,bx,b1]
  · rw [h,t2,a2,a1,hX1,bx,b2]
  · rw [h,t4,a4,a3,←hXk k hk _ (by omega),eL,by_,b3]
  · rw [h,t3,a3,a2,←hXk k hk ((w.getD k 0).natAbs+1) (by omega),hX1,by_,b4]
theorem clo_dv (hL:w.length≤64) {lo:Int} (l0:0≤lo) (l1:lo≤64):DV (w.map sgv) (clM s w) lo (clm s w):=by
 have hln:(w.map sgv).length=w.length:=List.length_map ..
 have M':=qcp hw
 refine ⟨by rw [hln]; exact hL,l0,l1,fun x hx=>?_,by rw [hln]; exact M',fun h hh=>?_,by rw [hln]; exact planar M' (clo_parts hw)⟩
 ·
  obtain ⟨v,_,rfl⟩:=List.mem_map.1 hx
  unfold sgv
  split<;>simp
 ·
  rw [hln] at hh
  exact clm_out hw h hh
end
end Gl
end Go.Proofs.Ytkjpldmelafooaa

set_option linter.all false
namespace Go.Proofs.Ytkjpldmelafooaa
open Ev
namespace Pg
noncomputable def rpx (N:Nat) (f:Nat→Nat) (h:Nat):Nat:=rp (adj:=adjI N f) qfb h
open Classical in
noncomputable def jx (N:Nat) (f:Nat→Nat) (h:Nat):Nat:=if hex: ∃k,it f k (rpx N f h)=h then Classical.choose (least_of (p:=fun k=>it f k (rpx N f h)=h) hex.choose_spec) else 0
noncomputable def key (N:Nat) (f:Nat→Nat) (h:Nat):Nat:=rpx N f h*N+jx N f h
theorem lex_lt {N r j r' j':Nat} (hj:j<N) (hj':j'<N):r*N+j<r'*N+j'↔r<r'∨(r=r'∧j<j'):=by
 rcases Nat.lt_trichotomy r r' with h | h | h
 ·
  have:=Nat.mul_le_mul_right N (show r+1≤r' from h)
  rw [Nat.succ_mul] at this
  omega
 · subst h; omega
 ·
  have:=Nat.mul_le_mul_right N (show r'+1≤r from h)
  rw [Nat.succ_mul] at this
  omega
section
variable {N : Nat} {f : Nat → Nat} (P : PI N f)
include P
omit P in
theorem qfx {h:Nat} (hh:h<N):rpx N f h<N∧Cn (adjI N f) (rpx N f h) h∧Rep (adjI N f) (rpx N f h):=by
 have:=rp_spec (adj:=adjI N f) qfb h
 exact ⟨Nat.lt_of_le_of_lt this.1 hh,this.2⟩
theorem jx_spec {h:Nat} (hh:h<N):it f (jx N f h) (rpx N f h)=h∧(∀j,j<jx N f h→it f j (rpx N f h)≠h)∧jx N f h<N:=by
 obtain ⟨r1,r2,r3⟩:=qfx hh
 obtain ⟨i,i1,i2⟩:=(per_all P r1 h).2 r2
 have hex: ∃k,it f k (rpx N f h)=h:=⟨i,i2⟩
 have hs:=Classical.choose_spec (least_of (p:=fun k=>it f k (rpx N f h)=h) hex.choose_spec)
 have e:jx N f h=Classical.choose (least_of (p:=fun k=>it f k (rpx N f h)=h) hex.choose_spec):=by unfold jx; rw [dif_pos hex]
 rw [←e] at hs
 refine ⟨hs.1,fun j hj=>hs.2.2 j hj,?_⟩
 have h1:jx N f h≤i:=by
  rcases Nat.lt_or_ge i (jx N f h) with q | q
  · exact absurd i2 (hs.2.2 i q)
  · exact q
 have:=per_le P r1
 omega
omit P in
theorem rpx_eq {h r:Nat} (hh:h<N) (hr:Rep (adjI N f) r) (hc:Cn (adjI N f) r h):rpx N f h=r:=
 rep_eq qfb (qfx (f:=f) hh).2.2 hr ((qfx (f:=f) hh).2.1.trans (hc.symm qfb))
theorem jx_eq {h k:Nat} (hh:h<N) (h1:it f k (rpx N f h)=h) (h2: ∀j,j<k→it f j (rpx N f h)≠h):jx N f h=k:=by
 obtain ⟨a,b,_⟩:=jx_spec P hh
 rcases Nat.lt_trichotomy (jx N f h) k with q | q | q
 · exact absurd a (h2 _ q)
 · exact q
 · exact absurd h1 (b _ q)
theorem key_lt {a b:Nat} (ha:a<N) (hb:b<N):key N f a<key N f b↔rpx N f a<rpx N f b∨(rpx N f a=rpx N f b∧jx N f a<jx N f b):=
 lex_lt (jx_spec P ha).2.2 (jx_spec P hb).2.2
theorem key_inj {a b:Nat} (ha:a<N) (hb:b<N) (h:key N f a=key N f b):a=b:=by
 have h1:=mt (key_lt P ha hb).2 (by omega)
 have h2:=mt (key_lt P hb ha).2 (by omega)
 have e1:rpx N f a=rpx N f b:=by omega
 have e2:jx N f a=jx N f b:=by omega
 rw [←(jx_spec P ha).1,←(jx_spec P hb).1,e1,e2]
theorem rpx_next {h:Nat} (hh:h<N):rpx N f (f h)=rpx N f h:=by
 have hf:f h<N:=P.lt h hh
 exact rpx_eq hf (qfx (f:=f) hh).2.2 ((qfx (f:=f) hh).2.1.trans (Cn.one ⟨hh,hf,.inl rfl⟩))
theorem key_next {h:Nat} (hh:h<N) (hr: ¬Rep (adjI N f) (f h)):key N f (f h)=key N f h+1:=by
 have hf:f h<N:=P.lt h hh
 obtain ⟨a,b,_⟩:=jx_spec P hh
 have e:=rpx_next P hh
 have:jx N f (f h)=jx N f h+1:=by
  refine jx_eq P hf (by rw [e]; show f (it f (jx N f h) (rpx N f h))=f h; rw [a]) (fun j hj q=>?_)
  rw [e] at q
  cases j with
  | zero=>exact hr (by rw [←q]; exact (qfx (f:=f) hh).2.2)
  | succ j=>
   have q':it f j (rpx N f h)=h:=P.inj _ _ (P.it (qfx (f:=f) hh).1 j) hh q
   exact b j (by omega) q'
 unfold key
 rw [e,this]
 omega
theorem key_rep {h:Nat} (hh:h<N) (hr:Rep (adjI N f) h):rpx N f h=h∧jx N f h=0:=by
 have e:=rpx_eq hh hr (.refl h)
 exact ⟨e,jx_eq P hh (by rw [e]; rfl) (fun j hj=>by omega)⟩
theorem key_back {h:Nat} (hh:h<N) (hr:Rep (adjI N f) (f h)):key N f (f h)≤key N f h:=by
 have hf:f h<N:=P.lt h hh
 have e:=rpx_next P hh
 unfold key
 rw [e,(key_rep P hf hr).2]
 omega
end
end Pg
end Go.Proofs.Ytkjpldmelafooaa

set_option linter.all false
namespace Go.Proofs.Ytkjpldmelafooaa
open Ev
namespace Gl
open Gar Pg
def sw1 (w:List Int) (c:Nat):List Int:=w.set c (-(w.getD c 0))
def phi (w:List Int) (c h:Nat):Nat:=if h/ 4=c then (if 0<w.getD c 0 then turnN h 1 else turnN h 3) else h
section
variable {s : Nat} {w : List Int}
theorem qcf (c:Nat):(sw1 w c).length=w.length:=List.length_set ..
theorem sw1_at {c:Nat} (hc:c<w.length) (k:Nat):(sw1 w c).getD k 0=if k=c then -(w.getD c 0) else w.getD k 0:=by
 unfold sw1
 rw [List.getD_eq_getElem?_getD,List.getElem?_set]
 by_cases e:c=k
 · rw [if_pos e,if_pos e.symm,if_pos hc]; rfl
 · rw [if_neg e,if_neg fun q=>e q.symm,←List.getD_eq_getElem?_getD]
theorem sw1_abs {c:Nat} (hc:c<w.length) (k:Nat):((sw1 w c).getD k 0).natAbs=(w.getD k 0).natAbs:=by
 rw [sw1_at hc]
 by_cases e:k=c
 · rw [if_pos e,Int.natAbs_neg,e]
 · rw [if_neg e]
theorem sw1_rg {c:Nat} (hw: ∀x∈w,x≠0∧-(s:Int)<x∧x<s) (hc:c<w.length): ∀x∈sw1 w c,x≠0∧-(s:Int)<x∧x<s:=fun x hx=>by
 rcases List.mem_or_eq_of_mem_set hx with h | h
 · exact hw x h
 ·
  have:=hw _ (List.getElem_mem hc)
  rw [h,qbr hc]; omega
theorem sw1_sw1 {c:Nat} (hc:c<w.length):sw1 (sw1 w c) c=w:=by
 have e:(sw1 w c).getD c 0=-(w.getD c 0):=by rw [sw1_at hc,if_pos rfl]
 show (sw1 w c).set c (-((sw1 w c).getD c 0))=w
 rw [e,Int.neg_neg]
 unfold sw1
 rw [List.set_set,qbr hc,List.set_getElem_self]
theorem phi_lt {c h:Nat} (hh:h<4*w.length):phi w c h<4*w.length:=by
 unfold phi turnN
 split
 · split<;>omega
 · exact hh
theorem phi_phi {c:Nat} (hc:c<w.length) (h0:w.getD c 0≠0) (h:Nat):phi (sw1 w c) c (phi w c h)=h:=by
 have e:(sw1 w c).getD c 0=-(w.getD c 0):=by rw [sw1_at hc,if_pos rfl]
 unfold phi
 rw [e]
 by_cases q:h/ 4=c
 ·
  rw [if_pos q]
  by_cases v:0<w.getD c 0
  ·
   rw [if_pos v,if_neg (show¬0< -(w.getD c 0) by omega)]
   unfold turnN
   rw [if_pos (by omega)]; omega
  ·
   rw [if_neg v,if_pos (show 0< -(w.getD c 0) by omega)]
   unfold turnN
   rw [if_pos (by omega)]; omega
 · rw [if_neg q,if_neg q]
theorem phi_inj {c:Nat} (hc:c<w.length) (h0:w.getD c 0≠0) {a b:Nat} (h:phi w c a=phi w c b):a=b:=by
 rw [←phi_phi hc h0 a,h,phi_phi hc h0]
theorem phi_turn {c:Nat} (h:Nat):phi w c (turnN h 2)=turnN (phi w c h) 2:=by
 unfold phi turnN
 rw [show (4*(h/ 4)+(h%4+2)%4)/ 4=h/ 4 by omega]
 split
 · split<;>omega
 · rfl
theorem io_lt (v:Int):inL v<4∧inR v<4∧ouL v<4∧ouR v<4:=by
 unfold inL inR ouL ouR; repeat' split
 all_goals decide
theorem phi_at {c:Nat} (hc:c<w.length) (h0:w.getD c 0≠0) (k:Nat):phi w c (4*k+inL (w.getD k 0))=4*k+inL ((sw1 w c).getD k 0)∧phi w c (4*k+inR (w.getD k 0))=4*k+inR ((sw1 w c).getD k 0)∧
  phi w c (4*k+ouL (w.getD k 0))=4*k+ouL ((sw1 w c).getD k 0)∧phi w c (4*k+ouR (w.getD k 0))=4*k+ouR ((sw1 w c).getD k 0):=by
 rw [sw1_at hc]
 by_cases e:k=c
 ·
  subst e
  rw [if_pos rfl]
  unfold phi inL inR ouL ouR turnN
  by_cases q:0<w.getD k 0
  ·
   simp only [if_pos q,if_neg (show¬0< -(w.getD k 0) by omega)]
   refine ⟨?_,?_,?_,?_⟩<;>rw [if_pos (by omega)]<;>omega
  ·
   simp only [if_neg q,if_pos (show 0< -(w.getD k 0) by omega)]
   refine ⟨?_,?_,?_,?_⟩<;>rw [if_pos (by omega)]<;>omega
 ·
  rw [if_neg e]
  obtain ⟨a1,a2,a3,a4⟩:=io_lt (w.getD k 0)
  unfold phi
  refine ⟨if_neg ?_,if_neg ?_,if_neg ?_,if_neg ?_⟩<;>omega
theorem tch_sw {c:Nat} (hc:c<w.length) (k p:Nat):Tch (sw1 w c) k p↔Tch w k p:=by
 unfold Tch; rw [sw1_abs hc]
theorem lst_sw {c:Nat} (hc:c<w.length) {p:Nat} (h:0≤(stC w w.length).lst p):0≤(stC (sw1 w c) (sw1 w c).length).lst p:=by
 obtain ⟨j,h1,h2⟩:=lst_of h
 exact qdk ((tch_sw hc j p).2 h2) (by rw [qcf]; exact h1)
theorem lst_sw' {c:Nat} (hc:c<w.length) {p:Nat}:0≤(stC (sw1 w c) (sw1 w c).length).lst p↔0≤(stC w w.length).lst p:=by
 refine ⟨fun h=>?_,lst_sw hc⟩
 obtain ⟨j,h1,h2⟩:=lst_of h
 exact qdk ((tch_sw hc j p).1 h2) (by rw [qcf] at h1; exact h1)
variable (hw : ∀ x ∈ w, x ≠ 0 ∧ -(s : Int) < x ∧ x < s) {c : Nat} (hc : c < w.length)
include hw hc
theorem c_ne:w.getD c 0≠0:=(qck hw hc).1
theorem Vv_sw {p:Nat} (hp:p<s) (hl:0≤(stC w w.length).lst p) {k:Nat} (hk:k≤w.length):Vv s (sw1 w c) k p=phi w c (Vv s w k p):=by
 have h0:=c_ne hw hc
 refine lev_gen (sw1_rg hw hc) (fun x=>x) (fun k p=>phi w c (Vv s w k p)) (fun p hp=>?_) (fun k hk=>?_) (fun k p hk hp ht=>?_) hp (lst_sw hc hl) (by rw [qcf]; exact hk)
 · rw [qcf,Vv_end hw hp]
 ·
  rw [qcf] at hk
  obtain ⟨v1,v2⟩:=Vv_in hw hk
  obtain ⟨f1,f2,_,_⟩:=phi_at hc h0 k
  rw [sw1_abs hc,v1,v2,f1,f2]
  exact ⟨rfl,rfl⟩
 ·
  rw [qcf] at hk
  rw [tch_sw hc] at ht
  rw [Vv_keep (fun e=>ht (.inl e)) (fun e=>ht (.inr e))]
theorem clm_sw_out {k:Nat} (hk:k<w.length):clm s (sw1 w c) (phi w c (4*k+ouL (w.getD k 0)))=phi w c (clm s w (4*k+ouL (w.getD k 0)))∧clm s (sw1 w c) (phi w c (4*k+ouR (w.getD k 0)))=phi w c (clm s w (4*k+ouR (w.getD k 0))):=by
 have h0:=c_ne hw hc
 obtain ⟨_,_,f3,f4⟩:=phi_at hc h0 k
 obtain ⟨v0,v1,v2⟩:=qck hw hk
 obtain ⟨o1,o2⟩:=Vv_out hw hk
 obtain ⟨q1,q2⟩:=Vv_out (sw1_rg hw hc) (k:=k) (by rw [qcf]; exact hk)
 rw [sw1_abs hc] at q1 q2
 rw [f3,f4,←q1,←q2,←o1,←o2,Vv_sw hw hc (by omega) (qdk (.inl rfl) hk) (by omega),Vv_sw hw hc v2 (qdk (.inr rfl) hk) (by omega)]
 exact ⟨rfl,rfl⟩
theorem clm_sw {h:Nat} (hh:h<4*w.length):clm s (sw1 w c) (phi w c h)=phi w c (clm s w h):=by
 have M:=qcp hw
 have M':=qcp (sw1_rg hw hc)
 have out: ∀h,OuW w w.length h→clm s (sw1 w c) (phi w c h)=phi w c (clm s w h):=fun h ho=>by
  obtain ⟨k,hk,hf⟩:=four h ho.1
  rcases hf with e | e | e | e
  · exact (ou_in ho ((in_step w k h).1 (.inl (.inr e)) |> fun q=>⟨ho.1,q.2⟩)).elim
  · exact (ou_in ho ((in_step w k h).1 (.inr e) |> fun q=>⟨ho.1,q.2⟩)).elim
  · rw [e]; exact (clm_sw_out hw hc hk).1
  · rw [e]; exact (clm_sw_out hw hc hk).2
 rcases ou_or_in (w:=w) hh with q | q
 · exact out h q
 ·
  have hb:=M.2 h hh
  have ho:OuW w w.length (clm s w h):=by
   have:=(clm_out hw h hh)
   rw [qcu hb.2.1,qcu hh] at this
   exact this.2 fun k=>ou_in k q
  have h1:=out _ ho
  rw [hb.2.2.1] at h1
  have hb':=M'.2 (phi w c (clm s w h)) (by rw [qcf]; exact phi_lt hb.2.1)
  rw [←h1,hb'.2.2.1]
theorem outg_phi {h:Nat} (hh:h<4*w.length):Outg ((sw1 w c).map sgv) (phi w c h)↔Outg (w.map sgv) h:=by
 have h0:=c_ne hw hc
 rw [qcu hh,qcu (by rw [qcf]; exact phi_lt hh)]
 unfold OuW
 rw [qcf]
 have hlt:=phi_lt (c:=c) hh
 have e4:phi w c h/ 4=h/ 4:=by unfold phi turnN; split; split<;>omega; rfl
 rw [e4,sw1_at hc]
 unfold phi turnN at hlt⊢
 by_cases q:h/ 4=c
 ·
  simp only [if_pos q] at hlt⊢
  by_cases v:0<w.getD c 0
  ·
   simp only [if_pos v,if_neg (show¬0< -(w.getD c 0) by omega)] at hlt⊢
   rw [q,if_pos v]; omega
  ·
   simp only [if_neg v,if_pos (show 0< -(w.getD c 0) by omega)] at hlt⊢
   rw [q,if_neg v]; omega
 · simp only [if_neg q] at hlt⊢
theorem phi_mono {a b:Nat} (ha:a<4*w.length) (hb:b<4*w.length) (oa:Outg (w.map sgv) a) (ob:Outg (w.map sgv) b) (h:a<b):phi w c a<phi w c b:=by
 have h0:=c_ne hw hc
 rw [qcu ha] at oa
 rw [qcu hb] at ob
 obtain ⟨_,oa⟩:=oa
 obtain ⟨_,ob⟩:=ob
 unfold phi turnN
 by_cases q1:a/ 4=c<;>by_cases q2:b/ 4=c
 ·
  rw [if_pos q1,if_pos q2]
  rw [q1] at oa; rw [q2] at ob
  by_cases v:0<w.getD c 0
  ·
   rw [if_pos v] at oa ob⊢
   rw [if_pos v]; omega
  ·
   rw [if_neg v] at oa ob⊢
   rw [if_neg v]; omega
 · rw [if_pos q1,if_neg q2]; split<;>omega
 · rw [if_neg q1,if_pos q2]; split<;>omega
 · rw [if_neg q1,if_neg q2]; exact h
theorem nx_sw {h:Nat} (hh:h<4*w.length):nx (clm s (sw1 w c)) (phi w c h)=phi w c (nx (clm s w) h):=by
 unfold nx; rw [clm_sw hw hc hh,phi_turn]
theorem it_sw {h:Nat} (hh:h<4*w.length): ∀k,it (nx (clm s (sw1 w c))) k (phi w c h)=phi w c (it (nx (clm s w)) k h)
 | 0=>rfl
 | k+1=>by
  show nx (clm s (sw1 w c)) (it _ k _)=phi w c (nx (clm s w) (it _ k h))
  rw [it_sw hh k,nx_sw hw hc ((qcp hw).iv.pn.it hh k)]
theorem cn_sw {a b:Nat} (ha:a<4*w.length) (h:Cn (adjI (4*w.length) (nx (clm s w))) a b):Cn (adjI (4*(sw1 w c).length) (nx (clm s (sw1 w c)))) (phi w c a) (phi w c b):=by
 obtain ⟨k,rfl⟩:=(qcp hw).iv.pn.fwd ha h
 rw [←it_sw hw hc ha k]
 exact (qcp (sw1_rg hw hc)).iv.pn.cn (by rw [qcf]; exact phi_lt ha) k
end
section
variable {s : Nat} {w : List Int} (hw : ∀ x ∈ w, x ≠ 0 ∧ -(s : Int) < x ∧ x < s) (hL : w.length ≤ 64) {c : Nat} (hc : c < w.length)
include hw hL hc
theorem rep_sw {a:Nat} (ha:a<4*w.length) (oa:Outg (w.map sgv) a) (hr:Rep (adjI (4*w.length) (nx (clm s w))) a):Rep (adjI (4*(sw1 w c).length) (nx (clm s (sw1 w c)))) (phi w c a):=by
 have h0:=c_ne hw hc
 have hw':=sw1_rg hw hc
 intro g hg hcn
 have hga:g<4*(sw1 w c).length:=by rw [qcf]; have:=phi_lt (c:=c) ha; omega
 have D':=clo_dv hw' (by rw [qcf]; exact hL) (lo:=0) (by omega) (by omega)
 have hln:((sw1 w c).map sgv).length=(sw1 w c).length:=List.length_map ..
 have og:Outg ((sw1 w c).map sgv) g:=by
  have:=outg_cn D' (a:=g) (b:=phi w c a) (by rw [hln]; exact hcn)
  exact this.2 ((outg_phi hw hc ha).2 oa)
 have h1:=cn_sw hw' (c:=c) (by rw [qcf]; exact hc) hga hcn
 rw [sw1_sw1 hc,phi_phi hc h0] at h1
 have h2:=phi_mono hw' (c:=c) (by rw [qcf]; exact hc) hga (by rw [qcf]; exact phi_lt ha) og ((outg_phi hw hc ha).2 oa) hg
 rw [phi_phi hc h0] at h2
 exact hr _ h2 h1
theorem rep_sw' {a:Nat} (ha:a<4*w.length) (oa:Outg (w.map sgv) a):Rep (adjI (4*(sw1 w c).length) (nx (clm s (sw1 w c)))) (phi w c a)↔Rep (adjI (4*w.length) (nx (clm s w))) a:=by
 refine ⟨fun h=>?_,rep_sw hw hL hc ha oa⟩
 have h0:=c_ne hw hc
 have:=rep_sw (sw1_rg hw hc) (by rw [qcf]; exact hL) (c:=c) (by rw [qcf]; exact hc) (a:=phi w c a) (by rw [qcf]; exact phi_lt ha) ((outg_phi hw hc ha).2 oa) h
 rwa [sw1_sw1 hc,phi_phi hc h0] at this
theorem key_sw {a b:Nat} (ha:a<4*w.length) (oa:Outg (w.map sgv) a) (hb:b<4*w.length) (ob:Outg (w.map sgv) b):
  key (4*(sw1 w c).length) (nx (clm s (sw1 w c))) (phi w c a)<key (4*(sw1 w c).length) (nx (clm s (sw1 w c))) (phi w c b)↔key (4*w.length) (nx (clm s w)) a<key (4*w.length) (nx (clm s w)) b:=by
 have h0:=c_ne hw hc
 have P:=(qcp hw).iv.pn
 have P':=(qcp (sw1_rg hw hc)).iv.pn
 have D:=clo_dv hw hL (lo:=0) (by omega) (by omega)
 have hln:(w.map sgv).length=w.length:=List.length_map ..
 have one: ∀a,a<4*w.length→Outg (w.map sgv) a→rpx (4*(sw1 w c).length) (nx (clm s (sw1 w c))) (phi w c a)=phi w c (rpx (4*w.length) (nx (clm s w)) a)∧jx (4*(sw1 w c).length) (nx (clm s (sw1 w c))) (phi w c a)=jx (4*w.length) (nx (clm s w)) a∧rpx (4*w.length) (nx (clm s w)) a<4*w.length∧Outg (w.map sgv) (rpx (4*w.length) (nx (clm s w)) a):=fun a ha oa=>by
  obtain ⟨r1,r2,r3⟩:=qfx (f:=nx (clm s w)) ha
  have or:Outg (w.map sgv) (rpx (4*w.length) (nx (clm s w)) a):=by
   have:=outg_cn D (a:=rpx (4*w.length) (nx (clm s w)) a) (b:=a) (by rw [hln]; exact r2)
   exact this.2 oa
  have ha':phi w c a<4*(sw1 w c).length:=by rw [qcf]; exact phi_lt ha
  have e1:=rpx_eq ha' (rep_sw hw hL hc r1 or r3) (cn_sw hw hc r1 r2)
  obtain ⟨j1,j2,_⟩:=jx_spec P ha
  refine ⟨e1,jx_eq P' ha' (by rw [e1,it_sw hw hc r1,j1]) (fun j hj q=>?_),r1,or⟩
  rw [e1,it_sw hw hc r1] at q
  exact j2 j hj (phi_inj hc h0 q)
 obtain ⟨a1,a2,a3,a4⟩:=one a ha oa
 obtain ⟨b1,b2,b3,b4⟩:=one b hb ob
 rw [key_lt P ha hb,key_lt P' (by rw [qcf]; exact phi_lt ha) (by rw [qcf]; exact phi_lt hb),a1,a2,b1,b2]
 have inj:phi w c (rpx (4*w.length) (nx (clm s w)) a)=phi w c (rpx (4*w.length) (nx (clm s w)) b)↔rpx (4*w.length) (nx (clm s w)) a=rpx (4*w.length) (nx (clm s w)) b:=⟨phi_inj hc h0,fun e=>by rw [e]⟩
 have mono:phi w c (rpx (4*w.length) (nx (clm s w)) a)<phi w c (rpx (4*w.length) (nx (clm s w)) b)↔rpx (4*w.length) (nx (clm s w)) a<rpx (4*w.length) (nx (clm s w)) b:=by
  refine ⟨fun q=>?_,phi_mono hw hc a3 b3 a4 b4⟩
  rcases Nat.lt_trichotomy (rpx (4*w.length) (nx (clm s w)) a) (rpx (4*w.length) (nx (clm s w)) b) with k | k | k
  · exact k
  · rw [k] at q; omega
  · have:=phi_mono hw hc b3 a3 b4 a4 k; omega
 rw [inj,mono]
end
open Gar Pg
def er (w:List Int) (c:Nat):List Int:=w.eraseIdx c
def jn (w:List Int) (c x:Nat):Nat:=if 0<w.getD c 0 then 4*c+(x%4+1-2*(x%2)) else 4*c+(3-x%4)
def skp (s:Nat) (w:List Int) (c x:Nat):Nat:=if x/ 4=c then clm s w (jn w c x) else x
def sgm (c h:Nat):Nat:=if c<h/ 4 then h-4 else h
def tau (c k:Nat):Nat:=if k<c then k else k+1
def ipos (w:List Int) (x:Nat):Nat:=if x%4=inL (w.getD (x/ 4) 0) then (w.getD (x/ 4) 0).natAbs-1 else (w.getD (x/ 4) 0).natAbs
section
variable {s : Nat} {w : List Int} {c : Nat}
theorem er_len (hc:c<w.length):(er w c).length=w.length-1:=List.length_eraseIdx_of_lt hc
theorem er_at (k:Nat):(er w c).getD k 0=w.getD (tau c k) 0:=by
 unfold er tau
 rw [List.getD_eq_getElem?_getD,List.getElem?_eraseIdx,List.getD_eq_getElem?_getD]
 split<;>rfl
theorem er_rg (hw: ∀x∈w,x≠0∧-(s:Int)<x∧x<s): ∀x∈er w c,x≠0∧-(s:Int)<x∧x<s:=fun x hx=>hw x (List.mem_of_mem_eraseIdx hx)
theorem jn_at:jn w c (4*c+inL (w.getD c 0))=4*c+ouL (w.getD c 0)∧jn w c (4*c+inR (w.getD c 0))=4*c+ouR (w.getD c 0)∧jn w c (4*c+ouL (w.getD c 0))=4*c+inL (w.getD c 0)∧jn w c (4*c+ouR (w.getD c 0))=4*c+inR (w.getD c 0):=by
 unfold jn inL inR ouL ouR
 by_cases q:0<w.getD c 0
 ·
  simp only [if_pos q]
  refine ⟨?_,?_,?_,?_⟩<;>omega
 ·
  simp only [if_neg q]
  refine ⟨?_,?_,?_,?_⟩<;>omega
theorem jn_div (x:Nat):jn w c x/ 4=c:=by
 unfold jn
 split<;>omega
theorem jn_jn {x:Nat} (hx:x/ 4=c):jn w c (jn w c x)=x:=by
 unfold jn
 by_cases q:0<w.getD c 0
 · rw [if_pos q,if_pos q]; omega
 · rw [if_neg q,if_neg q]; omega
theorem jn_ou (hc:c<w.length) {x:Nat} (hx:x/ 4=c) (hi:InW w w.length x):OuW w w.length (jn w c x):=by
 have hj4:=jn_div (w:=w) (c:=c) x
 obtain ⟨_,hi⟩:=hi
 refine ⟨by omega,?_⟩
 rw [hj4]; rw [hx] at hi
 unfold jn
 by_cases q:0<w.getD c 0
 ·
  rw [if_pos q] at hi
  rw [if_pos q,if_pos q]; omega
 ·
  rw [if_neg q] at hi
  rw [if_neg q,if_neg q]; omega
theorem jn_in (hc:c<w.length) {x:Nat} (hx:x/ 4=c) (hi:OuW w w.length x):InW w w.length (jn w c x):=by
 have hj4:=jn_div (w:=w) (c:=c) x
 obtain ⟨_,hi⟩:=hi
 refine ⟨by omega,?_⟩
 rw [hj4]; rw [hx] at hi
 unfold jn
 by_cases q:0<w.getD c 0
 ·
  rw [if_pos q] at hi
  rw [if_pos q,if_pos q]; omega
 ·
  rw [if_neg q] at hi
  rw [if_neg q,if_neg q]; omega
variable (hw : ∀ x ∈ w, x ≠ 0 ∧ -(s : Int) < x ∧ x < s)
include hw
theorem ipos_Vv {p:Nat} (hp:p<s) (hl:0≤(stC w w.length).lst p) {k:Nat} (hk:k≤w.length):ipos w (Vv s w k p)=p:=by
 refine lev_gen hw (ipos w) (fun _ p=>p) (fun _ _=>rfl) (fun k hk=>?_) (fun _ _ _ _ _=>rfl) hp hl hk
 obtain ⟨a1,a2,a3,a4⟩:=io_lt (w.getD k 0)
 have hd:inR (w.getD k 0)≠inL (w.getD k 0):=by
  unfold inL inR
  by_cases q:0<w.getD k 0
  · rw [if_pos q,if_pos q]; decide
  · rw [if_neg q,if_neg q]; decide
 unfold ipos
 rw [show (4*k+inL (w.getD k 0))/ 4=k by omega,show (4*k+inR (w.getD k 0))/ 4=k by omega,show (4*k+inL (w.getD k 0))%4=inL (w.getD k 0) by omega,show (4*k+inR (w.getD k 0))%4=inR (w.getD k 0) by omega,if_pos rfl,if_neg hd]
 exact ⟨rfl,rfl⟩
theorem Vv_div {k:Nat} (hk:k<w.length) {p:Nat} (ht:Tch w k p):Vv s w k p/ 4=k:=by
 obtain ⟨v1,v2⟩:=Vv_in hw hk
 obtain ⟨a1,a2,_,_⟩:=io_lt (w.getD k 0)
 rcases ht with e | e
 · rw [e,v1]; omega
 · rw [e,v2]; omega
theorem Vv_rng {j p:Nat} (hj:j<w.length) (ht:Tch w j p): ∀{k:Nat},k≤j→k≤Vv s w k p/ 4∧Vv s w k p/ 4≤j:=by
 have: ∀d k,k+d=j→k≤Vv s w k p/ 4∧Vv s w k p/ 4≤j:=by
  intro d
  induction d with
  | zero=>
       intro k hk; have:k=j:=by omega
       subst this; rw [Vv_div hw hj ht]; omega
  | succ d ih=>
   intro k hk
   by_cases h:Tch w k p
   · rw [Vv_div hw (by omega) h]; omega
   ·
    have:=ih (k+1) (by omega)
    rw [Vv_keep (fun e=>h (.inl e)) (fun e=>h (.inr e))] at this
    omega
 intro k hk
 exact this (j-k) k (by omega)
theorem Vv_other {j p:Nat} (hc:c<w.length) (hp:p<s) (hj:j<w.length) (hjc:j≠c) (ht:Tch w j p):Vv s w (c+1) p/ 4≠c:=by
 by_cases h: ∃i,c<i∧i<w.length∧Tch w i p
 ·
  obtain ⟨i,i1,i2,i3⟩:=h
  have:=(Vv_rng hw i2 i3 (k:=c+1) (by omega)).1
  omega
 ·
  have hjl:j<c:=by
   rcases Nat.lt_trichotomy j c with q | q | q
   · exact q
   · exact absurd q hjc
   · exact absurd ⟨j,q,hj,ht⟩ h
  have up: ∀d,c+1+d≤w.length→Vv s w (c+1+d) p=Vv s w (c+1) p:=by
   intro d
   induction d with
   | zero=>intro _; rfl
   | succ d ih=>
    intro hd
    have hn: ¬Tch w (c+1+d) p:=fun q=>h ⟨c+1+d,by omega,by omega,q⟩
    rw [show c+1+(d+1)=(c+1+d)+1 by omega,Vv_keep (fun e=>hn (.inl e)) (fun e=>hn (.inr e)),ih (by omega)]
  have:=up (w.length-(c+1)) (by omega)
  rw [show c+1+(w.length-(c+1))=w.length by omega,Vv_end hw hp] at this
  have h2:=(Vv_rng hw hj ht (k:=0) (Nat.zero_le _)).2
  omega
theorem skp_at (hc:c<w.length) {p:Nat} (ht:Tch w c p):skp s w c (Vv s w c p)=Vv s w (c+1) p:=by
 obtain ⟨v1,v2⟩:=Vv_in hw hc
 obtain ⟨o1,o2⟩:=Vv_out hw hc
 obtain ⟨j1,j2,_,_⟩:=jn_at (w:=w) (c:=c)
 obtain ⟨a1,a2,_,_⟩:=io_lt (w.getD c 0)
 unfold skp
 rcases ht with e | e
 · rw [e,v1,if_pos (by omega),j1,o1]
 · rw [e,v2,if_pos (by omega),j2,o2]
theorem skS {j p:Nat} (hc:c<w.length) (hp:p<s) (hj:j<w.length) (hjc:j≠c) (ht:Tch w j p):skp s w c (Vv s w c p)=Vv s w (c+1) p∧skp s w c (Vv s w (c+1) p)=Vv s w (c+1) p:=by
 have h:=Vv_other hw hc hp hj hjc ht
 refine ⟨?_,if_neg h⟩
 by_cases q:Tch w c p
 · exact skp_at hw hc q
 ·
  have e:=Vv_keep (s:=s) (w:=w) (k:=c) (p:=p) (fun e=>q (.inl e)) (fun e=>q (.inr e))
  rw [←e]; exact if_neg h
omit hw in
theorem tch_er (k p:Nat):Tch (er w c) k p↔Tch w (tau c k) p:=by unfold Tch; rw [er_at]
omit hw in
theorem tau_ne (k:Nat):tau c k≠c:=by unfold tau; split<;>omega
omit hw in
theorem tau_lt (hc:c<w.length) {k:Nat} (hk:k<(er w c).length):tau c k<w.length:=by
 rw [er_len hc] at hk; unfold tau; split<;>omega
omit hw in
theorem lst_er (hc:c<w.length) {p:Nat}:0≤(stC (er w c) (er w c).length).lst p↔∃j,j<w.length∧j≠c∧Tch w j p:=by
 constructor
 ·
  intro h
  obtain ⟨j,h1,h2⟩:=lst_of h
  exact ⟨tau c j,tau_lt hc h1,tau_ne j,(tch_er j p).1 h2⟩
 ·
  rintro ⟨j,h1,h2,h3⟩
  by_cases q:j<c
  · exact qdk ((tch_er j p).2 (by rw [show tau c j=j from if_pos q]; exact h3)) (by rw [er_len hc]; omega)
  · exact qdk ((tch_er (j-1) p).2 (by rw [show tau c (j-1)=j by unfold tau; rw [if_neg (by omega)]; omega]; exact h3)) (by rw [er_len hc]; omega)
open Classical in
theorem Vv_er (hc:c<w.length) {p:Nat} (hp:p<s) (hl:0≤(stC (er w c) (er w c).length).lst p) {k:Nat} (hk:k≤(er w c).length):Vv s (er w c) k p=sgm c (skp s w c (Vv s w (tau c k) p)):=by
 have hw':=er_rg (c:=c) hw
 have hlen:=er_len hc
 have main:=lev_gen hw' (fun x=>x) (fun k p=>if 0≤(stC (er w c) (er w c).length).lst p then sgm c (skp s w c (Vv s w (tau c k) p)) else 0) (fun p hp=>?_) (fun k hk=>?_) (fun k p hk hp ht=>?_) hp hl hk
 ·
  rw [if_pos hl] at main
  exact main
 ·
  by_cases q:0≤(stC (er w c) (er w c).length).lst p
  ·
   rw [if_pos q,if_pos q]
   obtain ⟨j,j1,j2,j3⟩:=(lst_er hc).1 q
   have e1:tau c (er w c).length=w.length:=by rw [hlen]; unfold tau; split<;>omega
   rw [e1,Vv_end hw hp]
   by_cases h0:0<c
   · rw [show tau c 0=0 from if_pos h0]
   ·
    have hc0:c=0:=by omega
    have e0:tau c 0=c+1:=by unfold tau; rw [if_neg h0,hc0]
    obtain ⟨s1,s2⟩:=skS hw hc hp j1 j2 j3
    rw [e0,s2,show Vv s w 0 p=Vv s w c p by rw [hc0],s1]
  · rw [if_neg q,if_neg q]
 ·
  have ht:=tau_lt hc hk
  have hne:=tau_ne (c:=c) k
  have t1:Tch (er w c) k (((er w c).getD k 0).natAbs-1):=.inl rfl
  have t2:Tch (er w c) k ((er w c).getD k 0).natAbs:=.inr rfl
  obtain ⟨v1,v2⟩:=Vv_in hw ht
  obtain ⟨a1,a2,_,_⟩:=io_lt (w.getD (tau c k) 0)
  have hs4: ∀x,x<4→sgm c (skp s w c (4*tau c k+x))=4*k+x:=fun x hx=>by
   have e1:skp s w c (4*tau c k+x)=4*tau c k+x:=if_neg (by omega)
   rw [e1]
   unfold sgm
   by_cases q:k<c
   · rw [show tau c k=k from if_pos q,if_neg (by omega)]
   · rw [show tau c k=k+1 from if_neg q,if_pos (by omega)]; omega
  rw [if_pos (qdk t1 hk),if_pos (qdk t2 hk),er_at,v1,v2,hs4 _ a1,hs4 _ a2]
  exact ⟨rfl,rfl⟩
 ·
  by_cases q:0≤(stC (er w c) (er w c).length).lst p
  ·
   rw [if_pos q,if_pos q]
   obtain ⟨j,j1,j2,j3⟩:=(lst_er hc).1 q
   obtain ⟨s1,s2⟩:=skS hw hc hp j1 j2 j3
   have ht':=fun q=>ht ((tch_er k p).2 q)
   have e:=Vv_keep (s:=s) (w:=w) (k:=tau c k) (p:=p) (fun e=>ht' (.inl e)) (fun e=>ht' (.inr e))
   by_cases h:k+1=c
   ·
    have e1:tau c k=k:=if_pos (by omega)
    have e2:tau c (k+1)=c+1:=by unfold tau; rw [if_neg (by omega)]; omega
    rw [e1,h] at e
    rw [e2,e1,s2,←e,s1]
   ·
    have e1:tau c (k+1)=tau c k+1:=by unfold tau; split<;>split<;>omega
    rw [e1,e]
  · rw [if_neg q,if_neg q]
theorem four_at {h:Nat} (hh:h<4*w.length):(OuW w w.length h∧∃k,k<w.length∧(h=4*k+ouL (w.getD k 0)∨h=4*k+ouR (w.getD k 0)))∨(InW w w.length h∧OuW w w.length (clm s w h)):=by
 rcases ou_or_in (w:=w) hh with q | q
 ·
  refine .inl ⟨q,?_⟩
  obtain ⟨k,hk,hf⟩:=four h hh
  rcases hf with e | e | e | e
  · exact (ou_in q ⟨hh,((in_step w k h).1 (.inl (.inr e))).2⟩).elim
  · exact (ou_in q ⟨hh,((in_step w k h).1 (.inr e)).2⟩).elim
  · exact ⟨k,hk,.inl e⟩
  · exact ⟨k,hk,.inr e⟩
 ·
  refine .inr ⟨q,?_⟩
  have hb:=(qcp hw).2 h hh
  have:=clm_out hw h hh
  rw [qcu hb.2.1,qcu hh] at this
  exact this.2 fun k=>ou_in k q
theorem out_at {h:Nat} (ho:OuW w w.length h): ∃p,p<s∧Tch w (h/ 4) p∧clm s w h=Vv s w (h/ 4+1) p∧(h/ 4=c→jn w c h=Vv s w c p∧(∀x,x/ 4=c→InW w w.length x→ipos w x=p→jn w c x=h)):=by
 have hh:=ho.1
 rcases four_at hw hh with ⟨_,k,hk,e⟩ | ⟨q,_⟩
 ·
  obtain ⟨v0,v1,v2⟩:=qck hw hk
  obtain ⟨o1,o2⟩:=Vv_out hw hk
  obtain ⟨i1,i2⟩:=Vv_in hw hk
  obtain ⟨a1,a2,a3,a4⟩:=io_lt (w.getD k 0)
  have hd:inR (w.getD k 0)≠inL (w.getD k 0):=by
   unfold inL inR
   by_cases q:0<w.getD k 0
   · rw [if_pos q,if_pos q]; decide
   · rw [if_neg q,if_neg q]; decide
  have inx: ∀x,x/ 4=k→InW w w.length x→x=4*k+inL (w.getD k 0)∨x=4*k+inR (w.getD k 0):=fun x hx hi=>by
   obtain ⟨_,hi⟩:=hi
   rw [hx] at hi
   unfold inL inR
   by_cases q:0<w.getD k 0
   · rw [if_pos q] at hi; rw [if_pos q,if_pos q]; omega
   · rw [if_neg q] at hi; rw [if_neg q,if_neg q]; omega
  have ipx:ipos w (4*k+inL (w.getD k 0))=(w.getD k 0).natAbs-1∧ipos w (4*k+inR (w.getD k 0))=(w.getD k 0).natAbs:=by
   unfold ipos
   rw [show (4*k+inL (w.getD k 0))/ 4=k by omega,show (4*k+inR (w.getD k 0))/ 4=k by omega,show (4*k+inL (w.getD k 0))%4=inL (w.getD k 0) by omega,show (4*k+inR (w.getD k 0))%4=inR (w.getD k 0) by omega,if_pos rfl,if_neg hd]
   exact ⟨rfl,rfl⟩
  rcases e with e | e
  ·
   refine ⟨(w.getD k 0).natAbs-1,by omega,?_,?_,fun hc=>?_⟩
   · rw [show h/ 4=k by omega]; exact .inl rfl
   · rw [show h/ 4=k by omega,o1,e]
   ·
    have hk2:k=c:=by omega
    subst hk2
    obtain ⟨j1,j2,j3,j4⟩:=jn_at (w:=w) (c:=k)
    refine ⟨by rw [e,j3,i1],fun x hx hi hp=>?_⟩
    rcases inx x hx hi with q | q
    · rw [q,j1,e]
    · rw [q,ipx.2] at hp; omega
  ·
   refine ⟨(w.getD k 0).natAbs,v2,?_,?_,fun hc=>?_⟩
   · rw [show h/ 4=k by omega]; exact .inr rfl
   · rw [show h/ 4=k by omega,o2,e]
   ·
    have hk2:k=c:=by omega
    subst hk2
    obtain ⟨j1,j2,j3,j4⟩:=jn_at (w:=w) (c:=k)
    refine ⟨by rw [e,j4,i2],fun x hx hi hp=>?_⟩
    rcases inx x hx hi with q | q
    · rw [q,ipx.1] at hp; omega
    · rw [q,j2,e]
 · exact (ou_in ho q).elim
theorem skp_ne (hc:c<w.length) {h:Nat} (hh:h<4*w.length) (hne:h/ 4≠c):skp s w c (clm s w h)/ 4≠c∧skp s w c (clm s w h)<4*w.length:=by
 have M:=qcp hw
 have hb:=M.2 h hh
 have hjl: ∀x,jn w c x<4*w.length:=fun x=>by have:=jn_div (w:=w) (c:=c) x; omega
 have hlt:skp s w c (clm s w h)<4*w.length:=by
  unfold skp
  split
  · exact (M.2 _ (hjl _)).2.1
  · exact hb.2.1
 refine ⟨?_,hlt⟩
 by_cases hx:clm s w h/ 4=c
 ·
  unfold skp
  rw [if_pos hx]
  rcases four_at hw hh with ⟨ho,_⟩ | ⟨hi,ho⟩
  ·
   obtain ⟨p,p1,p2,p3,_⟩:=out_at (c:=c) hw ho
   have hl:=qdk p2 (show h/ 4<w.length by omega)
   have hip:=ipos_Vv hw p1 hl (k:=h/ 4+1) (by omega)
   rw [←p3] at hip
   have hin:InW w w.length (clm s w h):=by
    rcases ou_or_in (w:=w) hb.2.1 with k | k
    ·
     have:=clm_out hw h hh
     rw [qcu hb.2.1,qcu hh] at this
     exact absurd ho (this.1 k)
    · exact k
   have hjn:=jn_ou hc hx hin
   obtain ⟨p',q1,q2,q3,q4⟩:=out_at (c:=c) hw hjn
   rw [jn_div] at q2 q3
   obtain ⟨q5,q6⟩:=q4 (jn_div _)
   rw [jn_jn hx] at q5
   have hl':=qdk q2 hc
   have hip':=ipos_Vv hw q1 hl' (k:=c) (by omega)
   rw [←q5,hip] at hip'
   rw [q3,←hip']
   exact Vv_other hw hc p1 (show h/ 4<w.length by omega) hne p2
  ·
   obtain ⟨p,p1,p2,p3,p4⟩:=out_at (c:=c) hw ho
   obtain ⟨p5,p6⟩:=p4 hx
   rw [hb.2.2.1,hx] at p3
   rw [hx] at p2
   have hl:=qdk p2 hc
   intro hg
   have hgl:=(M.2 _ (hjl (clm s w h)))
   have hin:=jn_in hc hx ho
   have hgo:OuW w w.length (clm s w (jn w c (clm s w h))):=by
    have:=clm_out hw _ (hjl (clm s w h))
    rw [qcu hgl.2.1,qcu (hjl _)] at this
    exact this.2 fun k=>ou_in k hin
   obtain ⟨p',q1,q2,q3,q4⟩:=out_at (c:=c) hw hgo
   rw [hgl.2.2.1,hg] at q3
   rw [hg] at q2
   have hl':=qdk q2 hc
   have i1:=ipos_Vv hw q1 hl' (k:=c+1) (by omega)
   rw [←q3,p5] at i1
   have i2:=ipos_Vv hw p1 hl (k:=c) (by omega)
   rw [i1] at i2
   rw [i2,←p3] at q3
   have:=jn_div (w:=w) (c:=c) (clm s w h)
   rw [q3] at this
   exact hne this
 · unfold skp; rw [if_neg hx]; exact hx
theorem clm_er_out (hc:c<w.length) {h:Nat} (ho:OuW w w.length h) (hne:h/ 4≠c):clm s (er w c) (sgm c h)=sgm c (skp s w c (clm s w h)):=by
 have hw':=er_rg (c:=c) hw
 have hlen:=er_len hc
 rcases four_at hw ho.1 with ⟨_,k,hk,e⟩ | ⟨q,_⟩
 ·
  obtain ⟨v0,v1,v2⟩:=qck hw hk
  obtain ⟨a1,a2,a3,a4⟩:=io_lt (w.getD k 0)
  have hk4:h/ 4=k:=by omega
  rw [hk4] at hne
  have hkx: ∃k',k'<(er w c).length∧tau c k'=k∧4*k'=sgm c (4*k):=by
   by_cases q:k<c
   · exact ⟨k,by omega,if_pos q,by unfold sgm; rw [if_neg (by omega)]⟩
   · exact ⟨k-1,by omega,by unfold tau; rw [if_neg (by omega)]; omega,by unfold sgm; rw [if_pos (by omega)]; omega⟩
  obtain ⟨k',k1,k2,k3⟩:=hkx
  obtain ⟨o1,o2⟩:=Vv_out hw hk
  obtain ⟨o1',o2'⟩:=Vv_out hw' k1
  rw [er_at,k2] at o1' o2'
  have one: ∀p,p<s→Tch w k p→skp s w c (Vv s w (tau c (k'+1)) p)=skp s w c (Vv s w (k+1) p):=fun p hp ht=>by
   by_cases q:k+1=c
   ·
    have e2:tau c (k'+1)=c+1:=by unfold tau at k2⊢; split at k2<;>split<;>omega
    obtain ⟨s1,s2⟩:=skS hw hc hp hk hne ht
    rw [e2,s2,q,s1]
   ·
    have e2:tau c (k'+1)=k+1:=by unfold tau at k2⊢; split at k2<;>split<;>omega
    rw [e2]
  have hs4: ∀x,x<4→sgm c (4*k+x)=4*k'+x:=fun x hx=>by unfold sgm at k3⊢; split at k3<;>split<;>omega
  rcases e with e | e
  · rw [e,hs4 _ a3,←o1',←o1,Vv_er hw hc (by omega) ((lst_er hc).2 ⟨k,hk,hne,.inl rfl⟩) (by omega),one _ (by omega) (.inl rfl)]
  · rw [e,hs4 _ a4,←o2',←o2,Vv_er hw hc v2 ((lst_er hc).2 ⟨k,hk,hne,.inr rfl⟩) (by omega),one _ v2 (.inr rfl)]
 · exact (ou_in ho q).elim
theorem clm_er (hc:c<w.length) {h:Nat} (hh:h<4*w.length) (hne:h/ 4≠c):clm s (er w c) (sgm c h)=sgm c (skp s w c (clm s w h)):=by
 have M:=qcp hw
 have M':=qcp (er_rg (c:=c) hw)
 have hlen:=er_len hc
 have hb:=M.2 h hh
 have hjl: ∀x,jn w c x<4*w.length:=fun x=>by have:=jn_div (w:=w) (c:=c) x; omega
 have sg_lt: ∀x,x<4*w.length→x/ 4≠c→sgm c x<4*(er w c).length:=fun x hx hn=>by rw [hlen]; unfold sgm; split<;>omega
 rcases four_at hw hh with ⟨ho,_⟩ | ⟨hi,ho⟩
 · exact clm_er_out hw hc ho hne
 ·
  obtain ⟨n1,n2⟩:=skp_ne hw hc hh hne
  have back:clm s (er w c) (sgm c (skp s w c (clm s w h)))=sgm c h:=by
   by_cases hx:clm s w h/ 4=c
   ·
    have eg:skp s w c (clm s w h)=clm s w (jn w c (clm s w h)):=if_pos hx
    have hgl:=M.2 _ (hjl (clm s w h))
    have hin:=jn_in hc hx ho
    have hgo:OuW w w.length (skp s w c (clm s w h)):=by
     rw [eg]
     have:=clm_out hw _ (hjl (clm s w h))
     rw [qcu hgl.2.1,qcu (hjl _)] at this
     exact this.2 fun k=>ou_in k hin
    rw [clm_er_out hw hc hgo n1]
    have e2:skp s w c (clm s w (skp s w c (clm s w h)))=h:=by
     rw [eg,hgl.2.2.1]
     have:skp s w c (jn w c (clm s w h))=clm s w (jn w c (jn w c (clm s w h))):=if_pos (jn_div _)
     rw [this,jn_jn hx,hb.2.2.1]
    rw [e2]
   ·
    have eg:skp s w c (clm s w h)=clm s w h:=if_neg hx
    rw [eg,clm_er_out hw hc ho hx,hb.2.2.1,show skp s w c h=h from if_neg hne]
  have:=(M'.2 _ (sg_lt _ n2 n1)).2.2.1
  rw [back] at this
  exact this
theorem own_iff (hc:c<w.length) {x:Nat} (hx:x/ 4=c) (hi:InW w w.length x):clm s w x/ 4=c↔(stC (er w c) (er w c).length).lst (ipos w x)<0:=by
 have M:=qcp hw
 have hxl:=hi.1
 have hb:=M.2 x hxl
 have hgo:OuW w w.length (clm s w x):=by
  have:=clm_out hw x hxl
  rw [qcu hb.2.1,qcu hxl] at this
  exact this.2 fun k=>ou_in k hi
 obtain ⟨p,p1,p2,p3,p4⟩:=out_at (c:=c) hw hgo
 rw [hb.2.2.1] at p3
 have hl:=qdk p2 (show clm s w x/ 4<w.length by have:=hb.2.1; omega)
 have hip:=ipos_Vv hw p1 hl (k:=clm s w x/ 4+1) (by have:=hb.2.1; omega)
 rw [←p3] at hip
 rw [hip]
 have hlo:=lst_er (w:=w) (c:=c) hc (p:=p)
 constructor
 ·
  intro hg
  rcases Nat.lt_or_ge 0 1 with _ | _
  ·
   by_cases q:(stC (er w c) (er w c).length).lst p<0
   · exact q
   ·
    exfalso
    obtain ⟨j,j1,j2,j3⟩:=hlo.1 (by omega)
    have:=Vv_other hw hc p1 j1 j2 j3
    rw [hg] at p3
    rw [←p3] at this
    exact this hx
  · omega
 ·
  intro hg
  by_cases q:clm s w x/ 4=c
  · exact q
  · exact absurd (hlo.2 ⟨_,by have:=hb.2.1; omega,q,p2⟩) (by omega)
