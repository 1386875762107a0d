import Derived.Test.YticemffhlapnnaaPRpg
import Derived.Test.YticemffhlapnnaaPRdia1
set_option linter.all false
namespace Go.Proofs.Yticemffhlapnnaa
open Ev
namespace Pg
def par (T:Nat→Bool) (c:Nat):Bool:=((T (4*c)^^T (4*c+1))^^T (4*c+2))^^T (4*c+3)
theorem par_flip (T:Nat→Bool) (x c:Nat):par (fun z=>T z^^decide (z=x)) c=(par T c^^decide (x/ 4=c)):=by
 have key: ∀q r,r<4→x=4*q+r→par (fun z=>T z^^decide (z=x)) c=(par T c^^decide (x/ 4=c)):=by
  intro q r hr hx
  have hq:x/ 4=q:=by omega
  rw [hq]
  unfold par
  dsimp only
  by_cases e:q=c
  ·
   subst e
   have hr4:r=0∨r=1∨r=2∨r=3:=by omega
   rcases hr4 with h | h | h | h<;>subst h<;>subst hx
   ·
    rw [dT (show 4*q=4*q+0 by omega),dF (show¬4*q+1=4*q+0 by omega),dF (show¬4*q+2=4*q+0 by omega),dF (show¬4*q+3=4*q+0 by omega),dT rfl]
    cases T (4*q)<;>cases T (4*q+1)<;>cases T (4*q+2)<;>cases T (4*q+3)<;>rfl
   ·
    rw [dF (show¬4*q=4*q+1 by omega),dT (show 4*q+1=4*q+1 by omega),dF (show¬4*q+2=4*q+1 by omega),dF (show¬4*q+3=4*q+1 by omega),dT rfl]
    cases T (4*q)<;>cases T (4*q+1)<;>cases T (4*q+2)<;>cases T (4*q+3)<;>rfl
   ·
    rw [dF (show¬4*q=4*q+2 by omega),dF (show¬4*q+1=4*q+2 by omega),dT (show 4*q+2=4*q+2 by omega),dF (show¬4*q+3=4*q+2 by omega),dT rfl]
    cases T (4*q)<;>cases T (4*q+1)<;>cases T (4*q+2)<;>cases T (4*q+3)<;>rfl
   ·
    rw [dF (show¬4*q=4*q+3 by omega),dF (show¬4*q+1=4*q+3 by omega),dF (show¬4*q+2=4*q+3 by omega),dT (show 4*q+3=4*q+3 by omega),dT rfl]
    cases T (4*q)<;>cases T (4*q+1)<;>cases T (4*q+2)<;>cases T (4*q+3)<;>rfl
  ·
   rw [dF (show¬4*c=x by omega),dF (show¬4*c+1=x by omega),dF (show¬4*c+2=x by omega),dF (show¬4*c+3=x by omega),dF e]
   cases T (4*c)<;>cases T (4*c+1)<;>cases T (4*c+2)<;>cases T (4*c+3)<;>rfl
 exact key (x/ 4) (x%4) (Nat.mod_lt _ (by omega)) (by omega)
theorem par_none (c:Nat):par (fun _=>false) c=false:=rfl
theorem way_set {n:Nat} {ν:Nat→Nat} (hν:IV n ν) {p q:Nat} (h:Cn (adjP n ν) p q): ∃T:Nat→Bool,(∀x,x<4*n→T (ν x)=T x)∧(∀x,x<4*n→T x=true→ν x≠x)∧∀c,c<n→par T c=(decide (p=c)^^decide (q=c)):=by
 induction h with
 | refl=>exact ⟨fun _=>false,fun _ _=>rfl,fun _ _ h=>absurd (show false=true from h) (by decide),fun c _=>by rw [par_none]; cases decide (p=c)<;>rfl⟩
 | @step b d h1 h2 ih=>
  obtain ⟨T,t1,t2,t3⟩:=ih
  obtain ⟨hb,hd,s,hs,hm⟩:=h2
  generalize hx:4*b+s=x at hm
  have hxl:x<4*n:=by omega
  have hxb:x/ 4=b:=by omega
  by_cases hf:ν x=x
  ·
   rw [hf,hxb] at hm
   subst hm
   exact ⟨T,t1,t2,t3⟩
  ·
   have hyl:=hν.lt x hxl
   have hyy:=hν.inv x hxl
   refine ⟨fun z=>(T z^^decide (z=x))^^decide (z=ν x),fun z hz=>?_,fun z hz hT=>?_,fun c hc=>?_⟩
   ·
    dsimp only
    rw [t1 z hz]
    have e1:decide (ν z=x)=decide (z=ν x):=decide_eq_decide.2 ⟨fun e=>by rw [←e,hν.inv z hz],fun e=>by rw [e,hyy]⟩
    have e2:decide (ν z=ν x)=decide (z=x):=decide_eq_decide.2 ⟨fun e=>by rw [←hν.inv z hz,e,hyy],fun e=>by rw [e]⟩
    rw [e1,e2]
    cases T z<;>cases decide (z=x)<;>cases decide (z=ν x)<;>rfl
   ·
    dsimp only at hT
    intro hz2
    by_cases e1:z=x
    · subst e1; exact hf hz2
    by_cases e2:z=ν x
    ·
     subst e2
     rw [hyy] at hz2
     exact hf hz2.symm
    rw [dF e1,dF e2,Bool.xor_false,Bool.xor_false] at hT
    exact t2 z hz hT hz2
   ·
    rw [par_flip (fun z=>T z^^decide (z=x)) (ν x) c,par_flip T x c,t3 c hc,hxb,hm]
    cases decide (p=c)<;>cases decide (b=c)<;>cases decide (d=c)<;>rfl
def Parts (n:Nat) (μ:Nat→Nat):Prop:= ∀S:Nat→Bool,(∀x,x<4*n→S (μ x)=S x)→(∀c,c<n→par S c=false)→
 ∃κ:Nat→Bool,(∀x,x<4*n→κ (fc μ x)=κ x)∧∀x,x<4*n→(κ x^^κ (turnN x 3))=S x
theorem dd_add' {n:Nat} {μ:Nat→Nat} (h:IV n μ) {a b:Nat} (ha:a<4*n) (hb:b<4*n) (hab:a≠b) (fa:μ a=a) (fb:μ b=b):dd n (addP μ a b)=dd n μ∨(Cn (adjP n μ) (a/ 4) (b/ 4)∧¬Cn (adjI (4*n) (fc μ)) a b):=by
 have hm:mvd n (addP μ a b)=mvd n μ+2:=by
  unfold mvd
  have c1:=cnt_one (N:=4*n) (p:=fun x=>μ x≠x) ha (fun q=>q fa)
  have c2:=cnt_one (N:=4*n) (p:=fun h=>h=a∨μ h≠h) hb (by rintro (e | e); exact hab e.symm; exact e fb)
  have c3:cnt (4*n) (fun x=>addP μ a b x≠x)=cnt (4*n) (fun h=>h=b∨h=a∨μ h≠h):=by
   refine qcx fun k hk=>?_
   unfold addP
   by_cases k1:k=a
   · subst k1; rw [if_pos rfl]; exact ⟨fun _=>.inr (.inl rfl),fun _ e=>hab e.symm⟩
   by_cases k2:k=b
   · subst k2; rw [if_neg k1,if_pos rfl]; exact ⟨fun _=>.inl rfl,fun _ e=>hab e⟩
   ·
    rw [if_neg k1,if_neg k2]
    exact ⟨fun e=>.inr (.inr e),fun e=>by rcases e with e | e | e; exact absurd e k2; exact absurd e k1; exact e⟩
  omega
 have hf:fc (addP μ a b)=sw (fc μ) a b:=by
  funext x
  unfold fc addP sw
  by_cases x1:x=a
  ·
   rw [if_pos x1,if_pos x1]
   show turnN b 3=turnN (μ b) 3
   rw [fb]
  by_cases x2:x=b
  ·
   rw [if_neg x1,if_pos x2,if_neg x1,if_pos x2]
   show turnN a 3=turnN (μ a) 3
   rw [fa]
  · rw [if_neg x1,if_neg x2,if_neg x1,if_neg x2]
 have hF:cls (4*n) (adjF n (addP μ a b))=cls (4*n) (adjI (4*n) (sw (fc μ) a b)):=by
  rw [←hf]; rfl
 have hF0:cls (4*n) (adjF n μ)=cls (4*n) (adjI (4*n) (fc μ)):=rfl
 obtain ⟨f1,f2⟩:=cls_sw h.pi ha hb hab
 have hP: ∀x y,Cn (adjP n (addP μ a b)) x y↔Cn (orAdj (adjP n μ) (a/ 4) (b/ 4)) x y:=by
  intro x y
  constructor
  ·
   refine fun hc=>Cn.map (f:=id) (fun x y hxy=>?_) hc
   show Cn _ x y
   obtain ⟨h1,h2,s,hs,h3⟩:=hxy
   unfold addP at h3
   by_cases s1:4*x+s=a
   ·
    rw [if_pos s1] at h3
    exact Cn.one (.inr (.inl ⟨by omega,h3.symm⟩))
   by_cases s2:4*x+s=b
   ·
    rw [if_neg s1,if_pos s2] at h3
    exact Cn.one (.inr (.inr ⟨by omega,h3.symm⟩))
   ·
    rw [if_neg s1,if_neg s2] at h3
    exact Cn.one (.inl ⟨h1,h2,s,hs,h3⟩)
  ·
   have hp:adjP n (addP μ a b) (a/ 4) (b/ 4):=⟨by omega,by omega,a%4,by omega,by
    rw [show 4*(a/ 4)+a%4=a from by omega]
    unfold addP
    rw [if_pos rfl]⟩
   refine fun hc=>Cn.map (f:=id) (fun x y hxy=>?_) hc
   show Cn _ x y
   rcases hxy with ⟨h1,h2,s,hs,h3⟩ | ⟨rfl,rfl⟩ | ⟨rfl,rfl⟩
   ·
    by_cases s1:4*x+s=a
    ·
     rw [s1,fa] at h3
     have:x=y:=by omega
     rw [this]; exact .refl _
    by_cases s2:4*x+s=b
    ·
     rw [s2,fb] at h3
     have:x=y:=by omega
     rw [this]; exact .refl _
    ·
     refine Cn.one ⟨h1,h2,s,hs,?_⟩
     unfold addP
     rw [if_neg s1,if_neg s2]; exact h3
   · exact Cn.one hp
   · exact Cn.one ((h.add ha hb hab fa fb).symm _ _ hp)
 have hK:cls n (adjP n (addP μ a b))=cls n (orAdj (adjP n μ) (a/ 4) (b/ 4)):=qdn fun x y _ _=>hP x y
 unfold dd
 by_cases hc:Cn (adjP n μ) (a/ 4) (b/ 4)
 ·
  have hK2:cls n (orAdj (adjP n μ) (a/ 4) (b/ 4))=cls n (adjP n μ):=qdn fun x y _ _=>⟨fun q=>Cn.map (f:=id) (fun x y hxy=>by
   show Cn _ x y
   rcases hxy with hxy | ⟨rfl,rfl⟩ | ⟨rfl,rfl⟩
   · exact Cn.one hxy
   · exact hc
   · exact hc.symm h.symm) q,fun q=>Cn.map (f:=id) (fun x y hxy=>Cn.one (.inl hxy)) q⟩
  by_cases hfc:Cn (adjI (4*n) (fc μ)) a b
  ·
   have:=f2 hfc
   left; omega
  ·
   have:=f1 hfc
   right; exact ⟨hc,hfc⟩
 ·
  have hj:=cls_join h.symm (show a/ 4<n by omega) (show b/ 4<n by omega) hc
  have:=f1 (fun hfc=>hc (face_part h hfc))
  left; omega
theorem dd_flat {n:Nat} {μ:Nat→Nat} (h:IV n μ) (hP:Parts n μ) {ν:Nat→Nat} (hν:IV n ν) (hle: ∀x,x<4*n→ν x=x∨ν x=μ x) {a:Nat} (ha:a<4*n) (hab:a≠μ a) (fa:ν a=a) (fb:ν (μ a)=μ a):dd n (addP ν a (μ a))=dd n ν:=by
 have hb:=h.lt a ha
 rcases dd_add' hν ha hb hab fa fb with q | ⟨hc,hfc⟩
 · exact q
 exfalso
 obtain ⟨T,t1,t2,t3⟩:=way_set hν hc
 have hf:fc (addP ν a (μ a))=sw (fc ν) a (μ a):=by
  funext x
  unfold fc addP sw
  by_cases x1:x=a
  ·
   rw [if_pos x1,if_pos x1]
   show turnN (μ a) 3=turnN (ν (μ a)) 3
   rw [fb]
  by_cases x2:x=μ a
  ·
   rw [if_neg x1,if_pos x2,if_neg x1,if_pos x2]
   show turnN a 3=turnN (ν a) 3
   rw [fa]
  · rw [if_neg x1,if_neg x2,if_neg x1,if_neg x2]
 -- a and its mate are joined by the new faces
 have hj:Cn (adjI (4*n) (fc (addP ν a (μ a)))) a (μ a):=by
  rw [hf]
  exact (cn_sw hν.pi ha hb hfc a (μ a)).2 (Cn.one (.inr (.inl ⟨rfl,rfl⟩)))
 have hia:μ (μ a)=a:=h.inv a ha
 have ha0:T a=false:=by
  cases e:T a with
  | false=>rfl
  | true=>exact absurd fa (t2 a ha e)
 have hb0:T (μ a)=false:=by
  cases e:T (μ a) with
  | false=>rfl
  | true=>exact absurd fb (t2 _ hb e)
 obtain ⟨κ,k1,k2⟩:=hP (fun z=>(T z^^decide (z=a))^^decide (z=μ a)) (fun x hx=>by
  have e1:decide (μ x=a)=decide (x=μ a):=decide_eq_decide.2 ⟨fun e=>by rw [←e,h.inv x hx],fun e=>by rw [e,hia]⟩
  have e2:decide (μ x=μ a)=decide (x=a):=decide_eq_decide.2 ⟨fun e=>by rw [←h.inv x hx,e,hia],fun e=>by rw [e]⟩
  have e3:T (μ x)=T x:=by
   rcases hle x hx with q | q
   ·
    have h1:T x=false:=by
     cases e:T x with
     | false=>rfl
     | true=>exact absurd q (t2 x hx e)
    have h2:T (μ x)=false:=by
     cases e:T (μ x) with
     | false=>rfl
     | true=>
      have h3:=t2 _ (h.lt x hx) e
      rcases hle _ (h.lt x hx) with q2 | q2
      · exact absurd q2 h3
      ·
       rw [h.inv x hx] at q2
       have h4:=hν.inv _ (h.lt x hx)
       rw [q2,q] at h4
       exact absurd (q2.trans h4) h3
    rw [h1,h2]
   · rw [←q,t1 x hx]
  rw [e1,e2,e3]
  cases T x<;>cases decide (x=a)<;>cases decide (x=μ a)<;>rfl) (fun c hcn=>by
  rw [par_flip (fun z=>T z^^decide (z=a)) (μ a) c,par_flip T a c,t3 c hcn]
  cases decide (a/ 4=c)<;>cases decide (μ a/ 4=c)<;>rfl)
 -- the corners of the new faces keep their side
 have hinv: ∀x,x<4*n→κ (fc (addP ν a (μ a)) x)=κ x:=by
  intro x hx
  by_cases x1:x=a
  ·
   have:fc (addP ν a (μ a)) x=fc μ x:=by unfold fc addP; rw [if_pos x1,x1]
   rw [this,k1 x hx]
  by_cases x2:x=μ a
  ·
   have:fc (addP ν a (μ a)) x=fc μ x:=by unfold fc addP; rw [if_neg x1,if_pos x2,x2,hia]
   rw [this,k1 x hx]
  rcases hle x hx with q | q
  ·
   have:fc (addP ν a (μ a)) x=turnN x 3:=by unfold fc addP; rw [if_neg x1,if_neg x2,q]
   rw [this]
   have h1:T x=false:=by
    cases e:T x with
    | false=>rfl
    | true=>exact absurd q (t2 x hx e)
   have h2:=k2 x hx
   rw [h1,dF x1,dF x2] at h2
   revert h2
   cases κ x<;>cases κ (turnN x 3)<;>decide
  ·
   have:fc (addP ν a (μ a)) x=fc μ x:=by unfold fc addP; rw [if_neg x1,if_neg x2,q]
   rw [this,k1 x hx]
 have hsame:κ a=κ (μ a):=by
  have: ∀y,Cn (adjI (4*n) (fc (addP ν a (μ a)))) a y→κ a=κ y:=by
   intro y hy
   refine Cn.closed (S:=fun y=>κ a=κ y) (fun u v hu ⟨h1,h2,h3⟩=>?_) hy rfl
   rcases h3 with h3 | h3
   · rw [h3,hinv u h1]; exact hu
   · rw [h3,hinv v h2] at hu; exact hu
  exact this _ hj
 have h1:=k2 a ha
 have h2:=k1 _ hb
 have h3:fc μ (μ a)=turnN a 3:=by unfold fc; rw [hia]
 rw [h3] at h2
 rw [ha0,dT rfl,dF hab,h2,hsame] at h1
 revert h1
 cases κ (μ a)<;>decide
theorem dd_same {n:Nat} {μ:Nat→Nat} (h:IV n μ) (hP:Parts n μ): ∀(k:Nat) (ν:Nat→Nat),IV n ν→4*n-mvd n ν≤k→(∀x,x<4*n→ν x=x∨ν x=μ x)→dd n μ=dd n ν:=by
 intro k
 induction k with
 | zero=>
  intro ν hν hk hle
  have hc:=cnt_le (4*n) (fun x=>ν x≠x)
  have hall: ∀x,x<4*n→ν x≠x:=by
   intro x hx e
   have:=cnt_one (N:=4*n) (p:=fun x=>ν x≠x) hx (fun q=>q e)
   have h2:=cnt_le (4*n) (fun h=>h=x∨ν h≠h)
   unfold mvd at hk
   omega
  have e: ∀x,x<4*n→ν x=μ x:=fun x hx=>by
   rcases hle x hx with q | q
   · exact absurd q (hall x hx)
   · exact q
  have e1:cls n (adjP n μ)=cls n (adjP n ν):=qdn fun x y _ _=>by
   have:adjP n μ=adjP n ν:=by
    funext c d
    refine propext ⟨fun ⟨h1,h2,s,hs,h3⟩=>⟨h1,h2,s,hs,by rw [e _ (by omega)]; exact h3⟩,fun ⟨h1,h2,s,hs,h3⟩=>⟨h1,h2,s,hs,by rw [←e _ (by omega)]; exact h3⟩⟩
   rw [this]
  have e2:cls (4*n) (adjF n μ)=cls (4*n) (adjF n ν):=qdn fun x y _ _=>by
   have:adjF n μ=adjF n ν:=by
    funext c d
    unfold adjF fc
    refine propext ⟨fun ⟨h1,h2,h3⟩=>⟨h1,h2,by rw [e c h1,e d h2]; exact h3⟩,fun ⟨h1,h2,h3⟩=>⟨h1,h2,by rw [←e c h1,←e d h2]; exact h3⟩⟩
   rw [this]
  have e3:mvd n μ=mvd n ν:=qcx fun x hx=>by rw [e x hx]
  unfold dd
  rw [e1,e2,e3]
 | succ k ih=>
  intro ν hν hk hle
  by_cases hex: ∃x,x<4*n∧ν x≠μ x
  ·
   obtain ⟨a,ha,hne⟩:=hex
   have fa:ν a=a:=by
    rcases hle a ha with q | q
    · exact q
    · exact absurd q hne
   have hb:=h.lt a ha
   have hab:a≠μ a:=fun e=>hne (by rw [fa]; exact e)
   have fb:ν (μ a)=μ a:=by
    rcases hle _ hb with q | q
    · exact q
    ·
     rw [h.inv a ha] at q
     exact absurd (by rw [←hν.inv _ hb,q,fa]) hab
   have hI:=hν.add ha hb hab fa fb
   have hm:mvd n ν+2≤mvd n (addP ν a (μ a)):=by
    have:=dd_add hν ha hb hab fa fb
    unfold mvd
    have c1:=cnt_one (N:=4*n) (p:=fun x=>ν x≠x) ha (fun q=>q fa)
    have c2:=cnt_one (N:=4*n) (p:=fun h=>h=a∨ν h≠h) hb (by rintro (e | e); exact hab e.symm; exact e fb)
    have:cnt (4*n) (fun h=>h=μ a∨h=a∨ν h≠h)=cnt (4*n) (fun x=>addP ν a (μ a) x≠x):=by
     refine qcx fun k hk=>?_
     unfold addP
     by_cases k1:k=a
     · subst k1; rw [if_pos rfl]; exact ⟨fun _ e=>hab e.symm,fun _=>.inr (.inl rfl)⟩
     by_cases k2:k=μ a
     · subst k2; rw [if_neg k1,if_pos rfl]; exact ⟨fun _ e=>hab e,fun _=>.inl rfl⟩
     ·
      rw [if_neg k1,if_neg k2]
      exact ⟨fun e=>by rcases e with e | e | e; exact absurd e k2; exact absurd e k1; exact e,fun e=>.inr (.inr e)⟩
    omega
   have hj:=ih (addP ν a (μ a)) hI (by omega) (fun x hx=>by
    unfold addP
    by_cases x1:x=a
    · right; rw [if_pos x1,x1]
    by_cases x2:x=μ a
    · right; rw [if_neg x1,if_pos x2,x2,h.inv a ha]
    · rw [if_neg x1,if_neg x2]; exact hle x hx)
   rw [hj,dd_flat h hP hν hle ha hab fa fb]
  ·
   have e: ∀x,x<4*n→ν x=μ x:=fun x hx=>Classical.byContradiction fun q=>hex ⟨x,hx,q⟩
   have e1:cls n (adjP n μ)=cls n (adjP n ν):=qdn fun x y _ _=>by
    have:adjP n μ=adjP n ν:=by
     funext c d
     refine propext ⟨fun ⟨h1,h2,s,hs,h3⟩=>⟨h1,h2,s,hs,by rw [e _ (by omega)]; exact h3⟩,fun ⟨h1,h2,s,hs,h3⟩=>⟨h1,h2,s,hs,by rw [←e _ (by omega)]; exact h3⟩⟩
    rw [this]
   have e2:cls (4*n) (adjF n μ)=cls (4*n) (adjF n ν):=qdn fun x y _ _=>by
    have:adjF n μ=adjF n ν:=by
     funext c d
     unfold adjF fc
     refine propext ⟨fun ⟨h1,h2,h3⟩=>⟨h1,h2,by rw [e c h1,e d h2]; exact h3⟩,fun ⟨h1,h2,h3⟩=>⟨h1,h2,by rw [←e c h1,←e d h2]; exact h3⟩⟩
    rw [this]
   have e3:mvd n μ=mvd n ν:=qcx fun x hx=>by rw [e x hx]
   unfold dd
   rw [e1,e2,e3]
theorem planar {n:Nat} {M:List Int} {μ:Nat→Nat} (hM:MT (4*n) M μ) (hP:Parts n μ):gen2 n μ=0:=by
 have h0:IV n (fun h=>h):=⟨fun h hh=>hh,fun h _=>rfl⟩
 have h1:=dd_same hM.iv hP (4*n) (fun h=>h) h0 (by omega) (fun x _=>.inl rfl)
 rw [dd_id,dd_full hM] at h1
 omega
end Pg
end Go.Proofs.Yticemffhlapnnaa

set_option linter.all false
namespace Go.Proofs.Yticemffhlapnnaa
open Ev
namespace Gl
open Gar Pg
def Ch {β α:Type} (In Out:β→α):α→List β→α→Prop
 | x,[],y=>x=y
 | x,v::l,y=>x=In v∧Ch In Out (Out v) l y
section
variable {β α : Type} {In Out : β → α}
theorem Ch.app: ∀{l1 l2:List β} {x y z:α},Ch In Out x l1 y→Ch In Out y l2 z→Ch In Out x (l1++l2) z
 | [],_,x,y,z,h1,h2=>by
  have e:x=y:=h1
  rw [e]; exact h2
 | v::l,l2,x,y,z,h1,h2=>⟨h1.1,Ch.app h1.2 h2⟩
theorem Ch.split: ∀{l1 l2:List β} {x z:α},Ch In Out x (l1++l2) z→∃y,Ch In Out x l1 y∧Ch In Out y l2 z
 | [],l2,x,z,h=>⟨x,rfl,h⟩
 | v::l,l2,x,z,h=>by
  obtain ⟨y,h1,h2⟩:=Ch.split (l1:=l) h.2
  exact ⟨y,⟨h.1,h1⟩,h2⟩
theorem Ch.uniq: ∀{l:List β} {x y z:α},Ch In Out x l y→Ch In Out x l z→y=z
 | [],x,y,z,h1,h2=>(show x=y from h1).symm.trans h2
 | v::l,x,y,z,h1,h2=>Ch.uniq h1.2 h2.2
theorem Ch.map {γ:Type} {f:γ→β}: ∀{l:List γ} {x y:α},Ch In Out x (l.map f) y↔Ch (fun r=>In (f r)) (fun r=>Out (f r)) x l y
 | [],x,y=>Iff.rfl
 | v::l,x,y=>and_congr Iff.rfl Ch.map
theorem Ch.next: ∀{l:List β} {x y:α},Ch In Out x l y→∀k u v,l[k]? =some u→l[k+1]? =some v→Out u=In v
 | [],x,y,h,k,u,v,h1,h2=>by simp at h1
 | [a],x,y,h,k,u,v,h1,h2=>by simp at h2
 | a::b::l,x,y,h,k,u,v,h1,h2=>by
  cases k with
  | zero=>
   simp at h1 h2
   subst h1 h2
   exact h.2.1
  | succ k=>exact Ch.next (l:=b::l) h.2 k u v (by simpa using h1) (by simpa using h2)
theorem Ch.first: ∀{l:List β} {x y:α},Ch In Out x l y→∀u,l[0]? =some u→x=In u
 | [],x,y,h,u,h1=>by simp at h1
 | a::l,x,y,h,u,h1=>by simp at h1; subst h1; exact h.1
theorem Ch.last: ∀{l:List β} {x y:α},Ch In Out x l y→∀u,l[l.length-1]? =some u→Out u=y
 | [],x,y,h,u,h1=>by simp at h1
 | [a],x,y,h,u,h1=>by
  simp at h1; subst h1
  exact h.2
 | a::b::l,x,y,h,u,h1=>Ch.last (l:=b::l) h.2 u (by simpa using h1)
theorem Ch.ring {l:List β} {x:α} (h:Ch In Out x l x) {k:Nat} (hk:k<l.length) {u v:β} (hu:l[k]? =some u) (hv:l[(k+1)%l.length]? =some v):Out u=In v:=by
 rcases Nat.lt_or_ge (k+1) l.length with q | q
 ·
  rw [Nat.mod_eq_of_lt q] at hv
  exact h.next k u v hu hv
 ·
  have:k=l.length-1:=by omega
  rw [show k+1=l.length by omega,Nat.mod_self] at hv
  rw [this] at hu
  exact (h.last u hu).trans (h.first v hv)
theorem Ch.of_next: ∀{l:List β} {x y:α},l≠[]→(∀u,l[0]? =some u→x=In u)→(∀k u v,l[k]? =some u→l[k+1]? =some v→Out u=In v)→(∀u,l[l.length-1]? =some u→Out u=y)→Ch In Out x l y
 | [],x,y,h,_,_,_=>absurd rfl h
 | [a],x,y,h,h1,h2,h3=>⟨h1 a rfl,h3 a rfl⟩
 | a::b::l,x,y,h,h1,h2,h3=>by
  refine ⟨h1 a rfl,Ch.of_next (l:=b::l) (by simp) (fun u hu=>h2 0 a u rfl (by simpa using hu)) (fun k u v hu hv=>h2 (k+1) u v (by simpa using hu) (by simpa using hv)) (fun u hu=>h3 u ?_)⟩
  simpa using hu
theorem Ch.of_ring {l:List β} (hl:l≠[]) (h: ∀k u v,k<l.length→l[k]? =some u→l[(k+1)%l.length]? =some v→Out u=In v): ∃x,Ch In Out x l x:=by
 have hp:0<l.length:=List.length_pos_iff.2 hl
 refine ⟨In l[0],Ch.of_next hl (fun u hu=>?_) (fun k u v hu hv=>?_) (fun u hu=>?_)⟩
 ·
  rw [gE hp] at hu
  rw [Option.some.inj hu]
 ·
  have hk:=(List.getElem?_eq_some_iff.1 hv).1
  exact h k u v (by omega) hu (by rw [Nat.mod_eq_of_lt hk]; exact hv)
 · exact h (l.length-1) u _ (by omega) hu (by rw [show l.length-1+1=l.length by omega,Nat.mod_self]; exact gE hp)
theorem Ch.vals {P:Nat→List β}: ∀{v:List Nat} {x z:α},v.Nodup→v≠[]→Ch In Out x (v.flatMap P) z→∃a:Nat→α,(∀c,v[0]? =some c→a c=x)∧(∀k c d,v[k]? =some c→v[k+1]? =some d→Ch In Out (a c) (P c) (a d))∧(∀c,v[v.length-1]? =some c→Ch In Out (a c) (P c) z)
 | [],x,z,_,h,_=>absurd rfl h
 | [c],x,z,_,_,h=>by
  rw [List.flatMap_cons,List.flatMap_nil,List.append_nil] at h
  refine ⟨fun _=>x,fun _ _=>rfl,fun k c d _ h2=>by simp at h2,fun d hd=>?_⟩
  simp at hd; subst hd; exact h
 | c::d::v,x,z,hn,_,h=>by
  rw [List.flatMap_cons] at h
  obtain ⟨y,h1,h2⟩:=Ch.split h
  obtain ⟨hc,hn'⟩:=List.nodup_cons.1 hn
  obtain ⟨a,a1,a2,a3⟩:=Ch.vals hn' (by simp) h2
  have hne: ∀k e,(d::v)[k]? =some e→e≠c:=fun k e he q=>hc (q▸List.mem_of_getElem? he)
  refine ⟨fun e=>if e=c then x else a e,fun e he=>?_,fun k e f he hf=>?_,fun e he=>?_⟩
  · simp at he; subst he; exact if_pos rfl
  ·
   cases k with
   | zero=>
    simp at he hf
    subst he hf
    dsimp only
    rw [if_pos rfl,if_neg (hne 0 d rfl),a1 d rfl]
    exact h1
   | succ k=>
    rw [List.getElem?_cons_succ] at he hf
    dsimp only
    rw [if_neg (hne _ _ he),if_neg (hne _ _ hf)]
    exact a2 k e f he hf
  ·
   have he':(d::v)[(d::v).length-1]? =some e:=by simpa using he
   dsimp only
   rw [if_neg (hne _ _ he')]
   exact a3 e he'
end
section
variable {α : Type} {In Out : Nat → α} {p q : Nat} {P : Nat → Bool}
theorem seg_take (hpq:p≠q) (t:Nat) (ht:t+1≤max p q-min p q): ∃l,seg p q=segk p q (t+1)++l:=by
 refine ⟨(seg p q).drop (t+1),?_⟩
 have:segk p q (t+1)=(seg p q).take (t+1):=by
  unfold seg segk
  rw [←List.map_take,List.take_range,Nat.min_eq_left ht]
 rw [this,List.take_append_drop]
theorem seg_ch (hpq:p≠q) (Q:Nat→α) (hP: ∀r,P r=true→min p q<r∧r<max p q)
  (h0: ∀r,min p q<r→r<max p q→P r=false→Q r=Q (r+1))
  (h1: ∀r,P r=true→(p<q→In r=Q r∧Out r=Q (r+1))∧(q<p→In r=Q (r+1)∧Out r=Q r)):
  Ch In Out (Q (if p<q then p+1 else p)) ((seg p q).filter P) (Q (if p<q then q else q+1)):=by
 have hf: ∀r,¬(min p q<r∧r<max p q)→P r=false:=fun r h=>by
  cases e:P r with
  | false=>rfl
  | true=>exact absurd (hP r e) h
 have key: ∀t,t+1≤max p q-min p q→Ch In Out (Q (if p<q then p+1 else p)) ((segk p q (t+1)).filter P) (Q (if p<q then p+t+1 else p-t)):=by
  intro t
  induction t with
  | zero=>
   intro _
   have:(segk p q 1).filter P=[]:=by
    rw [List.filter_eq_nil_iff]
    intro r hr
    have:r=p:=by simpa [segk] using hr
    rw [this,hf p (by omega)]; decide
   rw [this]
   rfl
  | succ t ih=>
   intro ht
   rw [segk_succ,List.filter_append]
   refine (ih (by omega)).app ?_
   generalize hr:(if p<q then p+(t+1) else p-(t+1))=r
   have hr2:min p q<r∧r<max p q:=by
    rw [←hr]; split<;>omega
   cases e:P r with
   | false=>
    have:[r].filter P=[]:=by simp [e]
    rw [this]
    show Q _=Q _
    have:=h0 r hr2.1 hr2.2 e
    by_cases h:p<q
    ·
     rw [if_pos h] at hr
     rw [if_pos h,if_pos h,show p+t+1=r by omega,show p+(t+1)+1=r+1 by omega,this]
    ·
     rw [if_neg h] at hr
     rw [if_neg h,if_neg h,show p-t=r+1 by omega,show p-(t+1)=r by omega,this]
   | true=>
    have:[r].filter P=[r]:=by simp [e]
    rw [this]
    obtain ⟨k1,k2⟩:=h1 r e
    by_cases h:p<q
    ·
     rw [if_pos h] at hr
     rw [if_pos h,if_pos h,show p+t+1=r by omega,show p+(t+1)+1=r+1 by omega]
     exact ⟨(k1 h).1.symm,(k1 h).2⟩
    ·
     rw [if_neg h] at hr
     rw [if_neg h,if_neg h,show p-t=r+1 by omega,show p-(t+1)=r by omega]
     have h':q<p:=by omega
     exact ⟨(k2 h').1.symm,(k2 h').2⟩
 have:=key (max p q-min p q-1) (by omega)
 rw [show max p q-min p q-1+1=max p q-min p q by omega] at this
 have e:(if p<q then p+(max p q-min p q-1)+1 else p-(max p q-min p q-1))=if p<q then q else q+1:=by
  by_cases h:p<q
  · rw [if_pos h,if_pos h]; omega
  · rw [if_neg h,if_neg h]; omega
 rw [e] at this
 exact this
theorem seg_val (hpq:p≠q) (hP: ∀r,P r=true→min p q<r∧r<max p q) {s e:α} (h:Ch In Out s ((seg p q).filter P) e):
  ∃u:Nat→α,(∀r,min p q<r→r<max p q→P r=false→u r=u (r+1))∧(∀r,P r=true→(p<q→In r=u r∧Out r=u (r+1))∧(q<p→In r=u (r+1)∧Out r=u r))∧
   u (if p<q then p+1 else p)=s∧u (if p<q then q else q+1)=e:=by
 have hf: ∀r,¬(min p q<r∧r<max p q)→P r=false:=fun r h=>by
  cases e:P r with
  | false=>rfl
  | true=>exact absurd (hP r e) h
 have hU: ∀t,∃y,t+1≤max p q-min p q→Ch In Out s ((segk p q (t+1)).filter P) y:=by
  intro t
  by_cases ht:t+1≤max p q-min p q
  ·
   obtain ⟨l,hl⟩:=seg_take hpq t ht
   rw [hl,List.filter_append] at h
   obtain ⟨y,h1,_⟩:=h.split
   exact ⟨y,fun _=>h1⟩
  · exact ⟨s,fun q=>absurd q ht⟩
 obtain ⟨U,hU⟩:=Classical.skolem.1 hU
 have hU0:U 0=s:=by
  have h1:=hU 0 (by omega)
  have:(segk p q 1).filter P=[]:=by
   rw [List.filter_eq_nil_iff]
   intro r hr
   have:r=p:=by simpa [segk] using hr
   rw [this,hf p (by omega)]; decide
  rw [this] at h1
  exact (show s=U 0 from h1).symm
 have hUe:U (max p q-min p q-1)=e:=by
  have h1:=hU (max p q-min p q-1) (by omega)
  rw [show max p q-min p q-1+1=max p q-min p q by omega] at h1
  exact h1.uniq h
 have hst: ∀t,t+2≤max p q-min p q→(P (if p<q then p+(t+1) else p-(t+1))=false→U t=U (t+1))∧(P (if p<q then p+(t+1) else p-(t+1))=true→U t=In (if p<q then p+(t+1) else p-(t+1))∧Out (if p<q then p+(t+1) else p-(t+1))=U (t+1)):=by
  intro t ht
  have h1:=hU t (by omega)
  have h2:=hU (t+1) (by omega)
  rw [segk_succ,List.filter_append] at h2
  obtain ⟨y,h3,h4⟩:=h2.split
  have:=h3.uniq h1
  subst this
  refine ⟨fun hp=>?_,fun hp=>?_⟩
  ·
   have:[if p<q then p+(t+1) else p-(t+1)].filter P=[]:=by simp [hp]
   rw [this] at h4
   exact h4
  ·
   have:[if p<q then p+(t+1) else p-(t+1)].filter P=[if p<q then p+(t+1) else p-(t+1)]:=by simp [hp]
   rw [this] at h4
   exact ⟨h4.1,h4.2⟩
 refine ⟨fun Y=>if p<q then U (Y-1-p) else U (p-Y),fun r r1 r2 hp=>?_,fun r hp=>⟨fun hlt=>?_,fun hlt=>?_⟩,?_,?_⟩
 ·
  dsimp only
  by_cases hlt:p<q
  ·
   have:=(hst (r-1-p) (by omega)).1
   rw [if_pos hlt,show p+(r-1-p+1)=r by omega,show r-1-p+1=r-p by omega] at this
   rw [if_pos hlt,if_pos hlt,show r+1-1-p=r-p by omega]
   exact this hp
  ·
   have:=(hst (p-(r+1)) (by omega)).1
   rw [if_neg hlt,show p-(p-(r+1)+1)=r by omega,show p-(r+1)+1=p-r by omega] at this
   rw [if_neg hlt,if_neg hlt]
   exact (this hp).symm
 ·
  obtain ⟨r1,r2⟩:=hP r hp
  have:=(hst (r-1-p) (by omega)).2
  rw [if_pos hlt,show p+(r-1-p+1)=r by omega,show r-1-p+1=r-p by omega] at this
  dsimp only
  rw [if_pos hlt,if_pos hlt,show r+1-1-p=r-p by omega]
  exact ⟨(this hp).1.symm,(this hp).2⟩
 ·
  obtain ⟨r1,r2⟩:=hP r hp
  have hn: ¬p<q:=by omega
  have:=(hst (p-(r+1)) (by omega)).2
  rw [if_neg hn,show p-(p-(r+1)+1)=r by omega,show p-(r+1)+1=p-r by omega] at this
  dsimp only
  rw [if_neg hn,if_neg hn]
  exact ⟨(this hp).1.symm,(this hp).2⟩
 ·
  dsimp only
  by_cases hlt:p<q
  · rw [if_pos hlt,if_pos hlt,show p+1-1-p=0 by omega,hU0]
  · rw [if_neg hlt,if_neg hlt,show p-p=0 by omega,hU0]
 ·
  dsimp only
  by_cases hlt:p<q
  · rw [if_pos hlt,if_pos hlt,show q-1-p=max p q-min p q-1 by omega,hUe]
  · rw [if_neg hlt,if_neg hlt,show p-(q+1)=max p q-min p q-1 by omega,hUe]
end
open Gar Pg
def cel (hh:Nat→Nat→Bool) (X:Nat):Nat→Bool
 | 0=>false
 | Y+1=>(cel hh X Y^^hh X Y)
structure Lat (n:Nat) (x o cx co:Nat→Nat) (vv hh:Nat→Nat→Bool):Prop where
 v0: ∀i Y,i<n→¬(min (x i) (o i)<Y∧Y≤max (x i) (o i))→vv i Y=false
 h0: ∀X j,j<n→¬(min (co j) (cx j)<X∧X≤max (co j) (cx j))→hh X j=false
 ev: ∀i j,i<n→j<n→((vv i j^^vv i (j+1))^^(hh i j^^hh (i+1) j))=false
section
variable {n : Nat} {x o cx co : Nat → Nat} {vv hh : Nat → Nat → Bool} (L : Lat n x o cx co vv hh)
include L
omit L in
theorem Lat.up (L:Lat n x o cx co vv hh) (X Y:Nat):cel hh X (Y+1)=(cel hh X Y^^hh X Y):=rfl
theorem Lat.right {i:Nat} (hi:i<n): ∀Y,Y≤n→cel hh (i+1) Y=(cel hh i Y^^vv i Y)
 | 0,_=>by
  rw [L.v0 i 0 hi (by omega)]
  rfl
 | Y+1,hY=>by
  have h1:=Lat.right hi Y (by omega)
  have h2:=L.ev i Y hi (by omega)
  show (cel hh (i+1) Y^^hh (i+1) Y)=((cel hh i Y^^hh i Y)^^vv i (Y+1))
  rw [h1]
  revert h2
  cases cel hh i Y<;>cases vv i Y<;>cases vv i (Y+1)<;>cases hh i Y<;>cases hh (i+1) Y<;>decide
end
section
variable {n : Nat} {x o cx co : Nat → Nat} (g : Gd n x o cx co)
include g
theorem Gd.no_row {i j:Nat} (hi:i<n) (h1:min (x i) (o i)<j) (h2:j<max (x i) (o i)) (hc:cr x o cx co i j=false) {vv hh:Nat→Nat→Bool} (L:Lat n x o cx co vv hh):hh i j=false∧hh (i+1) j=false:=by
 have hx:=g.xl hi
 have ho:=g.ol hi
 have e1:cx j≠i:=fun e=>by have:=g.px.fg j; rw [e] at this; omega
 have e2:co j≠i:=fun e=>by have:=g.po.fg j; rw [e] at this; omega
 have hn: ¬(min (cx j) (co j)<i∧i<max (cx j) (co j)):=fun h=>by
  unfold cr at hc
  rw [dT h1,dT h2,dT h.1,dT h.2] at hc
  cases hc
 exact ⟨L.h0 i j (by omega) (by omega),L.h0 (i+1) j (by omega) (by omega)⟩
theorem Gd.no_col {i j:Nat} (hj:j<n) (h1:min (co j) (cx j)<i) (h2:i<max (co j) (cx j)) (hc:cr x o cx co i j=false) {vv hh:Nat→Nat→Bool} (L:Lat n x o cx co vv hh):vv i j=false∧vv i (j+1)=false:=by
 have hx:=g.cxl hj
 have ho:=g.col hj
 have e1:x i≠j:=fun e=>by have:=g.px.gf i; rw [e] at this; omega
 have e2:o i≠j:=fun e=>by have:=g.po.gf i; rw [e] at this; omega
 have hn: ¬(min (x i) (o i)<j∧j<max (x i) (o i)):=fun h=>by
  unfold cr at hc
  rw [dT h.1,dT h.2,dT (show min (cx j) (co j)<i by omega),dT (show i<max (cx j) (co j) by omega)] at hc
  cases hc
 exact ⟨L.v0 i j (by omega) (by omega),L.v0 i (j+1) (by omega) (by omega)⟩
end
def qC (x o:Nat→Nat) (hh:Nat→Nat→Bool) (i Y:Nat):Bool×Bool:=if x i<o i then (cel hh i Y,cel hh (i+1) Y) else (cel hh (i+1) Y,cel hh i Y)
def qR (cx co:Nat→Nat) (hh:Nat→Nat→Bool) (j X:Nat):Bool×Bool:=if co j<cx j then (cel hh X (j+1),cel hh X j) else (cel hh X j,cel hh X (j+1))
def kap (L:List (Nat×Nat)) (cx co:Nat→Nat) (hh:Nat→Nat→Bool) (h:Nat):Bool:=
 let p:=L.getD (h/ 4) (0,0)
 let s:=if co p.2<cx p.2 then h%4 else (h%4+2)%4
 if s=0 then cel hh p.1 p.2 else if s=1 then cel hh (p.1+1) p.2 else if s=2 then cel hh (p.1+1) (p.2+1) else cel hh p.1 (p.2+1)
def slot (cx co:Nat→Nat) (j d:Nat):Nat:=if co j<cx j then d else (d+2)%4
section
variable {n : Nat} {x o cx co : Nat → Nat} (g : Gd n x o cx co)
include g
omit g in
theorem Gd.over_in (g:Gd n x o cx co) {i j:Nat} (hi:i<n) (hj:j<n) (h:cr x o cx co i j=true):
  inH (sgl n x o cx co) (vov (crl n x o cx co) (i,j))=4*num (crl n x o cx co) (i,j)+slot cx co j (if x i<o i then 1 else 3)∧outH (sgl n x o cx co) (vov (crl n x o cx co) (i,j))=4*num (crl n x o cx co) (i,j)+slot cx co j (if x i<o i then 3 else 1):=by
 have hs:=sgl_at (qej.2 ⟨hi,hj,h⟩)
 unfold vov inH outH slot
 dsimp only
 rw [Int.toNat_natCast,hs]
 unfold sgn
 dsimp only
 by_cases h1:x i<o i
 ·
  by_cases h2:co j<cx j
  · rw [dT h1,dT h2,if_pos h1,if_pos h1,if_pos h2,if_pos h2]; exact ⟨rfl,rfl⟩
  · rw [dT h1,dF h2,if_pos h1,if_pos h1,if_neg h2,if_neg h2]; exact ⟨rfl,rfl⟩
 ·
  by_cases h2:co j<cx j
  · rw [dF h1,dT h2,if_neg h1,if_neg h1,if_pos h2,if_pos h2]; exact ⟨rfl,rfl⟩
  · rw [dF h1,dF h2,if_neg h1,if_neg h1,if_neg h2,if_neg h2]; exact ⟨rfl,rfl⟩
omit g in
theorem Gd.under_in (g:Gd n x o cx co) (i j:Nat):inH (sgl n x o cx co) (vun (crl n x o cx co) (i,j))=4*num (crl n x o cx co) (i,j)+slot cx co j (if co j<cx j then 0 else 2)∧outH (sgl n x o cx co) (vun (crl n x o cx co) (i,j))=4*num (crl n x o cx co) (i,j)+slot cx co j (if co j<cx j then 2 else 0):=by
 unfold vun inH outH slot
 dsimp only
 rw [Int.toNat_natCast]
 by_cases h2:co j<cx j
 · rw [if_pos h2,if_pos h2,if_pos h2,if_pos h2]; exact ⟨rfl,rfl⟩
 · rw [if_neg h2,if_neg h2,if_neg h2,if_neg h2]; exact ⟨rfl,rfl⟩
omit g in
theorem Gd.kap_at (g:Gd n x o cx co) {i j:Nat} (hi:i<n) (hj:j<n) (h:cr x o cx co i j=true) (hh:Nat→Nat→Bool):
  kap (crl n x o cx co) cx co hh (4*num (crl n x o cx co) (i,j)+slot cx co j 0)=cel hh i j∧kap (crl n x o cx co) cx co hh (4*num (crl n x o cx co) (i,j)+slot cx co j 1)=cel hh (i+1) j∧
  kap (crl n x o cx co) cx co hh (4*num (crl n x o cx co) (i,j)+slot cx co j 2)=cel hh (i+1) (j+1)∧kap (crl n x o cx co) cx co hh (4*num (crl n x o cx co) (i,j)+slot cx co j 3)=cel hh i (j+1):=by
 have hp:(crl n x o cx co).getD (num (crl n x o cx co) (i,j)) (0,0)=(i,j):=by
  rw [List.getD_eq_getElem?_getD,at_num (qej.2 ⟨hi,hj,h⟩)]; rfl
 generalize num (crl n x o cx co) (i,j)=c at hp
 have key: ∀d,d<4→kap (crl n x o cx co) cx co hh (4*c+slot cx co j d)=if d=0 then cel hh i j else if d=1 then cel hh (i+1) j else if d=2 then cel hh (i+1) (j+1) else cel hh i (j+1):=by
  intro d hd
  unfold kap slot
  by_cases h2:co j<cx j
  ·
   rw [if_pos h2,show (4*c+d)/ 4=c by omega,hp]
   dsimp only
   rw [if_pos h2,show (4*c+d)%4=d by omega]
  ·
   rw [if_neg h2,show (4*c+(d+2)%4)/ 4=c by omega,hp]
   dsimp only
   rw [if_neg h2,show ((4*c+(d+2)%4)%4+2)%4=d by omega]
 exact ⟨key 0 (by omega),key 1 (by omega),key 2 (by omega),key 3 (by omega)⟩
omit g in
theorem qfp (c j d:Nat) (hd:d<4):turnN (4*c+slot cx co j d) 3=4*c+slot cx co j ((d+3)%4):=by
 unfold turnN slot
 by_cases h2:co j<cx j
 · rw [if_pos h2,if_pos h2]; omega
 · rw [if_neg h2,if_neg h2]; omega
def inK (sg:List Int) (κ:Nat→Bool) (v:Vis):Bool×Bool:=(κ (turnN (inH sg v) 3),κ (inH sg v))
def outK (sg:List Int) (κ:Nat→Bool) (v:Vis):Bool×Bool:=(κ (outH sg v),κ (turnN (outH sg v) 3))
theorem Gd.over_k {i j:Nat} (hi:i<n) (hj:j<n) (h:cr x o cx co i j=true) (hh:Nat→Nat→Bool):
  inK (sgl n x o cx co) (kap (crl n x o cx co) cx co hh) (vov (crl n x o cx co) (i,j))=qC x o hh i (if x i<o i then j else j+1)∧outK (sgl n x o cx co) (kap (crl n x o cx co) cx co hh) (vov (crl n x o cx co) (i,j))=qC x o hh i (if x i<o i then j+1 else j):=by
 obtain ⟨h1,h2⟩:=g.over_in hi hj h
 obtain ⟨k0,k1,k2,k3⟩:=g.kap_at hi hj h hh
 unfold inK outK qC
 rw [h1,h2]
 by_cases hu:x i<o i
 ·
  rw [if_pos hu,if_pos hu,if_pos hu,if_pos hu,if_pos hu,if_pos hu,qfp _ _ _ (by omega),qfp _ _ _ (by omega)]
  simp only [show (1+3)%4=0 from rfl,show (3+3)%4=2 from rfl,k0,k1,k2,k3,and_self]
 ·
  rw [if_neg hu,if_neg hu,if_neg hu,if_neg hu,if_neg hu,if_neg hu,qfp _ _ _ (by omega),qfp _ _ _ (by omega)]
  simp only [show (1+3)%4=0 from rfl,show (3+3)%4=2 from rfl,k0,k1,k2,k3,and_self]
theorem Gd.under_k {i j:Nat} (hi:i<n) (hj:j<n) (h:cr x o cx co i j=true) (hh:Nat→Nat→Bool):
  inK (sgl n x o cx co) (kap (crl n x o cx co) cx co hh) (vun (crl n x o cx co) (i,j))=qR cx co hh j (if co j<cx j then i else i+1)∧outK (sgl n x o cx co) (kap (crl n x o cx co) cx co hh) (vun (crl n x o cx co) (i,j))=qR cx co hh j (if co j<cx j then i+1 else i):=by
 obtain ⟨h1,h2⟩:=g.under_in i j
 obtain ⟨k0,k1,k2,k3⟩:=g.kap_at hi hj h hh
 unfold inK outK qR
 rw [h1,h2]
 by_cases hu:co j<cx j
 ·
  rw [if_pos hu,if_pos hu,if_pos hu,if_pos hu,if_pos hu,if_pos hu,qfp _ _ _ (by omega),qfp _ _ _ (by omega)]
  simp only [show (0+3)%4=3 from rfl,show (2+3)%4=1 from rfl,k0,k1,k2,k3,and_self]
 ·
  rw [if_neg hu,if_neg hu,if_neg hu,if_neg hu,if_neg hu,if_neg hu,qfp _ _ _ (by omega),qfp _ _ _ (by omega)]
  simp only [show (0+3)%4=3 from rfl,show (2+3)%4=1 from rfl,k0,k1,k2,k3,and_self]
theorem Gd.col_ch {i:Nat} (hi:i<n) {vv hh:Nat→Nat→Bool} (L:Lat n x o cx co vv hh):
  Ch (inK (sgl n x o cx co) (kap (crl n x o cx co) cx co hh)) (outK (sgl n x o cx co) (kap (crl n x o cx co) cx co hh)) (qC x o hh i (if x i<o i then x i+1 else x i)) (colV n x o cx co i) (qC x o hh i (if x i<o i then o i else o i+1)):=by
 have hx:=g.xl hi
 have ho:=g.ol hi
 unfold colV
 rw [Ch.map]
 refine seg_ch (g.ne i hi) (qC x o hh i) (fun r h=>g.cr_col h) (fun r r1 r2 hc=>?_) (fun r hc=>?_)
 ·
  obtain ⟨e1,e2⟩:=g.no_row hi r1 r2 hc L
  unfold qC
  rw [L.up i r,L.up (i+1) r,e1,e2,Bool.xor_false,Bool.xor_false]
 ·
  obtain ⟨r1,r2⟩:=g.cr_col hc
  obtain ⟨k1,k2⟩:=g.over_k hi (show r<n by omega) hc hh
  refine ⟨fun h=>?_,fun h=>?_⟩
  · rw [if_pos h] at k1 k2; exact ⟨k1,k2⟩
  · rw [if_neg (by omega)] at k1 k2; exact ⟨k1,k2⟩
theorem Gd.row_ch {j:Nat} (hj:j<n) {vv hh:Nat→Nat→Bool} (L:Lat n x o cx co vv hh):
  Ch (inK (sgl n x o cx co) (kap (crl n x o cx co) cx co hh)) (outK (sgl n x o cx co) (kap (crl n x o cx co) cx co hh)) (qR cx co hh j (if co j<cx j then co j+1 else co j)) (rowV n x o cx co j) (qR cx co hh j (if co j<cx j then cx j else cx j+1)):=by
 have hx:=g.cxl hj
 have ho:=g.col hj
 unfold rowV
 rw [Ch.map]
 refine seg_ch (P:=fun i=>cr x o cx co i j) (fun e=>g.cne hj e.symm) (qR cx co hh j) (fun r h=>g.cr_row h) (fun r r1 r2 hc=>?_) (fun r hc=>?_)
 ·
  obtain ⟨e1,e2⟩:=g.no_col hj r1 r2 hc L
  have hr:r<n:=by omega
  unfold qR
  rw [L.right hr j (by omega),L.right hr (j+1) (by omega),e1,e2,Bool.xor_false,Bool.xor_false]
 ·
  obtain ⟨r1,r2⟩:=g.cr_row hc
  obtain ⟨k1,k2⟩:=g.under_k (show r<n by omega) hj hc hh
  refine ⟨fun h=>?_,fun h=>?_⟩
  · rw [if_pos h] at k1 k2; exact ⟨k1,k2⟩
  · rw [if_neg (by omega)] at k1 k2; exact ⟨k1,k2⟩
theorem Gd.o_turn {c:Nat} (hc:c<n) {vv hh:Nat→Nat→Bool} (L:Lat n x o cx co vv hh):qC x o hh c (if x c<o c then o c else o c+1)=qR cx co hh (o c) (if c<cx (o c) then c+1 else c):=by
 have ho:=g.ol hc
 have hx:=g.xl hc
 have hne:=g.ne c hc
 have hco:co (o c)=c:=g.po.gf c
 have hne2:=g.cne ho
 rw [hco] at hne2
 have r1:=L.right hc (o c) (by omega)
 have r2:=L.right hc (o c+1) (by omega)
 have u1:=L.up c (o c)
 have u2:=L.up (c+1) (o c)
 unfold qC qR
 rw [hco]
 by_cases h1:x c<o c
 ·
  have v1:=L.v0 c (o c+1) hc (by omega)
  rw [v1,Bool.xor_false] at r2
  by_cases h2:c<cx (o c)
  ·
   have w1:=L.h0 c (o c) ho (by rw [hco]; omega)
   rw [w1,Bool.xor_false] at u1
   rw [if_pos h1,if_pos h1,if_pos h2,if_pos h2,r2,u1]
  ·
   have w1:=L.h0 (c+1) (o c) ho (by rw [hco]; omega)
   rw [w1,Bool.xor_false] at u2
   rw [if_pos h1,if_pos h1,if_neg h2,if_neg h2,←r2,u2]
 ·
  have v1:=L.v0 c (o c) hc (by omega)
  rw [v1,Bool.xor_false] at r1
  by_cases h2:c<cx (o c)
  ·
   have w1:=L.h0 c (o c) ho (by rw [hco]; omega)
   rw [w1,Bool.xor_false] at u1
   rw [if_neg h1,if_neg h1,if_pos h2,if_pos h2,r1,u1]
  ·
   have w1:=L.h0 (c+1) (o c) ho (by rw [hco]; omega)
   rw [w1,Bool.xor_false] at u2
   rw [if_neg h1,if_neg h1,if_neg h2,if_neg h2,u2,r1]
theorem Gd.x_turn {c:Nat} (hc:c<n) {vv hh:Nat→Nat→Bool} (L:Lat n x o cx co vv hh):qR cx co hh (x c) (if co (x c)<c then c else c+1)=qC x o hh c (if x c<o c then x c+1 else x c):=by
 have ho:=g.ol hc
 have hx:=g.xl hc
 have hne:=g.ne c hc
 have hco:cx (x c)=c:=g.px.gf c
 have hne2:=g.cne hx
 rw [hco] at hne2
 have r1:=L.right hc (x c) (by omega)
 have r2:=L.right hc (x c+1) (by omega)
 have u1:=L.up c (x c)
 have u2:=L.up (c+1) (x c)
 unfold qC qR
 rw [hco]
 by_cases h1:x c<o c
 ·
  have v1:=L.v0 c (x c) hc (by omega)
  rw [v1,Bool.xor_false] at r1
  by_cases h2:co (x c)<c
  ·
   have w1:=L.h0 (c+1) (x c) hx (by rw [hco]; omega)
   rw [w1,Bool.xor_false] at u2
   rw [if_pos h1,if_pos h1,if_pos h2,if_pos h2,u2,r1]
  ·
   have w1:=L.h0 c (x c) hx (by rw [hco]; omega)
   rw [w1,Bool.xor_false] at u1
   rw [if_pos h1,if_pos h1,if_neg h2,if_neg h2,r1,u1]
 ·
  have v1:=L.v0 c (x c+1) hc (by omega)
  rw [v1,Bool.xor_false] at r2
  by_cases h2:co (x c)<c
  ·
   have w1:=L.h0 (c+1) (x c) hx (by rw [hco]; omega)
   rw [w1,Bool.xor_false] at u2
   rw [if_neg h1,if_neg h1,if_pos h2,if_pos h2,←r2,u2]
  ·
   have w1:=L.h0 c (x c) hx (by rw [hco]; omega)
   rw [w1,Bool.xor_false] at u1
   rw [if_neg h1,if_neg h1,if_neg h2,if_neg h2,r2,u1]
theorem Gd.part_ch {c:Nat} (hc:c<n) {vv hh:Nat→Nat→Bool} (L:Lat n x o cx co vv hh):
  Ch (inK (sgl n x o cx co) (kap (crl n x o cx co) cx co hh)) (outK (sgl n x o cx co) (kap (crl n x o cx co) cx co hh)) (qC x o hh c (if x c<o c then x c+1 else x c)) (part n x o cx co c)
   (qC x o hh (cx (o c)) (if x (cx (o c))<o (cx (o c)) then x (cx (o c))+1 else x (cx (o c)))):=by
 have h1:=g.col_ch hc L
 have h2:=g.row_ch (g.ol hc) L
 have hco:co (o c)=c:=g.po.gf c
 rw [g.o_turn hc L] at h1
 have h3:=g.x_turn (g.nxl hc) L
 have hx:x (cx (o c))=o c:=g.px.fg (o c)
 rw [hx] at h3⊢
 rw [hco] at h2 h3
 rw [h3] at h2
 exact h1.app h2
end
open Gar Pg
theorem slot_par (S:Nat→Bool) (cx co:Nat→Nat) (c j:Nat):par S c=(((S (4*c+slot cx co j 0)^^S (4*c+slot cx co j 1))^^S (4*c+slot cx co j 2))^^S (4*c+slot cx co j 3)):=by
 unfold par slot
 by_cases h:co j<cx j
 · simp only [if_pos h,Nat.add_zero]
 ·
  simp only [if_neg h]
  show _=(((S (4*c+2)^^S (4*c+3))^^S (4*c+0))^^S (4*c+1))
  rw [Nat.add_zero]
  cases S (4*c)<;>cases S (4*c+1)<;>cases S (4*c+2)<;>cases S (4*c+3)<;>rfl
def inS (sg:List Int) (S:Nat→Bool) (v:Vis):Bool:=S (inH sg v)
def outS (sg:List Int) (S:Nat→Bool) (v:Vis):Bool:=S (outH sg v)
section
variable {n : Nat} {x o cx co : Nat → Nat} (g : Gd n x o cx co)
include g
theorem Gd.lat {S:Nat→Bool} {a:Nat→Bool} (ha: ∀c,c<n→Ch (inS (sgl n x o cx co) S) (outS (sgl n x o cx co) S) (a c) (part n x o cx co c) (a (cx (o c)))) (hS: ∀c,c<(crl n x o cx co).length→par S c=false):
  ∃vv hh,Lat n x o cx co vv hh∧∀i j,i<n→j<n→cr x o cx co i j=true→
   hh i j=S (4*num (crl n x o cx co) (i,j)+slot cx co j 0)∧vv i j=S (4*num (crl n x o cx co) (i,j)+slot cx co j 1)∧hh (i+1) j=S (4*num (crl n x o cx co) (i,j)+slot cx co j 2)∧vv i (j+1)=S (4*num (crl n x o cx co) (i,j)+slot cx co j 3):=by
 have hb: ∀c,∃b:Bool,c<n→Ch (inS (sgl n x o cx co) S) (outS (sgl n x o cx co) S) (a c) (colV n x o cx co c) b∧Ch (inS (sgl n x o cx co) S) (outS (sgl n x o cx co) S) b (rowV n x o cx co (o c)) (a (cx (o c))):=by
  intro c
  by_cases hc:c<n
  ·
   obtain ⟨y,h1,h2⟩:=Ch.split (show Ch _ _ (a c) (colV n x o cx co c++rowV n x o cx co (o c)) _ from ha c hc)
   exact ⟨y,fun _=>⟨h1,h2⟩⟩
  · exact ⟨false,fun h=>absurd h hc⟩
 obtain ⟨b,hb⟩:=Classical.skolem.1 hb
 have hU: ∀i,∃U:Nat→Bool,i<n→(∀r,min (x i) (o i)<r→r<max (x i) (o i)→cr x o cx co i r=false→U r=U (r+1))∧
   (∀r,cr x o cx co i r=true→U r=S (4*num (crl n x o cx co) (i,r)+slot cx co r 1)∧U (r+1)=S (4*num (crl n x o cx co) (i,r)+slot cx co r 3))∧
   U (if x i<o i then x i+1 else x i)=a i∧U (if x i<o i then o i else o i+1)=b i:=by
  intro i
  by_cases hi:i<n
  ·
   have h1:=(hb i hi).1
   unfold colV at h1
   rw [Ch.map] at h1
   obtain ⟨u,u1,u2,u3,u4⟩:=seg_val (g.ne i hi) (fun r h=>g.cr_col h) h1
   refine ⟨u,fun _=>⟨u1,fun r hr=>?_,u3,u4⟩⟩
   have hrn:r<n:=by
    have:=g.cr_col hr
    have:=g.xl hi
    have:=g.ol hi
    omega
   obtain ⟨q1,q2⟩:=u2 r hr
   obtain ⟨e1,e2⟩:=g.over_in hi hrn hr
   have hne:=g.ne i hi
   unfold inS outS at q1 q2
   by_cases h:x i<o i
   ·
    obtain ⟨q3,q4⟩:=q1 h
    rw [e1,if_pos h] at q3
    rw [e2,if_pos h] at q4
    exact ⟨q3.symm,q4.symm⟩
   ·
    obtain ⟨q3,q4⟩:=q2 (by omega)
    rw [e1,if_neg h] at q3
    rw [e2,if_neg h] at q4
    exact ⟨q4.symm,q3.symm⟩
  · exact ⟨fun _=>false,fun h=>absurd h hi⟩
 obtain ⟨U,hU⟩:=Classical.skolem.1 hU
 have hV: ∀j,∃V:Nat→Bool,j<n→(∀r,min (co j) (cx j)<r→r<max (co j) (cx j)→cr x o cx co r j=false→V r=V (r+1))∧
   (∀r,cr x o cx co r j=true→V r=S (4*num (crl n x o cx co) (r,j)+slot cx co j 0)∧V (r+1)=S (4*num (crl n x o cx co) (r,j)+slot cx co j 2))∧
   V (if co j<cx j then co j+1 else co j)=b (co j)∧V (if co j<cx j then cx j else cx j+1)=a (cx j):=by
  intro j
  by_cases hj:j<n
  ·
   have h1:=(hb (co j) (g.col hj)).2
   rw [g.po.fg j] at h1
   unfold rowV at h1
   rw [Ch.map] at h1
   obtain ⟨u,u1,u2,u3,u4⟩:=seg_val (P:=fun i=>cr x o cx co i j) (fun e=>g.cne hj e.symm) (fun r h=>g.cr_row h) h1
   refine ⟨u,fun _=>⟨u1,fun r hr=>?_,u3,u4⟩⟩
   obtain ⟨q1,q2⟩:=u2 r hr
   obtain ⟨e1,e2⟩:=g.under_in r j
   have hne:=g.cne hj
   unfold inS outS at q1 q2
   by_cases h:co j<cx j
   ·
    obtain ⟨q3,q4⟩:=q1 h
    rw [e1,if_pos h] at q3
    rw [e2,if_pos h] at q4
    exact ⟨q3.symm,q4.symm⟩
   ·
    obtain ⟨q3,q4⟩:=q2 (by omega)
    rw [e1,if_neg h] at q3
    rw [e2,if_neg h] at q4
    exact ⟨q4.symm,q3.symm⟩
  · exact ⟨fun _=>false,fun h=>absurd h hj⟩
 obtain ⟨V,hV⟩:=Classical.skolem.1 hV
 let vv:Nat→Nat→Bool:=fun i Y=>if min (x i) (o i)<Y∧Y≤max (x i) (o i) then U i Y else false
 let hh:Nat→Nat→Bool:=fun X j=>if min (co j) (cx j)<X∧X≤max (co j) (cx j) then V j X else false
 have vy: ∀i Y,min (x i) (o i)<Y∧Y≤max (x i) (o i)→vv i Y=U i Y:=fun i Y h=>if_pos h
 have vn: ∀i Y,¬(min (x i) (o i)<Y∧Y≤max (x i) (o i))→vv i Y=false:=fun i Y h=>if_neg h
 have hy: ∀X j,min (co j) (cx j)<X∧X≤max (co j) (cx j)→hh X j=V j X:=fun X j h=>if_pos h
 have hn: ∀X j,¬(min (co j) (cx j)<X∧X≤max (co j) (cx j))→hh X j=false:=fun X j h=>if_neg h
 have hcr: ∀i j,i<n→j<n→cr x o cx co i j=true→hh i j=S (4*num (crl n x o cx co) (i,j)+slot cx co j 0)∧vv i j=S (4*num (crl n x o cx co) (i,j)+slot cx co j 1)∧hh (i+1) j=S (4*num (crl n x o cx co) (i,j)+slot cx co j 2)∧vv i (j+1)=S (4*num (crl n x o cx co) (i,j)+slot cx co j 3):=by
  intro i j hi hj hc
  have k1:=g.cr_col hc
  have k2:=g.cr_row hc
  obtain ⟨c1,c2⟩:=(hU i hi).2.1 j hc
  obtain ⟨c3,c4⟩:=(hV j hj).2.1 i hc
  exact ⟨by rw [hy i j (by omega),c3],by rw [vy i j (by omega),c1],by rw [hy (i+1) j (by omega),c4],by rw [vy i (j+1) (by omega),c2]⟩
 refine ⟨vv,hh,⟨fun i Y _ h=>vn i Y h,fun X j _ h=>hn X j h,fun i j hi hj=>?_⟩,hcr⟩
 have ne1:=g.ne i hi
 have ne2:=g.cne hj
 by_cases hx:j=x i
 ·
  have hc:cx j=i:=by rw [hx]; exact g.px.gf i
  obtain ⟨_,_,u3,_⟩:=hU i hi
  obtain ⟨_,_,_,v4⟩:=hV j hj
  rw [hc] at v4
  have e1:(vv i j^^vv i (j+1))=a i:=by
   by_cases h:x i<o i
   ·
    rw [if_pos h] at u3
    rw [vn i j (by omega),vy i (j+1) (by omega),hx,u3,Bool.false_xor]
   ·
    rw [if_neg h] at u3
    rw [vy i j (by omega),vn i (j+1) (by omega),hx,u3,Bool.xor_false]
  have e2:(hh i j^^hh (i+1) j)=a i:=by
   by_cases h:co j<i
   ·
    rw [if_pos h] at v4
    rw [hy i j (by omega),hn (i+1) j (by omega),v4,Bool.xor_false]
   ·
    rw [if_neg h] at v4
    rw [hn i j (by omega),hy (i+1) j (by omega),v4,Bool.false_xor]
  rw [e1,e2,Bool.xor_self]
 by_cases ho:j=o i
 ·
  have hc:co j=i:=by rw [ho]; exact g.po.gf i
  obtain ⟨_,_,_,u4⟩:=hU i hi
  obtain ⟨_,_,v3,_⟩:=hV j hj
  rw [hc] at v3
  have e1:(vv i j^^vv i (j+1))=b i:=by
   by_cases h:x i<o i
   ·
    rw [if_pos h] at u4
    rw [vy i j (by omega),vn i (j+1) (by omega),ho,u4,Bool.xor_false]
   ·
    rw [if_neg h] at u4
    rw [vn i j (by omega),vy i (j+1) (by omega),ho,u4,Bool.false_xor]
  have e2:(hh i j^^hh (i+1) j)=b i:=by
   by_cases h:i<cx j
   ·
    rw [if_pos h] at v3
    rw [hn i j (by omega),hy (i+1) j (by omega),v3,Bool.false_xor]
   ·
    rw [if_neg h] at v3
    rw [hy i j (by omega),hn (i+1) j (by omega),v3,Bool.xor_false]
  rw [e1,e2,Bool.xor_self]
 have n1:cx j≠i:=fun e=>hx (by rw [←e]; exact (g.px.fg j).symm)
 have n2:co j≠i:=fun e=>ho (by rw [←e]; exact (g.po.fg j).symm)
 cases hc:cr x o cx co i j with
 | true=>
  obtain ⟨c1,c2,c3,c4⟩:=hcr i j hi hj hc
  have h1:=hS _ (num_lt (qej.2 ⟨hi,hj,hc⟩))
  rw [slot_par S cx co _ j] at h1
  rw [c1,c2,c3,c4]
  revert h1
  cases S (4*num (crl n x o cx co) (i,j)+slot cx co j 0)<;>cases S (4*num (crl n x o cx co) (i,j)+slot cx co j 1)<;>cases S (4*num (crl n x o cx co) (i,j)+slot cx co j 2)<;>cases S (4*num (crl n x o cx co) (i,j)+slot cx co j 3)<;>decide
 | false=>
  have e1:(vv i j^^vv i (j+1))=false:=by
   by_cases h:min (x i) (o i)<j∧j<max (x i) (o i)
   · rw [vy i j (by omega),vy i (j+1) (by omega),(hU i hi).1 j h.1 h.2 hc,Bool.xor_self]
   · rw [vn i j (by omega),vn i (j+1) (by omega)]; rfl
  have e2:(hh i j^^hh (i+1) j)=false:=by
   by_cases h:min (co j) (cx j)<i∧i<max (co j) (cx j)
   · rw [hy i j (by omega),hy (i+1) j (by omega),(hV j hj).1 i h.1 h.2 hc,Bool.xor_self]
   · rw [hn i j (by omega),hn (i+1) j (by omega)]; rfl
  rw [e1,e2]; rfl
end
theorem Ch.flat {β α:Type} {In Out:β→α} {P:Nat→List β} {A:Nat→α}: ∀{v:List Nat} {z:α},v≠[]→(∀k c d,v[k]? =some c→v[k+1]? =some d→Ch In Out (A c) (P c) (A d))→(∀c,v[v.length-1]? =some c→Ch In Out (A c) (P c) z)→∀c,v[0]? =some c→Ch In Out (A c) (v.flatMap P) z
 | [],z,h,_,_=>absurd rfl h
 | [a],z,_,_,h2=>fun c hc=>by
  simp at hc; subst hc
  rw [List.flatMap_cons,List.flatMap_nil,List.append_nil]
  exact h2 a rfl
 | a::b::v,z,_,h1,h2=>fun c hc=>by
  simp at hc; subst hc
  rw [List.flatMap_cons]
  refine Ch.app (h1 0 a b rfl rfl) (Ch.flat (v:=b::v) (by simp) (fun k c d hc hd=>h1 (k+1) c d (by simpa using hc) (by simpa using hd)) (fun c hc=>h2 c ?_) b rfl)
  simpa using hc
