import Derived.Test.YtlkmcbgkohpmiaaPGint
set_option linter.all false
namespace Go.Proofs.Ytlkmcbgkohpmiaa
open Ev
namespace Ho
open Gar
def Pe (n:Nat) (p:List Int):Prop:= ∃f g,Pm n f g∧p=li n f
def mu (p q:List Int):List Int:=p.map fun i=>q.getD i.toNat 0
def un (n:Nat):List Int:=li n fun k=>k
open Classical in
noncomputable def iv (n:Nat) (p:List Int):List Int:=if h: ∃g,∃f,Pm n f g∧p=li n f then li n h.choose else []
section
variable {n : Nat} {p q r : List Int}
theorem pm_id (n:Nat):Pm n (fun k=>k) (fun k=>k):=⟨fun _ _=>rfl,fun _=>rfl,fun _=>rfl⟩
theorem pm_comp {f g f' g':Nat→Nat} (h:Pm n f g) (h':Pm n f' g'):Pm n (fun k=>f' (f k)) (fun k=>g (g' k)):=
 ⟨fun k hk=>by rw [h.fix k hk,h'.fix k hk],fun k=>by rw [h'.gf,h.gf],fun k=>by rw [h.fg,h'.fg]⟩
theorem mu_li {f g:Nat→Nat} (h:Pm n f g) (f':Nat→Nat):mu (li n f) (li n f')=li n fun k=>f' (f k):=by
 show ((List.range n).map fun k=>((f k:Nat):Int)).map (fun i=>(li n f').getD i.toNat 0)=(List.range n).map fun k=>((f' (f k):Nat):Int)
 rw [List.map_map]
 refine List.map_congr_left fun k hk=>?_
 rw [List.mem_range] at hk
 show (li n f').getD ((f k:Nat):Int).toNat 0=_
 rw [List.getD_eq_getElem?_getD,Int.toNat_natCast,li_at (h.lt hk),Option.getD_some]
theorem iv_li {f g:Nat→Nat} (h:Pm n f g):iv n (li n f)=li n g:=by
 have hex: ∃g',∃f',Pm n f' g'∧li n f=li n f':=⟨g,f,h,rfl⟩
 unfold iv
 rw [dif_pos hex]
 obtain ⟨f',h1,h2⟩:=hex.choose_spec
 have e:=li_eq h.fix h1.fix h2
 refine qez fun k _=>?_
 have:=h.fg k
 have h3:=h1.gf (g k)
 rw [←e,this] at h3
 exact h3
theorem Pe.len (h:Pe n p):p.length=n:=by obtain ⟨f,g,_,rfl⟩:=h; exact li_len
theorem Pe.un (n:Nat):Pe n (un n):=⟨_,_,pm_id n,rfl⟩
theorem Pe.mu (h:Pe n p) (k:Pe n q):Pe n (mu p q):=by
 obtain ⟨f,g,h1,rfl⟩:=h; obtain ⟨f',g',h2,rfl⟩:=k
 exact ⟨_,_,pm_comp h1 h2,mu_li h1 f'⟩
theorem Pe.iv (h:Pe n p):Pe n (iv n p):=by
 obtain ⟨f,g,h1,rfl⟩:=h
 exact ⟨g,f,h1.symm,iv_li h1⟩
theorem qeh (h:Pe n p) (k:Pe n q) (l:Pe n r):mu (mu p q) r=mu p (mu q r):=by
 obtain ⟨f,g,h1,rfl⟩:=h; obtain ⟨f',g',h2,rfl⟩:=k; obtain ⟨f2,g2,h3,rfl⟩:=l
 rw [mu_li h1,mu_li h2,mu_li h1,mu_li (pm_comp h1 h2)]
theorem un_mu (h:Pe n p):mu (un n) p=p:=by
 obtain ⟨f,g,h1,rfl⟩:=h
 exact mu_li (pm_id n) f
theorem mu_un (h:Pe n p):mu p (un n)=p:=by
 obtain ⟨f,g,h1,rfl⟩:=h
 exact mu_li h1 _
theorem mu_iv (h:Pe n p):mu p (iv n p)=un n:=by
 obtain ⟨f,g,h1,rfl⟩:=h
 rw [iv_li h1,mu_li h1]
 exact qez fun k _=>h1.gf k
theorem iv_mu (h:Pe n p):mu (iv n p) p=un n:=by
 obtain ⟨f,g,h1,rfl⟩:=h
 rw [iv_li h1,mu_li h1.symm]
 exact qez fun k _=>h1.fg k
theorem iv_iv (h:Pe n p):iv n (iv n p)=p:=by
 obtain ⟨f,g,h1,rfl⟩:=h
 rw [iv_li h1,iv_li h1.symm]
theorem mu_right (h:Pe n p) (k:Pe n q) (l:Pe n r) (e:mu q p=mu r p):q=r:=by
 have:mu (mu q p) (iv n p)=mu (mu r p) (iv n p):=by rw [e]
 rwa [qeh k h h.iv,qeh l h h.iv,mu_iv h,mu_un k,mu_un l] at this
theorem conj_iff (h:Pe n p) (k:Pe n q) (l:Pe n r):mu (mu p q) (iv n p)=r↔mu p q=mu r p:=by
 constructor
 ·
  intro e
  rw [←e,qeh (h.mu k) h.iv h,iv_mu h,mu_un (h.mu k)]
 ·
  intro e
  rw [e,qeh l h h.iv,mu_iv h,mu_un l]
theorem conj_iff' (h:Pe n p) (k:Pe n q) (l:Pe n r):mu (mu (iv n p) q) p=r↔mu q p=mu p r:=by
 constructor
 ·
  intro e
  rw [←e,←qeh h (h.iv.mu k) h,←qeh h h.iv k,mu_iv h,un_mu k]
 ·
  intro e
  rw [qeh h.iv k h,e,←qeh h.iv h l,iv_mu h,un_mu l]
end
/-! Values of words. -/
noncomputable def lt (n:Nat) (x:List (List Int)) (y:Int):List Int:=if 0<y then x.getD (y.toNat-1) [] else iv n (x.getD ((-y).toNat-1) [])
noncomputable def ev (n:Nat) (x:List (List Int)) (w:List Int):List Int:=w.foldl (fun v y=>mu v (lt n x y)) (un n)
structure Tu (n s:Nat) (x:List (List Int)):Prop where
 len:x.length=s
 pe: ∀p∈x,Pe n p
section
variable {n s : Nat} {x : List (List Int)}
theorem Tu.at_ (h:Tu n s x) {k:Nat} (hk:k<s):Pe n (x.getD k []):=by
 have hl:k<x.length:=by rw [h.len]; exact hk
 rw [List.getD_eq_getElem?_getD,gE hl,Option.getD_some]
 exact h.pe _ (List.getElem_mem hl)
theorem Tu.lt (h:Tu n s x) {y:Int} (hy:Lr s y):Pe n (lt n x y):=by
 unfold Lr at hy
 unfold Ho.lt
 split
 · exact h.at_ (by omega)
 · exact (h.at_ (by omega)).iv
theorem Tu.fold (h:Tu n s x): ∀(w:List Int) (v:List Int),Pe n v→(∀y∈w,Lr s y)→Pe n (w.foldl (fun v y=>mu v (Ho.lt n x y)) v)
 | [],_,hv,_=>hv
 | y::w,v,hv,hw=>h.fold w _ (hv.mu (h.lt (hw y List.mem_cons_self))) fun z hz=>hw z (List.mem_cons_of_mem _ hz)
theorem Tu.ev (h:Tu n s x) {w:List Int} (hw: ∀y∈w,Lr s y):Pe n (ev n x w):=h.fold w _ (Pe.un n) hw
theorem fold_mu (h:Tu n s x): ∀(w:List Int) (v:List Int),Pe n v→(∀y∈w,Lr s y)→w.foldl (fun v y=>mu v (lt n x y)) v=mu v (ev n x w)
 | [],v,hv,_=>(mu_un hv).symm
 | y::w,v,hv,hw=>by
  have hy:=h.lt (hw y List.mem_cons_self)
  have hw': ∀z∈w,Lr s z:=fun z hz=>hw z (List.mem_cons_of_mem _ hz)
  unfold ev
  rw [List.foldl_cons,List.foldl_cons,fold_mu h w _ (hv.mu hy) hw',fold_mu h w _ ((Pe.un n).mu hy) hw',un_mu hy,qeh hv hy (h.ev hw')]
theorem ev_cons (h:Tu n s x) {y:Int} {w:List Int} (hw: ∀z∈y::w,Lr s z):ev n x (y::w)=mu (lt n x y) (ev n x w):=by
 have hy:=h.lt (hw y List.mem_cons_self)
 have hw': ∀z∈w,Lr s z:=fun z hz=>hw z (List.mem_cons_of_mem _ hz)
 rw [show ev n x (y::w)=w.foldl (fun v y=>mu v (lt n x y)) (mu (un n) (lt n x y)) from rfl,un_mu hy,fold_mu h w _ hy hw']
theorem ev_nil:ev n x []=un n:=rfl
theorem ev_app (h:Tu n s x): ∀{u w:List Int},(∀z∈u,Lr s z)→(∀z∈w,Lr s z)→ev n x (u++w)=mu (ev n x u) (ev n x w)
 | [],w,_,hw=>by rw [List.nil_append,ev_nil,un_mu (h.ev hw)]
 | y::u,w,hu,hw=>by
  have hu': ∀z∈u,Lr s z:=fun z hz=>hu z (List.mem_cons_of_mem _ hz)
  have hy:=h.lt (hu y List.mem_cons_self)
  have ha: ∀z∈y::(u++w),Lr s z:=fun z hz=>by
   rcases List.mem_cons.1 hz with e | e
   · rw [e]; exact hu y List.mem_cons_self
   ·
    rcases List.mem_append.1 e with e | e
    · exact hu' z e
    · exact hw z e
  rw [List.cons_append,ev_cons h ha,ev_cons h hu,ev_app h hu' hw,qeh hy (h.ev hu') (h.ev hw)]
theorem lt_neg (h:Tu n s x) {y:Int} (hy:Lr s y):lt n x (-y)=iv n (lt n x y):=by
 unfold Lr at hy
 unfold lt
 by_cases h0:0<y
 · rw [if_pos h0,if_neg (by omega),Int.neg_neg]
 · rw [if_neg h0,if_pos (by omega),iv_iv (h.at_ (by omega))]
theorem ev_one (h:Tu n s x) {y:Int} (hy:Lr s y):ev n x [y]=lt n x y:=un_mu (h.lt hy)
theorem ev_ipush (h:Tu n s x) {a:Int} {w:List Int} (hw: ∀z∈a::w,Lr s z):ev n x (ipush a w)=ev n x (a::w):=by
 cases w with
 | nil=>rfl
 | cons b t=>
  by_cases e:a=-b
  ·
   rw [qfk a b t e]
   have hb:Lr s b:=hw b (by simp)
   have ht: ∀z∈t,Lr s z:=fun z hz=>hw z (by simp [hz])
   rw [ev_cons h hw,ev_cons h (fun z hz=>hw z (List.mem_cons_of_mem _ hz)),e,lt_neg h hb,←qeh (h.lt hb).iv (h.lt hb) (h.ev ht),iv_mu (h.lt hb),un_mu (h.ev ht)]
  · rw [qev e]
theorem ird_sub {w:List Int}: ∀y∈ird w,y∈w:=by
 induction w with
 | nil=>exact fun y hy=>hy
 | cons a l ih=>
  intro y hy
  unfold ird at hy
  have key: ∀(m:List Int),(∀z∈m,z∈l)→y∈ipush a m→y∈a::l:=by
   intro m hm hy
   cases m with
   | nil=>simp only [ipush,List.mem_singleton] at hy; rw [hy]; exact List.mem_cons_self
   | cons b t=>
    by_cases e:a=-b
    ·
     rw [qfk a b t e] at hy
     exact List.mem_cons_of_mem _ (hm y (List.mem_cons_of_mem _ hy))
    ·
     rw [qev e] at hy
     rcases List.mem_cons.1 hy with e | e
     · rw [e]; exact List.mem_cons_self
     · exact List.mem_cons_of_mem _ (hm y e)
  exact key _ ih hy
theorem ev_ird (h:Tu n s x): ∀{w:List Int},(∀z∈w,Lr s z)→ev n x (ird w)=ev n x w
 | [],_=>rfl
 | a::w,hw=>by
  have hw': ∀z∈w,Lr s z:=fun z hz=>hw z (List.mem_cons_of_mem _ hz)
  have hr: ∀z∈a::ird w,Lr s z:=fun z hz=>by
   rcases List.mem_cons.1 hz with e | e
   · rw [e]; exact hw a List.mem_cons_self
   · exact hw' z (ird_sub z e)
  show ev n x (ipush a (ird w))=_
  rw [ev_ipush h hr,ev_cons h hr,ev_cons h hw,ev_ird h hw']
theorem ev_negw (h:Tu n s x): ∀{w:List Int},(∀z∈w,Lr s z)→ev n x (neg w)=iv n (ev n x w):=by
 intro w hw
 induction w with
 | nil=>rw [show neg []=[] from rfl,ev_nil]; exact (iv_li (pm_id n)).symm
 | cons a w ih=>
  have hw': ∀z∈w,Lr s z:=fun z hz=>hw z (List.mem_cons_of_mem _ hz)
  have ha:=hw a List.mem_cons_self
  have hnw: ∀z∈neg w,Lr s z:=fun z hz=>by
   unfold neg at hz
   rw [List.mem_reverse,List.mem_map] at hz
   obtain ⟨y,hy,rfl⟩:=hz
   have:=hw' y hy; unfold Lr at this⊢; omega
  have hna:Lr s (-a):=by unfold Lr at ha⊢; omega
  have e:neg (a::w)=neg w++[-a]:=by unfold neg; simp
  rw [e,ev_app h hnw (fun z hz=>by rw [List.mem_singleton] at hz; rw [hz]; exact hna),ev_one h hna,lt_neg h ha,ih hw',ev_cons h hw]
  have p1:=h.lt ha; have p2:=h.ev hw'
  refine mu_right (p:=mu (lt n x a) (ev n x w)) (p1.mu p2) (p2.iv.mu p1.iv) (p1.mu p2).iv ?_
  rw [iv_mu (p1.mu p2),qeh p2.iv p1.iv (p1.mu p2),←qeh p1.iv p1 p2,iv_mu p1,un_mu p2,iv_mu p2]
end
end Ho
end Go.Proofs.Ytlkmcbgkohpmiaa

set_option linter.all false
namespace Go.Proofs.Ytlkmcbgkohpmiaa
open Ev
namespace Ho
open Gar
inductive Rt (p:List Int):Nat→Nat→Nat→Prop
 | root {h:Nat}:p[h]? =some (h:Int)→Rt p 0 h h
 | step {d h k r:Nat}:p[h]? =some (k:Int)→k≠h→Rt p d k r→Rt p (d+1) h r
theorem Rt.at_ {p:List Int} {d h r:Nat} (h1:Rt p d h r):p[r]? =some (r:Int):=by
 induction h1 with
 | root e=>exact e
 | step _ _ _ ih=>exact ih
theorem Rt.uniq {p:List Int} {d h r:Nat} (h1:Rt p d h r): ∀{d' r':Nat},Rt p d' h r'→r'=r:=by
 induction h1 with
 | root e=>
  intro d' r' h2
  cases h2 with
  | root e'=>rfl
  | step e' hne _=>rw [e] at e'; injection e' with e'; exact absurd (Int.ofNat.inj e').symm hne
 | step e hne _ ih=>
  intro d' r' h2
  cases h2 with
  | root e'=>rw [e] at e'; injection e' with e'; exact absurd (Int.ofNat.inj e') hne
  | step e' _ h3=>
   rw [e] at e'; injection e' with e'
   obtain rfl:=Int.ofNat.inj e'
   exact ih h3
structure Fo (N D:Nat) (p:List Int) (R:Nat→Nat):Prop where
 len:p.length=N
 rt: ∀h,h<N→∃d,d≤D∧Rt p d h (R h)
section
variable {N D : Nat} {p : List Int} {R : Nat → Nat}
theorem Fo.top (f:Fo N D p R) {h:Nat} (hh:h<N):p[R h]? =some (R h:Int)∧R h<N:=by
 obtain ⟨d,_,h1⟩:=f.rt h hh
 refine ⟨h1.at_,?_⟩
 rw [←f.len]
 exact (List.getElem?_eq_some_iff.1 h1.at_).1
theorem set_at {p:List Int} {h j:Nat} {v:Int} (hj:j≠h):(p.set h v)[j]? =p[j]? :=List.getElem?_set_ne (Ne.symm hj)
theorem set_on {p:List Int} {h:Nat} {v:Int} (hh:h<p.length):(p.set h v)[h]? =some v:=List.getElem?_set_self hh
theorem Fo.short (f:Fo N D p R) {h:Nat} (hh:h<N) (hne:R h≠h):Fo N D (p.set h (R h:Int)) R:=by
 refine ⟨by rw [List.length_set]; exact f.len,fun j hj=>?_⟩
 obtain ⟨d0,_,hr⟩:=f.rt h hh
 have key: ∀{d j s:Nat},Rt p d j s→∃d',d'≤d∧Rt (p.set h (R h:Int)) d' j s:=by
  intro d j s h1
  induction h1 with
  | @root j e=>
   by_cases hj:j=h
   · subst hj; exact absurd ((Rt.root e).uniq hr) hne
   · exact ⟨0,Nat.le_refl _,.root (by rw [set_at hj]; exact e)⟩
  | @step d j k s e hk h2 ih=>
   obtain ⟨d',hd,h3⟩:=ih
   by_cases hj:j=h
   ·
    subst hj
    have es:=hr.uniq (Rt.step e hk h2)
    rw [es]
    exact ⟨1,by omega,.step (set_on (by rw [f.len]; exact hh)) hne (.root (by rw [set_at hne]; exact hr.at_))⟩
   · exact ⟨d'+1,by omega,.step (by rw [set_at hj]; exact e) hk h3⟩
 obtain ⟨d,hd,h1⟩:=f.rt j hj
 obtain ⟨d',hd',h2⟩:=key h1
 exact ⟨d',by omega,h2⟩
def U (R:Nat→Nat) (a b j:Nat):Nat:=if R j=R a then R b else R j
theorem Fo.join (f:Fo N D p R) {a b:Nat} (ha:a<N) (hb:b<N):Fo N (D+1) (p.set (R a) (R b:Int)) (U R a b):=by
 obtain ⟨a1,a2⟩:=f.top ha
 obtain ⟨b1,b2⟩:=f.top hb
 refine ⟨by rw [List.length_set]; exact f.len,fun j hj=>?_⟩
 obtain ⟨d,hd,h1⟩:=f.rt j hj
 by_cases hab:R a=R b
 ·
  have e1:p.set (R a) (R b:Int)=p:=by
   rw [←hab]
   apply List.ext_getElem?
   intro i
   by_cases hi:i=R a
   · subst hi; rw [set_on (by rw [f.len]; exact a2),a1]
   · rw [set_at hi]
  have e2:U R a b j=R j:=by unfold U; split<;>omega
  rw [e1,e2]
  exact ⟨d,by omega,h1⟩
 ·
  have key: ∀{d j s:Nat},Rt p d j s→∃d',d'≤d+1∧Rt (p.set (R a) (R b:Int)) d' j (if s=R a then R b else s):=by
   intro d j s h1
   induction h1 with
   | @root j e=>
    by_cases hj:j=R a
    ·
     rw [if_pos hj]
     subst hj
     exact ⟨1,by omega,.step (set_on (by rw [f.len]; exact a2)) (Ne.symm hab) (.root (by rw [set_at (Ne.symm hab)]; exact b1))⟩
    ·
     rw [if_neg hj]
     exact ⟨0,by omega,.root (by rw [set_at hj]; exact e)⟩
   | @step d j k s e hk h2 ih=>
    obtain ⟨d',hd,h3⟩:=ih
    have hj:j≠R a:=fun hj=>by
     subst hj
     rw [a1] at e; injection e with e
     exact hk (Int.ofNat.inj e).symm
    exact ⟨d'+1,by omega,.step (by rw [set_at hj]; exact e) hk h3⟩
  obtain ⟨d',hd',h2⟩:=key h1
  exact ⟨d',by omega,h2⟩
theorem find_run (n:Nat): ∀(d:Nat) {p:List Int} {h r:Nat},Rt p d h r→Fo N D p R→h<N→d<n→∃p',F.qbb n (h:Int) p=some ((r:Int),p')∧Fo N D p' R:=by
 induction n with
 | zero=>intro d p h r _ _ _ hn; exact absurd hn (Nat.not_lt_zero _)
 | succ n ih=>
  intro d p h r h1 f hh hn
  cases h1 with
  | root e=>
   have eg:Ev.get p (h:Int)=some (h:Int):=by rw [qbe]; exact e
   refine ⟨p,?_,f⟩
   rw [F.qbb,eg,bB,dT rfl,Bool.not_true,kF,bB]
  | @step d _ k _ e hk h2=>
   have eg:Ev.get p (h:Int)=some (k:Int):=by rw [qbe]; exact e
   have hkN:k<N:=by
    rw [←f.len]
    cases h2 with
    | root e'=>exact (List.getElem?_eq_some_iff.1 e').1
    | step e' _ _=>exact (List.getElem?_eq_some_iff.1 e').1
   obtain ⟨p1,q1,q2⟩:=ih d h2 f hkN (by omega)
   have hR:R h=r:=by
    obtain ⟨d',_,h3⟩:=f.rt h hh
    exact (Rt.step e hk h2).uniq h3
   have hne:R h≠h:=fun hx=>by
    have h4:=(Rt.step e hk h2).at_
    rw [←hR,hx,e] at h4
    injection h4 with h4
    exact hk (Int.ofNat.inj h4)
   have hl:h<p1.length:=by rw [q2.len]; exact hh
   refine ⟨p1.set h (r:Int),?_,by have:=q2.short hh hne; rwa [hR] at this⟩
   rw [F.qbb,eg,bB,dF (show¬((k:Int)=(h:Int)) by omega),Bool.not_false,kT,bB,q1,bB]
   dsimp only
   rw [get_at rfl (gE hl),bB,Int.toNat_natCast,get_at rfl (set_on hl),bB]
theorem Fo.find (f:Fo N D p R) {h:Nat} (hh:h<N) (n:Nat) (hn:D<n): ∃p',F.qbb n (h:Int) p=some ((R h:Int),p')∧Fo N D p' R:=by
 obtain ⟨d,hd,h1⟩:=f.rt h hh
 exact find_run n d h1 f hh (by omega)
end
/-! The classes. -/
def uf (l:List (Nat×Nat)):Nat→Nat:=l.foldl (fun R ab=>U R ab.1 ab.2) fun k=>k
theorem uf_snoc (l:List (Nat×Nat)) (a b:Nat):uf (l++[(a,b)])=U (uf l) a b:=by unfold uf; rw [List.foldl_append]; rfl
theorem U_glue {R:Nat→Nat} {a b c d:Nat} (h:R c=R d):U R a b c=U R a b d:=by unfold U; rw [h]
theorem foldU_glue: ∀(l:List (Nat×Nat)) {R:Nat→Nat} {c d:Nat},R c=R d→(l.foldl (fun R ab=>U R ab.1 ab.2) R) c=(l.foldl (fun R ab=>U R ab.1 ab.2) R) d
 | [],_,_,_,h=>h
 | _::l,_,_,_,h=>foldU_glue l (U_glue h)
theorem foldU_mem: ∀(l:List (Nat×Nat)) (R:Nat→Nat) {a b:Nat},(a,b)∈l→(l.foldl (fun R ab=>U R ab.1 ab.2) R) a=(l.foldl (fun R ab=>U R ab.1 ab.2) R) b
 | (x,y)::l,R,a,b,h=>by
  rcases List.mem_cons.1 h with e | e
  ·
   injection e with e1 e2
   subst e1 e2
   refine foldU_glue l ?_
   unfold U
   dsimp only
   rw [if_pos rfl]; split<;>rfl
  · exact foldU_mem l _ e
theorem foldU_col {α:Type} (col:Nat→α): ∀(l:List (Nat×Nat)) (R:Nat→Nat),(∀j,col (R j)=col j)→(∀a b,(a,b)∈l→col a=col b)→∀j,col ((l.foldl (fun R ab=>U R ab.1 ab.2) R) j)=col j
 | [],_,h,_=>h
 | (x,y)::l,R,h,hl=>foldU_col col l _ (fun j=>by
   unfold U
   dsimp only
   split
   ·
    rename_i e
    rw [h,←hl x y List.mem_cons_self,←h x,←e,h]
   · exact h j) fun a b hm=>hl a b (List.mem_cons_of_mem _ hm)
/-! The numbers. -/
def ky (R:Nat→Nat):Nat→List Nat
 | 0=>[]
 | k+1=>if R k∈ky R k then ky R k else ky R k++[R k]
def mmf:List Nat→Nat→List (Int×Int)
 | [],_=>[]
 | r::K,i=>((r:Int),(i:Int))::mmf K (i+1)
theorem mmf_len: ∀(K:List Nat) (i:Nat),(mmf K i).length=K.length
 | [],_=>rfl
 | _::K,i=>by simp [mmf,mmf_len K (i+1)]
theorem mmf_snoc: ∀(K:List Nat) (i r:Nat),mmf (K++[r]) i=mmf K i++[((r:Int),((i+K.length:Nat):Int))]
 | [],i,r=>rfl
 | _::K,i,r=>by
  simp only [List.cons_append,mmf,mmf_snoc K (i+1) r,List.length_cons]
  rw [show i+1+K.length=i+(K.length+1) by omega]
theorem mmf_get: ∀(K:List Nat) (i r:Nat),imget (mmf K i) (r:Int)=if r∈K then some (((i+K.idxOf r:Nat)):Int) else none
 | [],_,_=>rfl
 | s::K,i,r=>by
  unfold mmf imget
  dsimp only
  by_cases h:r=s
  ·
   subst h
   rw [if_pos rfl,if_pos List.mem_cons_self,List.idxOf_cons_self]; rfl
  ·
   rw [if_neg (show¬((r:Int)=(s:Int)) by omega),mmf_get K (i+1) r]
   by_cases hm:r∈K
   ·
    rw [if_pos hm,if_pos (List.mem_cons_of_mem _ hm),show List.idxOf r (s::K)=List.idxOf r K+1 by rw [List.idxOf_cons,show (s == r)=false by simpa using fun e=>h e.symm]; rfl]
    congr 2; omega
   · rw [if_neg hm,if_neg (fun h'=>(List.mem_cons.1 h').elim h hm)]
theorem ky_succ (R:Nat→Nat) (k:Nat):ky R (k+1)=if R k∈ky R k then ky R k else ky R k++[R k]:=rfl
theorem ky_mem (R:Nat→Nat): ∀{k j:Nat},j<k→R j∈ky R k
 | k+1,j,h=>by
  unfold ky
  rcases Nat.lt_succ_iff_lt_or_eq.1 h with h1 | h1
  ·
   have:=ky_mem R h1
   split
   · exact this
   · exact List.mem_append_left _ this
  ·
   subst h1
   split
   · assumption
   · exact List.mem_append_right _ (by simp)
theorem ky_from (R:Nat→Nat): ∀{k r:Nat},r∈ky R k→∃j,j<k∧R j=r
 | k+1,r,h=>by
  unfold ky at h
  split at h
  · obtain ⟨j,h1,h2⟩:=ky_from R h; exact ⟨j,by omega,h2⟩
  ·
   rcases List.mem_append.1 h with h1 | h1
   · obtain ⟨j,h1,h2⟩:=ky_from R h1; exact ⟨j,by omega,h2⟩
   · exact ⟨k,by omega,(List.mem_singleton.1 h1).symm⟩
theorem ky_nodup (R:Nat→Nat): ∀k,(ky R k).Nodup
 | 0=>List.nodup_nil
 | k+1=>by
  unfold ky
  split
  · exact ky_nodup R k
  ·
   rename_i h
   rw [List.nodup_append]
   exact ⟨ky_nodup R k,by simp,fun a ha b hb e=>by rw [List.mem_singleton] at hb; rw [e,hb] at ha; exact h ha⟩
theorem ky_idx (R:Nat→Nat) {r:Nat}: ∀{k k':Nat},k≤k'→r∈ky R k→r∈ky R k'∧(ky R k').idxOf r=(ky R k).idxOf r
 | k,k',h,hm=>by
  induction h with
  | refl=>exact ⟨hm,rfl⟩
  | @step q _ ih=>
   obtain ⟨i1,i2⟩:=ih
   rw [ky_succ]
   split
   · exact ⟨i1,i2⟩
   · exact ⟨List.mem_append_left _ i1,by rw [List.idxOf_append,if_pos i1]; exact i2⟩
structure ArcS (N:Nat) (l:List (Nat×Nat)) (A:Nat→Nat) (cnt:Nat):Prop where
 lt: ∀j,j<N→A j<cnt
 sur: ∀i,i<cnt→∃j,j<N∧A j=i
 glue: ∀a b,(a,b)∈l→A a=A b
 fac: ∀{α:Type} (col:Nat→α),(∀a b,(a,b)∈l→col a=col b)→∀j j',j<N→j'<N→A j=A j'→col j=col j'
theorem arcS_of (N:Nat) (l:List (Nat×Nat)):ArcS N l (fun j=>(ky (uf l) N).idxOf (uf l j)) (ky (uf l) N).length:=
 ⟨fun j hj=>List.idxOf_lt_length_iff.2 (ky_mem _ hj),fun i hi=>by
  obtain ⟨j,h1,h2⟩:=ky_from (uf l) (List.getElem_mem hi)
  refine ⟨j,h1,?_⟩
  rw [h2]
  exact (ky_nodup _ N).idxOf_getElem i hi,fun a b h=>by
  have:=foldU_mem l (fun k=>k) h
  show List.idxOf (uf l a) _=List.idxOf (uf l b) _
  unfold uf; rw [this],fun col hc j j' hj hj' e=>by
  have e1:uf l j=uf l j':=by
   have h1:=List.getElem_idxOf (List.idxOf_lt_length_iff.2 (ky_mem (uf l) hj))
   have h2:=List.getElem_idxOf (List.idxOf_lt_length_iff.2 (ky_mem (uf l) hj'))
   rw [←h1,←h2]
   congr 1
  have k1:=foldU_col col l (fun k=>k) (fun _=>rfl) hc j
  have k2:=foldU_col col l (fun k=>k) (fun _=>rfl) hc j'
  rw [←k1,←k2]
  exact congrArg col e1⟩
end Ho
end Go.Proofs.Ytlkmcbgkohpmiaa

set_option linter.all false
namespace Go.Proofs.Ytlkmcbgkohpmiaa
open Ev
namespace Ho
open Gar
def mtP (N:Nat) (μ:Nat→Nat):List (Nat×Nat):=(List.range N).map fun k=>(k,μ k)
def ovP (C:Nat):List (Nat×Nat):=(List.range C).map fun c=>(4*c+1,4*c+3)
theorem mtP_take {N:Nat} {μ:Nat→Nat} {i:Nat} (hi:i<N):(mtP N μ).take (i+1)=(mtP N μ).take i++[(i,μ i)]:=by
 rw [List.take_add_one]; unfold mtP
 rw [List.getElem?_map,List.getElem?_range hi]; rfl
theorem ovP_take {C i:Nat} (hi:i<C):(ovP C).take (i+1)=(ovP C).take i++[(4*i+1,4*i+3)]:=by
 rw [List.take_add_one]; unfold ovP
 rw [List.getElem?_map,List.getElem?_range hi]; rfl
section
variable {N : Nat} {sg M : List Int} {μ : Nat → Nat}
theorem arc0 (hM:M.length=N) (hN:N≤1000) (m:Nat) (hm:10000≤m):loopN m (F.qcr m M) (0,List.replicate N (0:Int))=some ((N:Int),li N fun k=>k):=by
 have hx:=qax (body:=F.qcr m M) (fun k=>((k:Int),li N (fill (fun k=>k) k))) N (r:=((N:Int),li N fun k=>k)) (fun k hk=>?_) ?_ m (by omega)
 ·
  have e:((0:Nat):Int)=0:=rfl
  rw [←li_empty,e] at hx; exact hx
 ·
  have hs:(li N (fill (fun k=>k) k)).set k (k:Int)=li N (fill (fun k=>k) (k+1)):=li_fill (N:=N) (f:=fun k=>k) (k:=k)
  unfold F.qcr
  dsimp only
  rw [List.length_replicate,hM,Int.toNat_natCast,dT (by omega),kT,qbe,li_at hk,bB,qaj (by omega) (by omega),bB,Int.toNat_natCast,hs]
  rfl
 ·
  unfold F.qcr
  dsimp only
  rw [List.length_replicate,hM,Int.toNat_natCast,dF (by omega),kF,li_full]
theorem fo_id (N:Nat):Fo N 0 (li N fun k=>k) fun k=>k:=⟨li_len,fun h hh=>⟨0,Nat.le_refl _,.root (li_at hh)⟩⟩
theorem join_run {D:Nat} {p:List Int} {R:Nat→Nat} (f:Fo N D p R) {a b:Nat} (ha:a<N) (hb:b<N) (m:Nat) (hm:D<m) {α:Type} (K:List Int→Option α):
  ∃p',Fo N (D+1) p' (U R a b)∧((F.qbb m (a:Int) p).bind fun y74=>(F.qbb m (b:Int) y74.2).bind fun y79=>(Ev.get y79.2 y74.1).bind fun x84=>K (y79.2.set y74.1.toNat y79.1))=K p':=by
 obtain ⟨p1,q1,f1⟩:=f.find ha m hm
 obtain ⟨p2,q2,f2⟩:=f1.find hb m hm
 have f3:=f2.join ha hb
 refine ⟨_,f3,?_⟩
 rw [q1,bB]
 dsimp only
 rw [q2,bB]
 dsimp only
 rw [get_at rfl (f2.top ha).1,bB,Int.toNat_natCast]
theorem arc1 (hM:M.length=N) (hμ: ∀k,k<N→M[k]? =some (μ k:Int)∧μ k<N) (hN:N≤1000) (m:Nat) (hm:10000≤m): ∃o,loopN m (F.qeb m M) (0,li N fun k=>k)=some o∧Fo N N o.2 (uf (mtP N μ)):=by
 refine qby (fun s=> ∃i:Nat,i≤N∧s.1=(i:Int)∧Fo N i s.2 (uf ((mtP N μ).take i))) (fun s=>N-s.1.toNat) _ ?_ m _ ⟨0,Nat.zero_le _,rfl,fo_id N⟩ (by show N-(0:Int).toNat<m; omega)
 rintro ⟨s1,s2⟩ ⟨i,hi,e1,f⟩
 dsimp only at e1 f
 subst e1
 unfold F.qeb
 dsimp only
 by_cases hlt:i<N
 ·
  left
  obtain ⟨g1,g2⟩:=hμ i hlt
  obtain ⟨p',f',e⟩:=join_run f hlt g2 m (by omega) (fun q=>(chk ((i:Int)+1)).bind fun z91=>some (Sum.inl (β:=Int×List Int) (z91,q)))
  refine ⟨((i:Int)+1,p'),?_,⟨i+1,hlt,rfl,?_⟩,?_⟩
  · rw [dT (by omega),kT,get_at rfl g1,bB,e,qaj (by omega) (by omega),bB]
  · rw [mtP_take hlt,uf_snoc]; exact f'
  · show N-((i:Int)+1).toNat<N-(i:Int).toNat; omega
 ·
  right
  rw [dF (by omega),kF]
  refine ⟨_,rfl,?_⟩
  have e:i=N:=by omega
  subst e
  have e2:(mtP i μ).take i=mtP i μ:=List.take_of_length_le (by simp [mtP])
  rw [e2] at f; exact f
theorem arc2 {C:Nat} (hC:sg.length=C) (hN:4*C=N) (hN1:N≤1000) {p:List Int} {l:List (Nat×Nat)} (f0:Fo N N p (uf l)) (m:Nat) (hm:10000≤m): ∃o,loopN m (F.qea m sg) (0,p)=some o∧Fo N (N+C) o.2 (uf (l++ovP C)):=by
 refine qby (fun s=> ∃i:Nat,i≤C∧s.1=(i:Int)∧Fo N (N+i) s.2 (uf (l++(ovP C).take i))) (fun s=>C-s.1.toNat) _ ?_ m _ ⟨0,Nat.zero_le _,rfl,by rw [List.take_zero,List.append_nil]; exact f0⟩ (by show C-(0:Int).toNat<m; omega)
 rintro ⟨s1,s2⟩ ⟨i,hi,e1,f⟩
 dsimp only at e1 f
 subst e1
 unfold F.qea
 dsimp only
 by_cases hlt:i<C
 ·
  left
  obtain ⟨p1,q1,f1⟩:=f.find (h:=4*i+1) (by omega) m (by omega)
  obtain ⟨p2,q2,f2⟩:=f1.find (h:=4*i+3) (by omega) m (by omega)
  have f':=f2.join (a:=4*i+1) (b:=4*i+3) (by omega) (by omega)
  have a1:(4*(i:Int)+1)=((4*i+1:Nat):Int):=by omega
  have a2:(4*(i:Int)+3)=((4*i+3:Nat):Int):=by omega
  refine ⟨((i:Int)+1,p2.set (uf (l++(ovP C).take i) (4*i+1)) (uf (l++(ovP C).take i) (4*i+3):Int)),?_,⟨i+1,hlt,rfl,?_⟩,?_⟩
  rotate_left
  · rw [ovP_take hlt,←List.append_assoc,uf_snoc]; exact f'
  · show C-((i:Int)+1).toNat<C-(i:Int).toNat; omega
  ·
   rw [dT (by omega),kT,qaj (z:=4*(i:Int)) (by omega) (by omega),bB,qaj (by omega) (by omega),bB,a1,q1,bB]
   dsimp only
   rw [bB,qaj (by omega) (by omega),bB,a2,q2,bB]
   dsimp only
   rw [get_at rfl (f2.top (h:=4*i+1) (by omega)).1,bB,qaj (by omega) (by omega),bB,Int.toNat_natCast]
 ·
  right
  rw [dF (by omega),kF]
  refine ⟨_,rfl,?_⟩
  have e:i=C:=by omega
  subst e
  have e2:(ovP i).take i=ovP i:=List.take_of_length_le (by simp [ovP])
  rw [e2] at f; exact f
theorem arc3 {D:Nat} {p:List Int} {R:Nat→Nat} (hM:M.length=N) (hN1:N≤1000) (f0:Fo N D p R) (m:Nat) (hm:10000≤m) (hD:D<m):
  ∃o,loopN m (F.qec m M) (0,p,([]:List (Int×Int)),List.replicate N (0:Int))=some o∧o.2.2.1.length=(ky R N).length∧o.2.2.2=li N fun j=>(ky R N).idxOf (R j):=by
 have hky: ∀k,k≤N→(ky R k).length≤k:=fun k _=>by
  induction k with
  | zero=>exact Nat.le_refl _
  | succ k ih=>
   rw [ky_succ]
   split
   · have:=ih (by omega); omega
   · rw [List.length_append,List.length_singleton]; have:=ih (by omega); omega
 refine qby (fun s=> ∃i:Nat,i≤N∧s.1=(i:Int)∧Fo N D s.2.1 R∧s.2.2.1=mmf (ky R i) 0∧s.2.2.2=li N fun j=>if j<i then (ky R N).idxOf (R j) else 0) (fun s=>N-s.1.toNat) _ ?_ m _ ⟨0,Nat.zero_le _,rfl,f0,rfl,?_⟩ (by show N-(0:Int).toNat<m; omega)
 ·
  rintro ⟨s1,s2,s3,s4⟩ ⟨i,hi,e1,f,e3,e4⟩
  dsimp only at e1 f e3 e4
  subst e1 e3 e4
  unfold F.qec
  dsimp only
  rw [List.length_replicate,hM,Int.toNat_natCast]
  by_cases hlt:i<N
  ·
   left
   obtain ⟨p',q1,f'⟩:=f.find hlt m hD
   have hk:=hky i hi
   have hset: ∀v:Nat,v=(ky R N).idxOf (R i)→(li N fun j=>if j<i then (ky R N).idxOf (R j) else 0).set i (v:Int)=li N fun j=>if j<i+1 then (ky R N).idxOf (R j) else 0:=fun v hv=>by
    rw [li_set]
    refine qez fun j hj=>?_
    by_cases e:j=i
    · subst e; rw [if_pos rfl,if_pos (by omega),hv]
    ·
     rw [if_neg e]
     by_cases e2:j<i
     · rw [if_pos e2,if_pos (by omega)]
     · rw [if_neg e2,if_neg (by omega)]
   rw [dT (by omega),kT,q1,bB]
   dsimp only
   rw [mmf_get,Nat.zero_add]
   by_cases hm2:R i∈ky R i
   ·
    have hx:=ky_idx R (Nat.le_of_lt hlt) hm2
    have hb:=List.idxOf_lt_length_iff.2 hm2
    have hks:ky R (i+1)=ky R i:=by rw [ky_succ,if_pos hm2]
    refine ⟨((i:Int)+1,p',mmf (ky R i) 0,(li N fun j=>if j<i then (ky R N).idxOf (R j) else 0).set i (((ky R i).idxOf (R i):Nat):Int)),?_,⟨i+1,hlt,rfl,f',by rw [hks],hset _ hx.2.symm⟩,?_⟩
    · rw [if_pos hm2,Option.getD_some,qaj (by omega) (by omega),bB,Option.isSome_some,Bool.not_true,kF,bB,qbe,li_at hlt,bB,qaj (by omega) (by omega),bB,Int.toNat_natCast]
    · show N-((i:Int)+1).toNat<N-(i:Int).toNat; omega
   ·
    have hks:ky R (i+1)=ky R i++[R i]:=by rw [ky_succ,if_neg hm2]
    have hmm:mmf (ky R i) 0++[((R i:Int),((mmf (ky R i) 0).length:Int))]=mmf (ky R (i+1)) 0:=by
     rw [hks,mmf_snoc,mmf_len,Nat.zero_add]
    have hin:R i∈ky R (i+1):=ky_mem R (Nat.lt_succ_self i)
    have hx:=ky_idx R (show i+1≤N by omega) hin
    have hb:=List.idxOf_lt_length_iff.2 hin
    have hk1:=hky (i+1) (by omega)
    refine ⟨((i:Int)+1,p',mmf (ky R i) 0++[((R i:Int),((mmf (ky R i) 0).length:Int))],(li N fun j=>if j<i then (ky R N).idxOf (R j) else 0).set i (((ky R (i+1)).idxOf (R i):Nat):Int)),?_,⟨i+1,hlt,rfl,f',hmm,hset _ hx.2.symm⟩,?_⟩
    · rw [if_neg hm2,Option.getD_none,qaj (by omega) (by omega),bB,Option.isSome_none,Bool.not_false,kT,qaj (by rw [mmf_len]; omega) (by rw [mmf_len]; omega),bB,show nok (none:Option Int)=some () from rfl,bB,hmm,mmf_get,if_pos hin,Nat.zero_add,Option.getD_some,qaj (by omega) (by omega),bB,qbe,li_at hlt,bB,qaj (by omega) (by omega),bB,Int.toNat_natCast]
    · show N-((i:Int)+1).toNat<N-(i:Int).toNat; omega
  ·
   right
   rw [dF (by omega),kF]
   have e:i=N:=by omega
   subst e
   exact ⟨_,rfl,by dsimp only; rw [mmf_len],qez fun j hj=>if_pos hj⟩
 ·
  dsimp only
  rw [li_rep]
  exact qez fun j _=>by rw [if_neg (by omega)]
theorem arcs_run {lo:Int} (hM:M.length=N) (hμ: ∀k,k<N→M[k]? =some (μ k:Int)∧μ k<N) (hC:4*sg.length=N) (hN:N≤1000) (m:Nat) (hm:10000≤m):
  ∃(A:Nat→Nat) (cnt:Nat),cnt≤N∧F.qgn m sg M lo=some (li N A,(cnt:Int))∧ArcS N (mtP N μ++ovP sg.length) A cnt:=by
 obtain ⟨⟨a1,b1⟩,q1,f1⟩:=arc1 hM hμ hN m hm
 obtain ⟨⟨a2,b2⟩,q2,f2⟩:=arc2 rfl hC hN f1 m hm
 obtain ⟨⟨a3,b3,c3,d3⟩,q3,e1,e2⟩:=arc3 hM hN f2 m hm (by omega)
 dsimp only at e1 e2
 have hcnt:(ky (uf (mtP N μ++ovP sg.length)) N).length≤N:=by
  generalize uf (mtP N μ++ovP sg.length)=R
  have: ∀k,(ky R k).length≤k:=fun k=>by
   induction k with
   | zero=>exact Nat.le_refl _
   | succ k ih=>
    rw [ky_succ]
    split
    · omega
    · rw [List.length_append,List.length_singleton]; omega
  exact this N
 refine ⟨_,_,hcnt,?_,arcS_of N (mtP N μ++ovP sg.length)⟩
 unfold F.qgn
 rw [hM,qep (by omega) (by omega),bB,Int.toNat_natCast,arc0 hM hN m hm,bB]
 dsimp only
 rw [q1,bB]
 dsimp only
 rw [q2,bB]
 dsimp only
 rw [bB,q3,bB]
 dsimp only
 rw [qaj (by omega) (by omega),bB,e1,e2]
