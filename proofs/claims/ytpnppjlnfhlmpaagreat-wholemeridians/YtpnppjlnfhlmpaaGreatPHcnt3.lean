import Derived.Test.YtpnppjlnfhlmpaaGreatPGint
set_option linter.all false
namespace Go.Proofs.YtpnppjlnfhlmpaaGreat
open Ev
namespace Ho
open Gar
def Pe (n:Nat) (p:List Int):Prop:= ∃f g,Pm n f g∧p=li n f
def mu (p q:List Int):List Int:=p.map fun i=>q.getD i.toNat 0
def un (n:Nat):List Int:=li n fun k=>k
open Classical in
noncomputable def iv (n:Nat) (p:List Int):List Int:=if h: ∃g,∃f,Pm n f g∧p=li n f then li n h.choose else []
section
variable {n : Nat} {p q r : List Int}
theorem pm_id (n:Nat):Pm n (fun k=>k) (fun k=>k):=⟨fun _ _=>rfl,fun _=>rfl,fun _=>rfl⟩
theorem pm_comp {f g f' g':Nat→Nat} (h:Pm n f g) (h':Pm n f' g'):Pm n (fun k=>f' (f k)) (fun k=>g (g' k)):=
 ⟨fun k hk=>by rw [h.fix k hk,h'.fix k hk],fun k=>by rw [h'.gf,h.gf],fun k=>by rw [h.fg,h'.fg]⟩
theorem mu_li {f g:Nat→Nat} (h:Pm n f g) (f':Nat→Nat):mu (li n f) (li n f')=li n fun k=>f' (f k):=by
 show ((List.range n).map fun k=>((f k:Nat):Int)).map (fun i=>(li n f').getD i.toNat 0)=(List.range n).map fun k=>((f' (f k):Nat):Int)
 rw [Yu]
 refine Xd fun k hk=>?_
 rw [Qg] at hk
 show (li n f').getD ((f k:Nat):Int).toNat 0=_
 rw [Qc,Qb,li_at (h.lt hk),Xi]
theorem iv_li {f g:Nat→Nat} (h:Pm n f g):iv n (li n f)=li n g:=by
 have hex: ∃g',∃f',Pm n f' g'∧li n f=li n f':=⟨g,f,h,rfl⟩
 unfold iv
 rw [dif_pos hex]
 obtain ⟨f',h1,h2⟩:=hex.choose_spec
 have e:=li_eq h.fix h1.fix h2
 refine li_ext fun k _=>?_
 have:=h.fg k
 have h3:=h1.gf (g k)
 rw [←e,this] at h3
 exact h3
theorem Pe.len (h:Pe n p):p.length=n:=by obtain ⟨f,g,_,rfl⟩:=h; exact li_len
theorem Pe.un (n:Nat):Pe n (un n):=⟨_,_,pm_id n,rfl⟩
theorem Pe.mu (h:Pe n p) (k:Pe n q):Pe n (mu p q):=by
 obtain ⟨f,g,h1,rfl⟩:=h; obtain ⟨f',g',h2,rfl⟩:=k
 exact ⟨_,_,pm_comp h1 h2,mu_li h1 f'⟩
theorem Pe.iv (h:Pe n p):Pe n (iv n p):=by
 obtain ⟨f,g,h1,rfl⟩:=h
 exact ⟨g,f,h1.symm,iv_li h1⟩
theorem qdq (h:Pe n p) (k:Pe n q) (l:Pe n r):mu (mu p q) r=mu p (mu q r):=by
 obtain ⟨f,g,h1,rfl⟩:=h; obtain ⟨f',g',h2,rfl⟩:=k; obtain ⟨f2,g2,h3,rfl⟩:=l
 rw [mu_li h1,mu_li h2,mu_li h1,mu_li (pm_comp h1 h2)]
theorem un_mu (h:Pe n p):mu (un n) p=p:=by
 obtain ⟨f,g,h1,rfl⟩:=h
 exact mu_li (pm_id n) f
theorem mu_un (h:Pe n p):mu p (un n)=p:=by
 obtain ⟨f,g,h1,rfl⟩:=h
 exact mu_li h1 _
theorem mu_iv (h:Pe n p):mu p (iv n p)=un n:=by
 obtain ⟨f,g,h1,rfl⟩:=h
 rw [iv_li h1,mu_li h1]
 exact li_ext fun k _=>h1.gf k
theorem iv_mu (h:Pe n p):mu (iv n p) p=un n:=by
 obtain ⟨f,g,h1,rfl⟩:=h
 rw [iv_li h1,mu_li h1.symm]
 exact li_ext fun k _=>h1.fg k
theorem iv_iv (h:Pe n p):iv n (iv n p)=p:=by
 obtain ⟨f,g,h1,rfl⟩:=h
 rw [iv_li h1,iv_li h1.symm]
theorem mu_left (h:Pe n p) (k:Pe n q) (l:Pe n r) (e:mu p q=mu p r):q=r:=by
 have:=congrArg (mu (iv n p)) e
 rwa [←qdq h.iv h k,←qdq h.iv h l,iv_mu h,un_mu k,un_mu l] at this
theorem mu_right (h:Pe n p) (k:Pe n q) (l:Pe n r) (e:mu q p=mu r p):q=r:=by
 have:mu (mu q p) (iv n p)=mu (mu r p) (iv n p):=by rw [e]
 rwa [qdq k h h.iv,qdq l h h.iv,mu_iv h,mu_un k,mu_un l] at this
theorem conj_iff (h:Pe n p) (k:Pe n q) (l:Pe n r):mu (mu p q) (iv n p)=r↔mu p q=mu r p:=by
 constructor
 ·
  intro e
  rw [←e,qdq (h.mu k) h.iv h,iv_mu h,mu_un (h.mu k)]
 ·
  intro e
  rw [e,qdq l h h.iv,mu_iv h,mu_un l]
theorem conj_iff' (h:Pe n p) (k:Pe n q) (l:Pe n r):mu (mu (iv n p) q) p=r↔mu q p=mu p r:=by
 constructor
 ·
  intro e
  rw [←e,←qdq h (h.iv.mu k) h,←qdq h h.iv k,mu_iv h,un_mu k]
 ·
  intro e
  rw [qdq h.iv k h,e,←qdq h.iv h l,iv_mu h,un_mu l]
end
/-! Values of words. -/
noncomputable def lt (n:Nat) (x:List (List Int)) (y:Int):List Int:=if 0<y then x.getD (y.toNat-1) [] else iv n (x.getD ((-y).toNat-1) [])
noncomputable def ev (n:Nat) (x:List (List Int)) (w:List Int):List Int:=w.foldl (fun v y=>mu v (lt n x y)) (un n)
structure Tu (n s:Nat) (x:List (List Int)):Prop where
 len:x.length=s
 pe: ∀p∈x,Pe n p
section
variable {n s : Nat} {x : List (List Int)}
theorem Tu.at_ (h:Tu n s x) {k:Nat} (hk:k<s):Pe n (x.getD k []):=by
 have hl:k<x.length:=by rw [h.len]; exact hk
 rw [Qc,gE hl,Xi]
 exact h.pe _ (Qj hl)
theorem Tu.lt (h:Tu n s x) {y:Int} (hy:Lr s y):Pe n (lt n x y):=by
 unfold Lr at hy
 unfold Ho.lt
 split
 · exact h.at_ (by omega)
 · exact (h.at_ (by omega)).iv
theorem Tu.fold (h:Tu n s x): ∀(w:List Int) (v:List Int),Pe n v→(∀y∈w,Lr s y)→Pe n (w.foldl (fun v y=>mu v (Ho.lt n x y)) v)
 | [],_,hv,_=>hv
 | y::w,v,hv,hw=>h.fold w _ (hv.mu (h.lt (hw y Ql))) fun z hz=>hw z (Qf _ hz)
theorem Tu.ev (h:Tu n s x) {w:List Int} (hw: ∀y∈w,Lr s y):Pe n (ev n x w):=h.fold w _ (Pe.un n) hw
theorem fold_mu (h:Tu n s x): ∀(w:List Int) (v:List Int),Pe n v→(∀y∈w,Lr s y)→w.foldl (fun v y=>mu v (lt n x y)) v=mu v (ev n x w)
 | [],v,hv,_=>(mu_un hv).symm
 | y::w,v,hv,hw=>by
  have hy:=h.lt (hw y Ql)
  have hw': ∀z∈w,Lr s z:=fun z hz=>hw z (Qf _ hz)
  unfold ev
  rw [Y2,Y2,fold_mu h w _ (hv.mu hy) hw',fold_mu h w _ ((Pe.un n).mu hy) hw',un_mu hy,qdq hv hy (h.ev hw')]
theorem ev_cons (h:Tu n s x) {y:Int} {w:List Int} (hw: ∀z∈y::w,Lr s z):ev n x (y::w)=mu (lt n x y) (ev n x w):=by
 have hy:=h.lt (hw y Ql)
 have hw': ∀z∈w,Lr s z:=fun z hz=>hw z (Qf _ hz)
 rw [show ev n x (y::w)=w.foldl (fun v y=>mu v (lt n x y)) (mu (un n) (lt n x y)) from rfl,un_mu hy,fold_mu h w _ hy hw']
theorem lt_neg (h:Tu n s x) {y:Int} (hy:Lr s y):lt n x (-y)=iv n (lt n x y):=by
 unfold Lr at hy
 unfold lt
 by_cases h0:0<y
 · rw [if_pos h0,if_neg (by omega),Int.neg_neg]
 · rw [if_neg h0,if_pos (by omega),iv_iv (h.at_ (by omega))]
theorem ev_ipush (h:Tu n s x) {a:Int} {w:List Int} (hw: ∀z∈a::w,Lr s z):ev n x (ipush a w)=ev n x (a::w):=by
 cases w with
 | nil=>rfl
 | cons b t=>
  by_cases e:a=-b
  ·
   rw [ipush_eq a b t e]
   have hb:Lr s b:=hw b (by simp)
   have ht: ∀z∈t,Lr s z:=fun z hz=>hw z (by simp [hz])
   rw [ev_cons h hw,ev_cons h (fun z hz=>hw z (Qf _ hz)),e,lt_neg h hb,←qdq (h.lt hb).iv (h.lt hb) (h.ev ht),iv_mu (h.lt hb),un_mu (h.ev ht)]
  · rw [qgs e]
theorem ird_sub {w:List Int}: ∀y∈ird w,y∈w:=by
 induction w with
 | nil=>exact fun y hy=>hy
 | cons a l ih=>
  intro y hy
  unfold ird at hy
  have key: ∀(m:List Int),(∀z∈m,z∈l)→y∈ipush a m→y∈a::l:=by
   intro m hm hy
   cases m with
   | nil=>simp only [ipush,Qq] at hy; rw [hy]; exact Ql
   | cons b t=>
    by_cases e:a=-b
    ·
     rw [ipush_eq a b t e] at hy
     exact Qf _ (hm y (Qf _ hy))
    ·
     rw [qgs e] at hy
     rcases Qp.1 hy with e | e
     · rw [e]; exact Ql
     · exact Qf _ (hm y e)
  exact key _ ih hy
theorem ev_ird (h:Tu n s x): ∀{w:List Int},(∀z∈w,Lr s z)→ev n x (ird w)=ev n x w
 | [],_=>rfl
 | a::w,hw=>by
  have hw': ∀z∈w,Lr s z:=fun z hz=>hw z (Qf _ hz)
  have hr: ∀z∈a::ird w,Lr s z:=fun z hz=>by
   rcases Qp.1 hz with e | e
   · rw [e]; exact hw a Ql
   · exact hw' z (ird_sub z e)
  show ev n x (ipush a (ird w))=_
  rw [ev_ipush h hr,ev_cons h hr,ev_cons h hw,ev_ird h hw']
end
end Ho
end Go.Proofs.YtpnppjlnfhlmpaaGreat

set_option linter.all false
namespace Go.Proofs.YtpnppjlnfhlmpaaGreat
open Ev
namespace Ho
open Gar
section
variable {n : Nat}
theorem mu_len (v p:List Int):(mu v p).length=v.length:=by unfold mu; exact Qu ..
theorem Pe.rng {p:List Int} (h:Pe n p): ∀k,k<n→∃a:Nat,a<n∧p[k]? =some (a:Int):=fun k hk=>by
 obtain ⟨f,g,h1,rfl⟩:=h
 exact ⟨f k,h1.lt hk,li_at hk⟩
theorem mul2_run {v p:List Int} (hv:Pe n v) (hp:Pe n p) (m:Nat) (hm:n<m) (hb:n≤1000):loopN m (F.qbs m v p) (0,v)=some ((n:Int),mu v p):=by
 have hl:=hv.len
 have hx:=qba (body:=F.qbs m v p) (fun k=>((k:Int),(mu v p).take k++v.drop k)) n (r:=((n:Int),mu v p)) (fun k hk=>?_) ?_ m hm
 · simpa using hx
 ·
  obtain ⟨a,ha,e1⟩:=hv.rng k hk
  obtain ⟨b,hb2,e2⟩:=hp.rng a ha
  have eM:(mu v p)[k]? =some (b:Int):=by
   unfold mu
   rw [Qm,e1,X9,Qb,Qc,e2,Xi]
  have hlt:((mu v p).take k).length=k:=by rw [Xx,mu_len,hl]; omega
  have eq:((mu v p).take k++v.drop k)[k]? =some (a:Int):=by
   rw [Yi (by omega),hlt,Zm,Nat.sub_self,Yw,e1]
  have hs:((mu v p).take k++v.drop k).set k (b:Int)=(mu v p).take (k+1)++v.drop (k+1):=by
   apply Qw
   intro i
   have hlt1:((mu v p).take (k+1)).length=k+1:=by rw [Xx,mu_len,hl]; omega
   rcases Yk i k with h | h | h
   · rw [Ym (by omega),Ye (by omega),Ye (by omega),Xp h,Xp (by omega)]
   ·
    subst h
    rw [Yh (by rw [Qr,hlt,List.length_drop,hl]; omega),Ye (by omega),Xp (by omega),eM]
   ·
    rw [Ym (by omega),Yi (by omega),Yi (by omega),hlt,hlt1,Zm,Zm]
    congr 1; omega
  unfold F.qbs
  dsimp only
  rw [dT (by rw [hl]; omega),kT,get_at rfl eq,bB,get_at rfl e2,bB,bB,qal (by omega) (by omega),bB,Qb,hs]
  rfl
 ·
  unfold F.qbs
  dsimp only
  rw [dF (by rw [hl]; omega),kF,Xo (by rw [mu_len,hl]; exact Xb _),Zw (by rw [hl]; exact Xb _),Yf]
structure Al (n k:Nat) (x l inv:List (List Int)):Prop where
 tu:Tu n k x
 l1:l.take k=x
 l2:inv.take k=x.map (iv n)
theorem Al.at1 {k:Nat} {x l inv:List (List Int)} (h:Al n k x l inv) {i:Nat} (hi:i<k):l[i]? =some (x.getD i []):=by
 have hx:i<x.length:=by rw [h.tu.len]; exact hi
 have:=Xp (l:=l) hi
 rw [←this,h.l1,gE hx,Qc,gE hx,Xi]
theorem Al.at2 {k:Nat} {x l inv:List (List Int)} (h:Al n k x l inv) {i:Nat} (hi:i<k):inv[i]? =some (iv n (x.getD i [])):=by
 have hx:i<x.length:=by rw [h.tu.len]; exact hi
 have:=Xp (l:=inv) hi
 rw [←this,h.l2,Qm,gE hx,Qc,gE hx,Xi]
 rfl
theorem Al.more {k:Nat} {x l inv:List (List Int)} (h:Al n k x l inv) {p:List Int} (hp:Pe n p) (h1:k<l.length) (h2:k<inv.length):Al n (k+1) (x++[p]) (l.set k p) (inv.set k (iv n p)):=by
 have key: ∀(l:List (List Int)) (q:List Int),k<l.length→(l.set k q).take (k+1)=l.take k++[q]:=fun l q hk=>by
  apply Qw
  intro i
  have hl:(l.take k).length=k:=by rw [Xx]; omega
  rcases Yk i k with h | h | h
  · rw [Xp (by omega),Ym (by omega),Ye (by omega),Xp h]
  ·
   subst h
   rw [Xp (by omega),Yh hk,Yi (by omega),hl,Nat.sub_self]; rfl
  · rw [Qk (by rw [Xx,Xs]; omega),Qk (by rw [Qr,hl]; simp; omega)]
 refine ⟨⟨by rw [Qr,h.tu.len]; rfl,fun q hq=>?_⟩,by rw [key l p h1,h.l1],by rw [key inv _ h2,h.l2,Xn]; rfl⟩
 rcases Qs.1 hq with e | e
 · exact h.tu.pe q e
 · rw [Qq] at e; rw [e]; exact hp
theorem mul_run {k:Nat} {x l inv:List (List Int)} (h:Al n k x l inv) (hk:k≤1000) (hn:n≤1000) {w v:List Int} (hv:Pe n v) (hw: ∀y∈w,Lr k y) (hl:w.length≤100000) (m:Nat) (hm:200000≤m):
  F.qgh m v w l inv=some (w.foldl (fun v y=>mu v (lt n x y)) v):=by
 have pe: ∀i,Pe n ((w.take i).foldl (fun v y=>mu v (lt n x y)) v):=fun i=>h.tu.fold _ v hv fun y hy=>hw y (List.mem_of_mem_take hy)
 unfold F.qgh
 have hx:=qba (body:=F.qea m v w l inv) (fun i=>((i:Int),(w.take i).foldl (fun v y=>mu v (lt n x y)) v)) w.length (r:=((w.length:Int),w.foldl (fun v y=>mu v (lt n x y)) v)) (fun i hi=>?_) ?_ m (by omega)
 · rw [show loopN m (F.qea m v w l inv) (0,v)=some ((w.length:Int),w.foldl (fun v y=>mu v (lt n x y)) v) by simpa using hx,bB]
 ·
  have hy:=hw w[i] (Qj hi)
  have e1:w[i]? =some w[i]:=gE hi
  have e2:w.take (i+1)=w.take i++[w[i]]:=by rw [List.take_succ,e1]; rfl
  have hv1:=(pe i).len
  have hvl:v.length=n:=hv.len
  have st: ∀(p:List Int) (b:Bool),Pe n p→F.qfb m v (i:Int) ((w.take i).foldl (fun v y=>mu v (lt n x y)) v) p b=some (.inl ((i:Int)+1,mu ((w.take i).foldl (fun v y=>mu v (lt n x y)) v) p)):=fun p b hp=>by
   unfold F.qfb
   have:=mul2_run (pe i) hp m (by omega) hn
   have hb: ∀a,F.qbs m v p a=F.qbs m ((w.take i).foldl (fun v y=>mu v (lt n x y)) v) p a:=fun a=>by
    unfold F.qbs; rw [hv1,hvl]
   rw [show F.qbs m v p=F.qbs m ((w.take i).foldl (fun v y=>mu v (lt n x y)) v) p from funext hb,this,bB]
   dsimp only
   rw [qal (by omega) (by omega),bB]
  unfold F.qea
  dsimp only
  unfold Lr at hy
  rw [dT (by omega),kT,get_at rfl e1,bB,e2,Y5]
  by_cases h0:0<w[i]
  ·
   rw [dT h0,kT,qal (by omega) (by omega),bB,get_at (k:=w[i].toNat-1) (by omega) (h.at1 (by omega)),bB,st _ _ (h.tu.at_ (by omega))]
   show _=some (Sum.inl (((i+1:Nat):Int),mu _ (lt n x w[i])))
   unfold lt
   rw [if_pos h0]; rfl
  ·
   rw [dF h0,kF,qal (by omega) (by omega),bB,qal (by omega) (by omega),bB,get_at (k:=(-w[i]).toNat-1) (by omega) (h.at2 (by omega)),bB,st _ _ (h.tu.at_ (by omega)).iv]
   show _=some (Sum.inl (((i+1:Nat):Int),mu _ (lt n x w[i])))
   unfold lt
   rw [if_neg h0]; rfl
 ·
  unfold F.qea
  dsimp only
  rw [dF (by omega),kF,Xl]
/-! The relators of one generator. -/
theorem rel_run {k:Nat} {x l inv:List (List Int)} {gen:Nat} {p q:List Int} (h:Al n k x (l.set gen p) (inv.set gen q)) (hk:k≤1000) (hn:n≤1000) {rs:List (List Int)} (hr: ∀r∈rs,(∀y∈r,Lr k y)∧r.length≤100000) (hl:rs.length≤1000) {v:List Int} (hv:v.length=n)
  (m:Nat) (hm:200000≤m) (self:Int→Int→List Int→List (List Int)→Int→List (List Int)→List (List Int)→Int→List (List Int)→List (List (List Int))→List Int→List Int→Option (Bool×List (List Int)×List (List Int)×List Int×Int×Int)):
  ∃o,loopN m (F.qgr self m (gen:Int) (un n) l inv p q rs) (0,v)=some o∧(match o with | .inl s=>s.2.length=n∧∀r∈rs,ev n x r=un n | .inr s=>s.2.length=n∧¬∀r∈rs,ev n x r=un n):=by
 refine qbq (fun s=> ∃i:Nat,i≤rs.length∧s.1=(i:Int)∧s.2.length=n∧∀r∈rs.take i,ev n x r=un n) (fun s=>rs.length-s.1.toNat) _ ?_ m (0,v) ⟨0,Xk _,rfl,hv,by simp⟩ (by show rs.length-(0:Int).toNat<m; omega)
 rintro ⟨s1,s2⟩ ⟨i,hi,e1,hs,ha⟩
 dsimp only at e1 hs
 subst e1
 unfold F.qgr
 dsimp only
 by_cases hlt:i<rs.length
 ·
  have eg:rs[i]? =some rs[i]:=gE hlt
  obtain ⟨r1,r2⟩:=hr rs[i] (Qj hlt)
  have hmin:min (un n).length s2.length=n:=by rw [(Pe.un n).len,hs]; exact Nat.min_self n
  have ecp:(un n).take n++s2.drop n=un n:=by rw [Xo (by rw [(Pe.un n).len]; exact Xb _),Zw (by rw [hs]; exact Xb _),Yf]
  have pe:=h.tu.ev r1
  obtain ⟨b,q1,q2⟩:=equalP (a:=ev n x rs[i]) (b:=un n) m (by rw [pe.len]; omega) (by rw [pe.len]; omega)
  have ht:rs.take (i+1)=rs.take i++[rs[i]]:=by rw [List.take_succ,eg]; rfl
  have hbody:(cond (decide ((i:Int)<(rs.length:Int))) ((get rs (i:Int)).bind fun x117=>(F.qgh m ((un n).take (min (un n).length s2.length)++s2.drop (min (un n).length s2.length)) x117 (l.set (gen:Int).toNat p) (inv.set (gen:Int).toNat q)).bind fun y131=>(F.qdc m y131 (un n)).bind fun y136=>cond (!y136) (some (Sum.inr (Sum.inr ((i:Int),y131)))) ((chk ((i:Int)+1)).bind fun z142=>some (Sum.inl (z142,y131)))) (some (Sum.inr (Sum.inl ((i:Int),s2)))))=cond (!b) (some (Sum.inr (Sum.inr ((i:Int),ev n x rs[i])))) (some (Sum.inl ((i:Int)+1,ev n x rs[i]))):=by
   rw [dT (by omega),kT,get_at rfl eg,bB,hmin,ecp,Qb,mul_run h hk hn (Pe.un n) r1 r2 m hm,bB]
   rw [show rs[i].foldl (fun v y=>mu v (lt n x y)) (un n)=ev n x rs[i] from rfl,q1,bB,qal (by omega) (by omega),bB]
  rw [hbody]
  cases b with
  | true=>
   left
   refine ⟨_,rfl,⟨i+1,hlt,rfl,pe.len,fun r hm2=>?_⟩,by dsimp only; omega⟩
   rw [ht] at hm2
   rcases Qs.1 hm2 with e | e
   · exact ha r e
   · rw [Qq] at e; rw [e]; exact q2.1 rfl
  | false=>
   right
   refine ⟨_,rfl,pe.len,fun hall=>?_⟩
   have:=q2.2 (hall _ (Qj hlt))
   cases this
 ·
  right
  rw [dF (by omega),kF]
  refine ⟨_,rfl,hs,?_⟩
  rw [Xo (by omega)] at ha
  exact ha
end
end Ho
end Go.Proofs.YtpnppjlnfhlmpaaGreat

set_option linter.all false
namespace Go.Proofs.YtpnppjlnfhlmpaaGreat
open Ev
namespace Ho
open Gar
def okr (n:Nat) (rels:List (List (List Int))) (y:List (List Int)):Prop:= ∀r∈rels.getD (y.length-1) [],ev n y r=un n
open Classical in
noncomputable def cT (n:Nat) (C:List (List Int)) (rels:List (List (List Int))):Nat→List (List Int)→Nat
 | 0,_=>1
 | j+1,x=>(C.map fun c=>if okr n rels (x++[c]) then cT n C rels j (x++[c]) else 0).sum
theorem Al.less {n k:Nat} {x l inv:List (List Int)} {p:List Int} (h:Al n (k+1) (x++[p]) l inv) (ht:Tu n k x):Al n k x l inv:=by
 have hx:(x++[p]).take k=x:=by rw [Zd (by rw [ht.len]; exact Xb _),Xo (by rw [ht.len]; exact Xb _)]
 refine ⟨ht,?_,?_⟩
 ·
  have:=congrArg (List.take k) h.l1
  rwa [Zx,Zu (Nat.le_succ k),hx] at this
 ·
  have:=congrArg (List.take k) h.l2
  rw [Zx,Zu (Nat.le_succ k),←Z1,hx] at this
  exact this
theorem permIv {n:Nat} {c:List Int} (h:Pe n c) (m:Nat) (hm:n<m) (hn:n≤1000):F.qfy m c=some (iv n c):=by
 obtain ⟨f,g,h1,rfl⟩:=h
 rw [permInverse h1 m hm hn,iv_li h1]
section
variable {n gens : Nat} {C : List (List Int)} {rels : List (List (List Int))}
structure Good (n gens:Nat) (C:List (List Int)) (rels:List (List (List Int))):Prop where
 c: ∀p∈C,Pe n p
 cl:C.length≤1000
 nl:n≤1000
 gl:gens≤999
 rl:rels.length=gens
 r: ∀g,g<gens→(rels.getD g []).length≤1000∧∀r∈rels.getD g [],(∀y∈r,Lr (g+1) y)∧r.length≤100000
structure Aft (n gens gen:Nat) (x:List (List Int)) (l inv:List (List Int)) (v:List Int) (num eff:Int):Prop where
 al:Al n gen x l inv
 l1:l.length=gens
 l2:inv.length=gens
 vl:v.length=n
 n0:0≤num
 ne:num≤eff
 e1:eff≤200001
open Classical in
theorem try_run (G:Good n gens C rels) (g1:List Int) (g2:List (List Int)): ∀(j gen m:Nat) (x l inv:List (List Int)) (v:List Int) (num eff:Int),gen+j=gens→200000+j<m→Aft n gens gen x l inv v num eff→eff≤200000→(j=0→num+1≤eff)→
  ∃ok l' inv' v' num' eff',F.qcj m (gen:Int) (gens:Int) g1 g2 num l C eff inv rels v (un n)=some (ok,l',inv',v',num',eff')∧Aft n gens gen x l' inv' v' num' eff'∧(ok=true→eff'≤200000∧num'=num+cT n C rels j x)∧(ok=false→200000<eff'):=by
 intro j
 induction j with
 | zero=>
  intro gen m x l inv v num eff hg hm A he hj
  obtain ⟨m,rfl⟩: ∃m',m=m'+1:=⟨m-1,by omega⟩
  have h0:=A.n0; have h1:=A.ne
  refine ⟨true,l,inv,v,num+1,eff,?_,⟨A.al,A.l1,A.l2,A.vl,by omega,hj rfl,A.e1⟩,fun _=>⟨he,rfl⟩,fun h=>by cases h⟩
  rw [F.qcj,dT (by omega),kT]
  unfold F.qhu
  rw [qal (by omega) (by omega),bB,bB]
 | succ j ih=>
  intro gen m x l inv v num eff hg hm A he _
  obtain ⟨m,rfl⟩: ∃m',m=m'+1:=⟨m-1,by omega⟩
  rw [F.qcj,dF (by omega),kF]
  have hgl:=G.gl
  obtain ⟨r1,r2⟩:=G.r gen (by omega)
  have erel:rels[gen]? =some (rels.getD gen []):=by
   have hl:gen<rels.length:=by rw [G.rl]; omega
   rw [Qc,gE hl,Xi]
  obtain ⟨o,q1,q2⟩:=qbq (body:=F.qgq (F.qcj m) m (gen:Int) (gens:Int) g1 g2 C rels (un n))
   (fun s=> ∃i:Nat,i≤C.length∧s.1=(i:Int)∧Aft n gens gen x s.2.2.1 s.2.2.2.2.1 s.2.2.2.2.2 s.2.1 s.2.2.2.1∧s.2.2.2.1≤200000∧s.2.1=num+(((C.take i).map fun c=>if okr n rels (x++[c]) then cT n C rels j (x++[c]) else 0).sum:Nat))
   (fun s=>C.length-s.1.toNat)
   (fun r=>match r with
    | .inl s=>Aft n gens gen x s.2.2.1 s.2.2.2.2.1 s.2.2.2.2.2 s.2.1 s.2.2.2.1∧s.2.2.2.1≤200000∧s.2.1=num+(cT n C rels (j+1) x:Nat)
    | .inr s=>s.1=false∧Aft n gens gen x s.2.1 s.2.2.1 s.2.2.2.1 s.2.2.2.2.1 s.2.2.2.2.2∧200000<s.2.2.2.2.2) (by
    rintro ⟨s1,snum,sl,seff,sinv,sv⟩ ⟨i,hi,e1,B,be,bn⟩
    dsimp only at e1 B be bn
    subst e1
    unfold F.qgq
    dsimp only
    by_cases hlt:i<C.length
    ·
     have eg:C[i]? =some C[i]:=gE hlt
     have hc:=G.c _ (Qj hlt)
     have ht:C.take (i+1)=C.take i++[C[i]]:=by rw [Xc,eg]; rfl
     have b0:=B.n0; have b1:=B.ne; have b2:=G.cl
     rw [dT (by omega),kT,get_at rfl eg,bB,qal (by omega) (by omega),bB]
     by_cases hbig:200000<seff+1
     ·
      rw [dT hbig,kT]
      exact .inr ⟨_,rfl,rfl,⟨B.al,B.l1,B.l2,B.vl,b0,by dsimp only; omega,by dsimp only; omega⟩,hbig⟩
     ·
      have hl1:gen<sl.length:=by rw [B.l1]; omega
      have hl2:gen<sinv.length:=by rw [B.l2]; omega
      have M:=B.al.more hc hl1 hl2
      obtain ⟨o,q1,q2⟩:=rel_run M (by omega) G.nl r2 r1 B.vl m (by omega) (F.qcj m)
      rw [dF hbig,kF,permIv hc m (by have:=G.nl; omega) G.nl,bB,get_at rfl (gE hl1),bB,get_at rfl (gE hl2),bB,get_at rfl erel,bB,q1,bB,Qb]
      have hokr:okr n rels (x++[C[i]])↔∀r∈rels.getD gen [],ev n (x++[C[i]]) r=un n:=by
       unfold okr
       rw [Qr,B.al.tu.len,Xa,Nat.add_sub_cancel]
      cases o with
      | inl s=>
       obtain ⟨w1,w2⟩:=q2
       obtain ⟨k1,k2⟩:=s
       dsimp only at w1 w2
       dsimp only
       obtain ⟨ok,l',inv',v',num',eff',c1,c2,c3,c4⟩:=ih (gen+1) m (x++[C[i]]) (sl.set gen C[i]) (sinv.set gen (iv n C[i])) k2 snum (seff+1) (by omega) (by omega) ⟨M,by rw [Xs]; exact B.l1,by rw [Xs]; exact B.l2,w1,b0,by omega,by omega⟩ (by omega) (fun _=>by omega)
       rw [qal (by omega) (by omega),bB,show ((gen:Int)+1)=((gen+1:Nat):Int) by omega,c1,bB]
       dsimp only
       have C2:Aft n gens gen x l' inv' v' num' eff':=⟨c2.al.less B.al.tu,c2.l1,c2.l2,c2.vl,c2.n0,c2.ne,c2.e1⟩
       cases ok with
       | false=>exact .inr ⟨_,rfl,rfl,C2,c4 rfl⟩
       | true=>
        obtain ⟨d1,d2⟩:=c3 rfl
        left
        rw [Qi,kF,qal (by omega) (by omega),bB]
        refine ⟨_,rfl,⟨i+1,hlt,rfl,C2,d1,?_⟩,by dsimp only; omega⟩
        dsimp only
        rw [ht,Xn,Zt,d2,bn,List.map_singleton,List.sum_singleton,if_pos (hokr.2 w2)]
        omega
      | inr s=>
       obtain ⟨w1,w2⟩:=q2
       obtain ⟨k1,k2⟩:=s
       dsimp only at w1 w2
       dsimp only
       left
       rw [qal (by omega) (by omega),bB]
       refine ⟨_,rfl,⟨i+1,hlt,rfl,⟨M.less B.al.tu,by dsimp only; rw [Xs]; exact B.l1,by dsimp only; rw [Xs]; exact B.l2,w1,b0,by dsimp only; omega,by dsimp only; omega⟩,by dsimp only; omega,?_⟩,by dsimp only; omega⟩
       dsimp only
       rw [ht,Xn,Zt,bn,List.map_singleton,List.sum_singleton,if_neg (fun h=>w2 (hokr.1 h))]
       omega
    ·
     right
     rw [dF (by omega),kF]
     refine ⟨_,rfl,B,be,?_⟩
     rw [Xo (by omega)] at bn
     dsimp only
     rw [bn]; rfl) m (0,num,l,eff,inv,v) ⟨0,Xk _,rfl,A,he,by simp⟩ (by have:=G.cl; show C.length-(0:Int).toNat<m; omega)
  rw [q1,bB]
  cases o with
  | inl s=>exact ⟨true,_,_,_,_,_,rfl,q2.1,fun _=>q2.2,fun h=>by cases h⟩
  | inr s=>exact ⟨false,s.2.1,s.2.2.1,s.2.2.2.1,s.2.2.2.2.1,s.2.2.2.2.2,by dsimp only; rw [show s=(s.1,s.2.1,s.2.2.1,s.2.2.2.1,s.2.2.2.2.1,s.2.2.2.2.2) from rfl,q2.1],q2.2.1,(fun h=>by cases h),fun _=>q2.2.2⟩
end
end Ho
end Go.Proofs.YtpnppjlnfhlmpaaGreat

set_option linter.all false
namespace Go.Proofs.YtpnppjlnfhlmpaaGreat
open Ev
namespace Ho
open Gar
def gr (w:List Int):Nat:=w.foldl (fun a y=>max a y.natAbs) 0
def rg (gens:Nat) (ws:List (List Int)):List (List (List Int)):=(List.range gens).map fun g=>ws.filter fun w=>decide (gr w=g+1)
theorem gr_fold (w:List Int): ∀a:Nat,(w.foldl (fun a y=>max a y.natAbs) a≤a∨∃y∈w,y.natAbs=w.foldl (fun a y=>max a y.natAbs) a)∧a≤w.foldl (fun a y=>max a y.natAbs) a∧∀y∈w,y.natAbs≤w.foldl (fun a y=>max a y.natAbs) a:=by
 induction w with
 | nil=>intro a; exact ⟨.inl (Xb _),Xb _,fun y hy=>absurd hy (by simp)⟩
 | cons z w ih=>
  intro a
  obtain ⟨h1,h2,h3⟩:=ih (max a z.natAbs)
  rw [Y2]
  refine ⟨?_,by omega,fun y hy=>?_⟩
  ·
   rcases h1 with h1 | ⟨y,h4,h5⟩
   ·
    by_cases h:a≤z.natAbs
    · refine .inr ⟨z,Ql,?_⟩; omega
    · exact .inl (by omega)
   · exact .inr ⟨y,Qf _ h4,h5⟩
  ·
   rcases Qp.1 hy with e | e
   · rw [e]; omega
   · exact h3 y e
theorem gr_le {w:List Int} {k:Nat} (h: ∀y∈w,Lr k y):gr w≤k:=by
 rcases (gr_fold w 0).1 with h1 | ⟨y,h1,h2⟩
 · unfold gr; omega
 · have:=h y h1; unfold Lr at this; unfold gr; omega
theorem gr_lr {w:List Int} {k:Nat} (h: ∀y∈w,Lr k y): ∀y∈w,Lr (gr w) y:=fun y hy=>by
 have h1:=(gr_fold w 0).2.2 y hy
 have:=h y hy
 unfold Lr at this⊢; unfold gr; omega
theorem gr_zero {w:List Int} {k:Nat} (h: ∀y∈w,Lr k y) (h0:gr w=0):w=[]:=by
 cases w with
 | nil=>rfl
 | cons y w=>
  have h1:=(gr_fold (y::w) 0).2.2 y Ql
  have:=h y Ql
  unfold Lr at this; unfold gr at h0; omega
section
variable {n gens : Nat} {C : List (List Int)} {ws : List (List Int)}
theorem gr_run {w:List Int} {k:Nat} (h: ∀y∈w,Lr k y) (hk:k≤1000) (hl:w.length≤100000) (m:Nat) (hm:200000≤m):loopN m (F.qdh m w) (0,0)=some ((gr w:Int),(w.length:Int)):=by
 have hx:=qba (body:=F.qdh m w) (fun i=>((gr (w.take i):Int),(i:Int))) w.length (r:=((gr w:Int),(w.length:Int))) (fun i hi=>?_) ?_ m (by omega)
 · exact hx
 ·
  have e1:w[i]? =some w[i]:=gE hi
  have hy:=h w[i] (Qj hi)
  have e2:gr (w.take (i+1))=max (gr (w.take i)) w[i].natAbs:=by
   rw [Xc,e1]; unfold gr; rw [Y5]; rfl
  unfold Lr at hy
  unfold F.qdh
  dsimp only
  rw [dT (by omega),kT,get_at rfl e1,bB,qal (by omega) (by omega),bB,qal (by omega) (by omega),bB,e2]
  congr 3
  · omega
 ·
  unfold F.qdh
  dsimp only
  rw [dF (by omega),kF,Xl]
theorem rg_at {g:Nat} (hg:g<gens):(rg gens ws)[g]? =some (ws.filter fun w=>decide (gr w=g+1)):=by
 unfold rg; rw [Qm,Qy hg]; rfl
theorem rg_snoc0 {w:List Int} (h:gr w=0):rg gens (ws++[w])=rg gens ws:=by
 unfold rg
 refine Xd fun g _=>?_
 rw [Xj,Xm,dF (by omega),Zv]
 simp
theorem rg_snoc {w:List Int} (h1:1≤gr w) (h2:gr w≤gens):(rg gens ws).set (gr w-1) ((ws.filter fun v=>decide (gr v=gr w))++[w])=rg gens (ws++[w]):=by
 apply Qw
 intro i
 by_cases hi:i<gens
 ·
  rw [rg_at hi]
  by_cases e:i=gr w-1
  ·
   subst e
   rw [Yh (by unfold rg; rw [Qu,Qn]; exact hi),show gr w-1+1=gr w by omega,Xj,Xm,dT rfl]
   rfl
  ·
   rw [Ym (fun h=>e h.symm),rg_at hi,Xj,Xm,dF (by omega),Zv]
   simp
 · rw [Qk (by rw [Xs]; unfold rg; rw [Qu,Qn]; omega),Qk (by unfold rg; rw [Qu,Qn]; omega)]
theorem byG_run {comp:List Int} (hw: ∀w∈ws,(∀y∈w,Lr gens y)∧w.length≤100000) (hl:ws.length≤1000) (hg:gens≤999) (m:Nat) (hm:200000≤m):F.qgo m (gens:Int) comp ws=some (rg gens ws):=by
 have h0:List.replicate gens ([]:List (List Int))=rg gens []:=by
  unfold rg
  apply Qw
  intro i
  by_cases hi:i<gens
  · rw [Xz,if_pos hi,Qm,Qy hi]; rfl
  · rw [Qk (by rw [Qv]; omega),Qk (by rw [Qu,Qn]; omega)]
 have hx:=qba (body:=F.qdg m ws) (fun i=>((i:Int),rg gens (ws.take i))) ws.length (r:=((ws.length:Int),rg gens ws)) (fun i hi=>?_) ?_ m (by omega)
 ·
  unfold F.qgo
  rw [qdw (by omega) (by omega),bB,Qb,h0]
  have e:loopN m (F.qdg m ws) (0,rg gens [])=some ((ws.length:Int),rg gens ws):=hx
  rw [e,bB]
 ·
  have e1:ws[i]? =some ws[i]:=gE hi
  obtain ⟨h1,h2⟩:=hw _ (Qj hi)
  have e2:ws.take (i+1)=ws.take i++[ws[i]]:=by rw [Xc,e1]; rfl
  have hgr:=gr_le h1
  unfold F.qdg
  dsimp only
  rw [dT (by omega),kT,get_at rfl e1,bB,gr_run h1 (by omega) h2 m hm,bB,e2]
  dsimp only
  by_cases hz:gr ws[i]=0
  · rw [dF (by omega),kF,qal (by omega) (by omega),bB,rg_snoc0 hz]; rfl
  ·
   have hfl:((ws.take i).filter fun v=>decide (gr v=gr ws[i])).length≤ws.length:=Z3 (Xr _ _) (by rw [Xx]; omega)
   have ea:(rg gens (ws.take i))[gr ws[i]-1]? =some ((ws.take i).filter fun v=>decide (gr v=gr ws[i])):=by
    rw [rg_at (by omega),show gr ws[i]-1+1=gr ws[i] by omega]
   rw [dT (by omega),kT,qal (by omega) (by omega),bB,get_at (k:=gr ws[i]-1) (by omega) ea,bB,lim_ok (by rw [Xa]; omega),bB,bB,qal (by omega) (by omega),bB,show ((gr ws[i]:Int)-1).toNat=gr ws[i]-1 by omega,rg_snoc (by omega) hgr]
   rfl
 ·
  unfold F.qdg
  dsimp only
  rw [dF (by omega),kF,Xl]
theorem ident_run (hn:n≤1000) (m:Nat) (hm:200000≤m):F.qgg m (n:Int)=some (un n):=by
 have hx:=qba (body:=F.qdy m (n:Int)) (fun k=>((k:Int),li n (fill (fun k=>k) k))) n (r:=((n:Int),un n)) (fun k hk=>?_) ?_ m (by omega)
 ·
  unfold F.qgg
  have e:loopN m (F.qdy m (n:Int)) (0,List.replicate n (0:Int))=some ((n:Int),un n):=by
   rw [li_empty (f:=fun k=>k)]; exact hx
  rw [qdw (by omega) (by omega),bB,Qb,e,bB]
 ·
  have hs:(li n (fill (fun k=>k) k)).set k (k:Int)=li n (fill (fun k=>k) (k+1)):=li_fill (N:=n) (f:=fun k=>k) (k:=k)
  unfold F.qdy
  dsimp only
  rw [Qv,Qb,dT (by omega),kT,qas,li_at hk,bB,qal (by omega) (by omega),bB,Qb,hs]
  rfl
 ·
  unfold F.qdy
  dsimp only
  rw [Qv,Qb,dF (by omega),kF,li_full]; rfl
/-! The tuples. -/
def tpl (C:List (List Int)):Nat→List (List (List Int))
 | 0=>[[]]
 | j+1=>C.flatMap fun c=>(tpl C j).map (c:: ·)
theorem lt_pre {x t:List (List Int)} {y:Int} (hy:Lr x.length y):lt n (x++t) y=lt n x y:=by
 unfold Lr at hy
 unfold lt
 have key: ∀k,k<x.length→(x++t).getD k []=x.getD k []:=fun k hk=>by
  rw [Qc,Ye hk,←Qc]
 split
 · rw [key _ (by omega)]
 · rw [key _ (by omega)]
theorem ev_pre {x t:List (List Int)}: ∀{w:List Int},(∀y∈w,Lr x.length y)→ev n (x++t) w=ev n x w:=by
 intro w hw
 unfold ev
 have key: ∀(w:List Int) (v:List Int),(∀y∈w,Lr x.length y)→w.foldl (fun v y=>mu v (lt n (x++t) y)) v=w.foldl (fun v y=>mu v (lt n x y)) v:=by
  intro w
  induction w with
  | nil=>intro v _; rfl
  | cons y w ih=>
   intro v hw
   rw [Y2,Y2,lt_pre (hw y Ql)]
   exact ih _ fun z hz=>hw z (Qf _ hz)
 exact key w _ hw
open Classical in
theorem cT_eq {rels:List (List (List Int))} (G:Good n gens C rels): ∀(j:Nat) (x:List (List Int)),x.length+j=gens→cT n C rels j x=((tpl C j).filter fun t=>decide (∀g,x.length≤g→g<gens→∀r∈rels.getD g [],ev n (x++t) r=un n)).length:=by
 intro j
 induction j with
 | zero=>
  intro x hx
  show 1=(([[]]:List (List (List Int))).filter _).length
  rw [Xm,dT (fun g h1 h2=>by omega)]
  rfl
 | succ j ih=>
  intro x hx
  show (C.map fun c=>if okr n rels (x++[c]) then cT n C rels j (x++[c]) else 0).sum=((C.flatMap fun c=>(tpl C j).map (c:: ·)).filter _).length
  rw [List.filter_flatMap,List.length_flatMap]
  congr 1
  refine Xd fun c hc=>?_
  rw [List.filter_map,Qu]
  have hlen:(x++[c]).length=x.length+1:=by rw [Qr]; rfl
  have hok:okr n rels (x++[c])↔∀r∈rels.getD x.length [],ev n (x++[c]) r=un n:=by
   unfold okr; rw [hlen,Nat.add_sub_cancel]
  have happ: ∀t,x++c::t=(x++[c])++t:=fun t=>by simp
  have hx1: ∀t,∀r∈rels.getD x.length [],ev n (x++c::t) r=ev n (x++[c]) r:=fun t r hr=>by
   rw [happ]
   exact ev_pre fun y hy=>by rw [hlen]; exact ((G.r x.length (by omega)).2 r hr).1 y hy
  by_cases h:okr n rels (x++[c])
  ·
   rw [if_pos h,ih (x++[c]) (by rw [hlen]; omega)]
   congr 1
   refine Yl fun t _=>?_
   refine decide_eq_decide.2 ⟨fun q g h1 h2 r hr=>?_,fun q g h1 h2 r hr=>?_⟩
   ·
    by_cases e:g=x.length
    · subst e; rw [hx1 t r hr]; exact hok.1 h r hr
    ·
     show ev n (x++c::t) r=_
     rw [happ]; exact q g (by rw [hlen]; omega) h2 r hr
   · rw [←happ]; exact q g (by rw [hlen] at h1; omega) h2 r hr
  ·
   rw [if_neg h]
   symm
   rw [List.length_eq_zero_iff,Y7]
   intro t _ hq
   have q:=of_decide_eq_true hq
   exact h (hok.2 fun r hr=>by rw [←hx1 t r hr]; exact q x.length (Xb _) (by omega) r hr)
theorem good_rg (hC: ∀p∈C,Pe n p) (hCl:C.length≤1000) (hn:n≤1000) (hg:gens≤999) (hw: ∀w∈ws,(∀y∈w,Lr gens y)∧w.length≤100000) (hl:ws.length≤1000):Good n gens C (rg gens ws):=
 ⟨hC,hCl,hn,hg,by unfold rg; rw [Qu,Qn],fun g hgl=>by
  rw [Qc,rg_at hgl,Xi]
  refine ⟨Z3 (Xr _ _) hl,fun r hr=>?_⟩
  obtain ⟨h1,h2⟩:=Qx.1 hr
  obtain ⟨h3,h4⟩:=hw r h1
  refine ⟨fun y hy=>?_,h4⟩
  have:=gr_lr h3 y hy
  rwa [of_decide_eq_true h2] at this⟩
open Classical in
noncomputable def hct (n:Nat) (C:List (List Int)) (gens:Nat) (ws:List (List Int)):Nat:=((tpl C gens).filter fun t=>decide (∀w∈ws,ev n t w=un n)).length
open Classical in
theorem cT_all (G:Good n gens C (rg gens ws)) (hw: ∀w∈ws,(∀y∈w,Lr gens y)∧w.length≤100000):cT n C (rg gens ws) gens []=hct n C gens ws:=by
 rw [cT_eq G gens [] (by simp)]
 unfold hct
 congr 1
 refine Yl fun t _=>?_
 refine decide_eq_decide.2 ⟨fun q w hwm=>?_,fun q g _ h2 r hr=>?_⟩
 ·
  obtain ⟨h1,_⟩:=hw w hwm
  by_cases hz:gr w=0
  · rw [gr_zero h1 hz]; rfl
  ·
   have hle:=gr_le h1
   refine q (gr w-1) (Xk _) (by omega) w ?_
   rw [Qc,rg_at (by omega),Xi]
   exact Qx.2 ⟨hwm,dT (by omega)⟩
 ·
  rw [Qc,rg_at h2,Xi] at hr
  exact q r (Qx.1 hr).1
theorem count_run {comp cyc:List Int} (h1:1≤n) (h5:n≤5) (hg1:1≤gens) (hC: ∀p∈C,Pe n p) (hCl:C.length≤1000) (hg:gens≤999) (hw: ∀w∈ws,(∀y∈w,Lr gens y)∧w.length≤100000) (hl:ws.length≤1000) (m:Nat) (hm:300000≤m)
  (hv:F.qdt m (gens:Int) comp ws=some true) (hc:F.qdx m (n:Int) cyc=some (C,0)):
  ∃c e,F.qgn m (gens:Int) comp ws (n:Int) cyc=some (c,e)∧(e=13∨(e=0∧c=(hct n C gens ws:Int))):=by
 have G:=good_rg hC hCl (by omega) hg hw hl (gens:=gens)
 have A:Aft n gens 0 [] (List.replicate gens ([]:List Int)) (List.replicate gens ([]:List Int)) (un n) 0 0:=
  ⟨⟨⟨rfl,fun p hp=>absurd hp (by simp)⟩,by simp,by simp⟩,by simp,by simp,(Pe.un n).len,by omega,by omega,by omega⟩
 obtain ⟨ok,l',inv',v',num',eff',q1,q2,q3,q4⟩:=try_run G comp ws gens 0 m [] _ _ _ 0 0 (by omega) (by omega) A (by omega) (fun h=>by omega)
 have e0:((0:Nat):Int)=0:=rfl
 rw [e0] at q1
 have key:F.qbv m (gens:Int) comp ws (n:Int) cyc 0=some (if 200000<eff' then 13 else 0,num'):=by
  unfold F.qbv
  rw [hv,bB,Qi,kF,dF (by omega),kF,dF (by omega),kF,hc,bB,dT rfl,Qi,kF,byG_run hw hl hg m (by omega),bB,ident_run (by omega) m (by omega),bB,bB,qdw (by omega) (by omega),bB,bB,Qb]
  unfold F.qci
  dsimp only
  rw [q1,bB]
  dsimp only
  by_cases hb:200000<eff'
  · rw [dT hb,kT,if_pos hb]
  · rw [dF hb,kF,if_neg hb]
 unfold F.qgn
 rw [key,bB]
 dsimp only
 by_cases hb:200000<eff'
 ·
  rw [if_pos hb,dF (by decide),Qz,kT]
  exact ⟨_,_,rfl,.inl rfl⟩
 ·
  rw [if_neg hb,dT rfl,Qi,kF]
  refine ⟨_,_,rfl,.inr ⟨rfl,?_⟩⟩
  cases ok with
  | false=>exact absurd (q4 rfl) hb
  | true=>
   rw [(q3 rfl).2,cT_all G hw]
   omega
