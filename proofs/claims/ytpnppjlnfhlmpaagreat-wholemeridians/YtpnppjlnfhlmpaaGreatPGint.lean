import Derived.Test.YtpnppjlnfhlmpaaGreatF
import Derived.Test.YtpnppjlnfhlmpaaGreatTrod
set_option linter.all false
namespace Go.Proofs.YtpnppjlnfhlmpaaGreat
open Ev
theorem qal {z:Int} (h1: -9223372036854775808≤z) (h2:z≤9223372036854775807):chk z=some z:=if_pos ⟨h1,h2⟩
theorem lim_ok {n:Nat} (h:n≤1099511627776):lim n=some ():=if_pos h
theorem qdw {n:Int} (h1:0≤n) (h2:n≤1099511627776):pos n=some ():=if_pos ⟨h1,h2⟩
theorem posz_ok {n:Int} (h1:0<n) (h2:n≤1099511627776):posz n=some ():=if_pos ⟨h1,h2⟩
theorem nz_ok {n:Int} (h:n≠0):nz n=some ():=if_pos h
theorem cut_ok {a b:Int} {n:Nat} (h1:0≤a) (h2:a≤b) (h3:b≤n):cut a b n=some ():=if_pos ⟨h1,h2,h3⟩
theorem get_ok {α:Type} {xs:List α} {i:Int} (h0:0≤i) (h1:i.toNat<xs.length):Ev.get xs i=some xs[i.toNat]:=by
 unfold Ev.get; rw [if_pos h0,gE h1]
theorem qas {α:Type} {xs:List α} {k:Nat}:Ev.get xs (k:Int)=xs[k]? :=by
 unfold Ev.get; rw [if_pos (by omega)]; simp
theorem get_at {α:Type} {xs:List α} {k:Nat} {i:Int} {x:α} (hi:i=(k:Int)) (h:xs[k]? =some x):Ev.get xs i=some x:=by
 subst hi; rw [qas]; exact h
theorem qbq {S R:Type} {body:S→Option (S⊕R)} (I:S→Prop) (μ:S→Nat) (Q:R→Prop)
  (step: ∀s,I s→(∃s',body s=some (.inl s')∧I s'∧μ s'<μ s)∨∃r,body s=some (.inr r)∧Q r): ∀(n:Nat) (s:S),I s→μ s<n→∃r,loopN n body s=some r∧Q r
 | 0,s,_,h=>absurd h (Yr _)
 | n+1,s,hI,h=>by
  rcases step s hI with ⟨s',h1,h2,h3⟩ | ⟨r,h1,h2⟩
  ·
   obtain ⟨r,h4,h5⟩:=qbq I μ Q step n s' h2 (by omega)
   exact ⟨r,by simp only [loopN,h1,bB]; exact h4,h5⟩
  · exact ⟨r,by simp only [loopN,h1,bB],h2⟩
end Go.Proofs.YtpnppjlnfhlmpaaGreat

set_option linter.all false
namespace Go.Proofs.YtpnppjlnfhlmpaaGreat
open Ev
theorem qba {S R:Type} {body:S→Option (S⊕R)} (st:Nat→S) (m:Nat) {r:R} (h: ∀k,k<m→body (st k)=some (.inl (st (k+1)))) (he:body (st m)=some (.inr r)): ∀n,m<n→loopN n body (st 0)=some r:=by
 have key: ∀(j k n:Nat),k+j=m→j<n→loopN n body (st k)=some r:=by
  intro j
  induction j with
  | zero=>
       intro k n hk hn; obtain ⟨n,rfl⟩: ∃n',n=n'+1:=⟨n-1,by omega⟩
       obtain rfl:k=m:=by omega
       simp only [loopN,he,bB]
  | succ j ih=>
         intro k n hk hn; obtain ⟨n,rfl⟩: ∃n',n=n'+1:=⟨n-1,by omega⟩
         simp only [loopN,h k (by omega),bB]
         exact ih (k+1) n (by omega) (by omega)
 intro n hn
 exact key m 0 n (by omega) hn
end Go.Proofs.YtpnppjlnfhlmpaaGreat

set_option linter.all false
namespace Go.Proofs.YtpnppjlnfhlmpaaGreat
namespace Gar
def tr (i k:Nat):Nat:=if k+1=i then i else if k=i then i-1 else k
structure Pm (N:Nat) (f g:Nat→Nat):Prop where
 fix: ∀k,N≤k→f k=k
 gf: ∀k,g (f k)=k
 fg: ∀k,f (g k)=k
section
variable {N : Nat} {f g : Nat → Nat}
theorem Pm.symm (h:Pm N f g):Pm N g f:=⟨fun k hk=>by have:=h.gf k; rwa [h.fix k hk] at this,h.fg,h.gf⟩
theorem Pm.inj (h:Pm N f g) {a b:Nat} (e:f a=f b):a=b:=by rw [←h.gf a,←h.gf b,e]
theorem Pm.lt (h:Pm N f g) {k:Nat} (hk:k<N):f k<N:=by
 rcases Xf (f k) N with h1 | h1
 · exact h1
 · have:=h.inj (h.fix _ h1); omega
def ds (f:Nat→Nat) (i:Nat):Prop:=f i<f (i-1)
instance (f:Nat→Nat) (i:Nat):Decidable (ds f i):=inferInstanceAs (Decidable (_<_))
inductive Wd (N:Nat):(Nat→Nat)→List Nat→Prop
 | nil:Wd N (fun k=>k) []
 | cons {f:Nat→Nat} {i:Nat} {w:List Nat}:1≤i→i<N→ds f i→Wd N (fun k=>f (tr i k)) w→Wd N f (i::w)
inductive PE (N:Nat):List Nat→List Nat→Prop
 | refl (w):PE N w w
 | symm {u v}:PE N u v→PE N v u
 | trans {u v w}:PE N u v→PE N v w→PE N u w
 | far (a b) {i j:Nat}:1≤i→i<N→1≤j→j<N→i+1<j→PE N (a++i::j::b) (a++j::i::b)
 | braid (a b) {i:Nat}:1≤i→i+1<N→PE N (a++i::(i+1)::i::b) (a++(i+1)::i::(i+1)::b)
/-! Inversions. -/
def inv:List Nat→Nat
 | []=>0
 | a::l=>l.countP (fun x=>decide (x<a))+inv l
end
end Gar
end Go.Proofs.YtpnppjlnfhlmpaaGreat

set_option linter.all false
namespace Go.Proofs.YtpnppjlnfhlmpaaGreat
open Ev
end Go.Proofs.YtpnppjlnfhlmpaaGreat

set_option linter.all false
namespace Go.Proofs.YtpnppjlnfhlmpaaGreat
open Ev
namespace Gar
def li (N:Nat) (f:Nat→Nat):List Int:=(List.range N).map fun k=>(f k:Int)
section
variable {N : Nat} {f g : Nat → Nat}
@[simp] theorem li_len:(li N f).length=N:=by simp [li]
theorem li_at {k:Nat} (h:k<N):(li N f)[k]? =some (f k:Int):=by simp [li,h]
theorem li_none {k:Nat} (h:N≤k):(li N f)[k]? =none:=by simp [li]; omega
theorem get_li {z:Int} (h0:0≤z) (h1:z<N):Ev.get (li N f) z=some (f z.toNat:Int):=by
 unfold Ev.get; rw [if_pos h0,li_at (by omega)]
theorem li_ext (h: ∀k,k<N→f k=g k):li N f=li N g:=by
 unfold li; apply Xd; intro k hk; rw [Qg] at hk; rw [h k hk]
theorem li_eq (hf: ∀k,N≤k→f k=k) (hg: ∀k,N≤k→g k=k) (h:li N f=li N g):f=g:=by
 funext k
 rcases Xf k N with hk | hk
 ·
  have:=congrArg (·[k]?) h
  simp only [li_at hk] at this
  injection this with this; omega
 · rw [hf k hk,hg k hk]
theorem li_set (k v:Nat):(li N f).set k (v:Int)=li N (fun j=>if j=k then v else f j):=by
 apply Qw
 intro j
 rw [Yg]
 by_cases h:k=j
 ·
  subst h
  rw [if_pos rfl,li_len]
  by_cases h1:k<N
  · rw [if_pos h1,li_at h1,if_pos rfl]
  · rw [if_neg h1,li_none (by omega)]
 ·
  rw [if_neg h]
  by_cases h1:j<N
  · rw [li_at h1,li_at h1,if_neg (Ne.symm h)]
  · rw [li_none (by omega),li_none (by omega)]
theorem li_rep:List.replicate N (0:Int)=li N (fun _=>0):=by
 apply Qw
 intro j
 by_cases h:j<N
 · rw [li_at h]; simp [h]
 · rw [li_none (by omega)]; simp; omega
def fill (f:Nat→Nat) (k j:Nat):Nat:=if j<k then f j else 0
theorem li_fill {k:Nat}:(li N (fill f k)).set k (f k:Int)=li N (fill f (k+1)):=by
 rw [li_set]
 apply li_ext
 intro j hj
 unfold fill
 by_cases h:j=k
 · subst h; rw [if_pos rfl,if_pos (by omega)]
 ·
  rw [if_neg h]
  by_cases h1:j<k
  · rw [if_pos h1,if_pos (by omega)]
  · rw [if_neg h1,if_neg (by omega)]
theorem li_full:li N (fill f N)=li N f:=li_ext fun k hk=>if_pos hk
theorem li_empty:List.replicate N (0:Int)=li N (fill f 0):=by
 rw [li_rep]; exact li_ext fun k _=>(if_neg (by omega)).symm
theorem pigeon: ∀(N:Nat) (f:Nat→Nat),(∀k,k<N→f k<N)→(∀j k,j<N→k<N→f j=f k→j=k)→∀y,y<N→∃k,k<N∧f k=y
 | 0,_,_,_,y,hy=>absurd hy (Yr _)
 | N+1,f,h,inj,y,hy=>by
  have hm:f N<N+1:=h N (by omega)
  have ih:=pigeon N (fun k=>if f k=N then f N else f k) (fun k hk=>by
   by_cases e:f k=N
   ·
    simp only [e,if_true]
    have:f N≠N:=fun e2=>by have:=inj k N (by omega) (by omega) (by omega); omega
    omega
   ·
    simp only [e,if_false]
    have:=h k (by omega); omega) (fun j k hj hk e=>by
   by_cases e1:f j=N<;>by_cases e2:f k=N<;>simp only [e1,e2,if_true,if_false] at e
   · exact inj j k (by omega) (by omega) (by omega)
   · have:=inj N k (by omega) (by omega) e; omega
   · have:=inj j N (by omega) (by omega) e; omega
   · exact inj j k (by omega) (by omega) e)
  by_cases hy1:y=f N
  · exact ⟨N,by omega,hy1.symm⟩
  by_cases hy2:y=N
  ·
   obtain ⟨k,hk,e⟩:=ih (f N) (by omega)
   by_cases e1:f k=N
   · exact ⟨k,by omega,by omega⟩
   ·
    simp only [e1,if_false] at e
    have:=inj k N (by omega) (by omega) e; omega
  ·
   obtain ⟨k,hk,e⟩:=ih y (by omega)
   by_cases e1:f k=N
   · simp only [e1,if_true] at e; omega
   ·
    simp only [e1,if_false] at e
    exact ⟨k,by omega,e⟩
def IsP (p:List Int):Prop:= ∃f g,Pm p.length f g∧p=li p.length f
theorem isP_of {p:List Int} (hr: ∀x∈p,0≤x∧x<p.length) (hn:p.Nodup):IsP p:=by
 have hf: ∀k,k<p.length→p[k]? =some (((p.getD k 0).toNat:Nat):Int):=fun k hk=>by
  have h1:p[k]? =some p[k]:=gE hk
  have h2:=hr p[k] (Qj hk)
  rw [h1,Qc,h1,Xi,show ((p[k].toNat:Nat):Int)=p[k] by omega]
 have hlt: ∀k,k<p.length→(p.getD k 0).toNat<p.length:=fun k hk=>by
  have h1:=hf k hk
  have h2:=hr _ (Zz h1)
  omega
 have hinj: ∀j k,j<p.length→k<p.length→(p.getD j 0).toNat=(p.getD k 0).toNat→j=k:=fun j k hj hk e=>by
  have h1:=hf j hj; have h2:=hf k hk
  rw [e,←h2] at h1
  exact (Zn hj hn).1 h1
 have hs:=pigeon p.length _ hlt hinj
 have hg: ∀y,∃k,(y<p.length→k<p.length∧(p.getD k 0).toNat=y)∧(¬y<p.length→k=y):=fun y=>by
  by_cases h:y<p.length
  ·
   obtain ⟨k,h1,h2⟩:=hs y h
   exact ⟨k,fun _=>⟨h1,h2⟩,fun h'=>absurd h h'⟩
  · exact ⟨y,fun h'=>absurd h' h,fun _=>rfl⟩
 obtain ⟨g,hg⟩:=Classical.skolem.1 hg
 refine ⟨fun k=>if k<p.length then (p.getD k 0).toNat else k,g,⟨fun k hk=>if_neg (by omega),fun k=>?_,fun y=>?_⟩,?_⟩
 ·
  by_cases h:k<p.length
  ·
   simp only [h,if_true]
   have h2:=(hg (p.getD k 0).toNat).1 (hlt k h)
   exact hinj _ _ h2.1 h h2.2
  ·
   simp only [h,if_false]
   exact (hg k).2 h
 ·
  by_cases h:y<p.length
  ·
   have h2:=(hg y).1 h
   simp only [h2.1,if_true,h2.2]
  ·
   have h2:=(hg y).2 h
   simp only [h2,h,if_false]
 ·
  apply Qw
  intro k
  by_cases h:k<p.length
  · rw [hf k h,li_at h,if_pos h]
  · rw [Qk (by omega),li_none (by omega)]
theorem IsP.nodup {p:List Int} (h:IsP p):p.Nodup:=by
 obtain ⟨f,g,hp,e⟩:=h
 rw [e]
 unfold li
 rw [List.Nodup,Yj]
 refine List.Pairwise.imp ?_ Yc
 intro a b hab e
 exact hab (hp.inj (by omega))
theorem IsP.rng {p:List Int} (h:IsP p): ∀x∈p,0≤x∧x<p.length:=by
 obtain ⟨f,g,hp,e⟩:=h
 intro x hx
 rw [e] at hx
 simp only [li,Qo,Qg] at hx
 obtain ⟨k,hk,rfl⟩:=hx
 have:=hp.lt hk; omega
theorem isP_li (h:Pm N f g):IsP (li N f):=⟨f,g,by rw [li_len]; exact h,by rw [li_len]⟩
/-! The program's functions on permutations. -/
theorem permValid {p:List Int} (n:Nat) (hn:p.length<n) (hl:p.length≤100000000): ∃r,F.qgk n p=some r∧(r=true↔IsP p):=by
 unfold F.qgk
 rw [qdw (by omega) (by omega),bB]
 obtain ⟨r,hr1,hr2⟩:=qbq (body:=F.qhp n p) (fun s=> ∃k:Nat,s.1=(k:Int)∧k≤p.length∧s.2.length=p.length∧(∀x∈p.take k,0≤x∧x<p.length)∧(p.take k).Nodup∧∀x:Nat,x<p.length→(s.2[x]? =some true↔(x:Int)∈p.take k))
  (fun s=>p.length-s.1.toNat) (fun r=>match r with | .inl _=>IsP p | .inr b=>b=false∧¬IsP p) (fun s ⟨k,h1,h2,h3,h4,h5,h6⟩=>by
   obtain ⟨i,seen⟩:=s
   dsimp only at h1 h3 h6
   subst h1
   unfold F.qhp
   dsimp only
   by_cases hlt:(k:Int)<(p.length:Int)
   ·
    rw [dT hlt,kT,qas,gE (by omega:k<p.length),bB]
    have hmem:p[k]'(by omega)∈p:=Qj _
    by_cases c1:p[k]'(by omega)<0
    · rw [dT c1,kT]; right; exact ⟨_,rfl,rfl,fun hp=>by have:=(hp.rng _ hmem).1; omega⟩
    rw [dF c1,kF]
    by_cases c2:(p.length:Int)≤p[k]'(by omega)
    · rw [dT c2,kT]; right; exact ⟨_,rfl,rfl,fun hp=>by have:=(hp.rng _ hmem).2; omega⟩
    rw [dF c2,kF]
    have hk3:(p[k]'(by omega)).toNat<seen.length:=by omega
    rw [get_ok (by omega) hk3,bB]
    have h7:=h6 (p[k]'(by omega)).toNat (by omega)
    rw [gE hk3,show (((p[k]'(by omega)).toNat:Nat):Int)=p[k]'(by omega) by omega] at h7
    have ht:p.take (k+1)=p.take k++[p[k]'(by omega)]:=by rw [Xc,gE (by omega:k<p.length)]; rfl
    by_cases c3:seen[(p[k]'(by omega)).toNat]=true
    ·
     rw [c3,kT]; right
     refine ⟨_,rfl,rfl,fun hp=>?_⟩
     have h8:=h7.1 (by rw [c3])
     have h9:=hp.nodup
     have h10:(p.take (k+1)).Nodup:=(List.take_sublist _ _).nodup h9
     rw [ht,X8] at h10
     exact h10.2.2 _ h8 _ (by simp) rfl
    ·
     rw [Bool.not_eq_true] at c3
     rw [c3,kF,bB,qal (by omega) (by omega),bB]
     left
     have h8:p[k]'(by omega)∉p.take k:=fun hm=>by have:=h7.2 hm; rw [c3] at this; cases this
     refine ⟨_,rfl,⟨k+1,by simp,by omega,by simpa using h3,?_,?_,?_⟩,by dsimp only; omega⟩
     ·
      intro x hx
      rw [ht] at hx
      rcases Qs.1 hx with h9 | h9
      · exact h4 x h9
      · simp only [Qq] at h9; subst h9; omega
     ·
      rw [ht,X8]
      exact ⟨h5,by simp,fun a ha b hb e=>by simp only [Qq] at hb; subst hb; subst e; exact h8 ha⟩
     ·
      intro x hx
      dsimp only
      rw [ht,Qs,Qq,Yg]
      by_cases e:(p[k]'(by omega)).toNat=x
      ·
       rw [if_pos e,if_pos hk3]
       exact ⟨fun _=>.inr (by omega),fun _=>rfl⟩
      ·
       rw [if_neg e,h6 x hx]
       exact ⟨fun h=>.inl h,fun h=>h.resolve_right (by omega)⟩
   ·
    rw [dF hlt,kF]; right
    obtain rfl:k=p.length:=by omega
    rw [Xl] at h4 h5
    exact ⟨_,rfl,isP_of h4 h5⟩) n (0,List.replicate (p.length:Int).toNat false) ⟨0,rfl,by omega,by simp,by simp,by simp,fun x hx=>by simp [Xz,hx]⟩ (by dsimp only; omega)
 rw [hr1,bB]
 rcases r with s | b
 · exact ⟨true,rfl,⟨fun _=>hr2,fun _=>rfl⟩⟩
 ·
  obtain ⟨rfl,h⟩:=hr2
  exact ⟨false,rfl,⟨fun h'=>absurd h' (by decide),fun h'=>absurd h' h⟩⟩
theorem permValid_li (h:Pm N f g) (n:Nat) (hn:N<n) (hl:N≤1000):F.qgk n (li N f)=some true:=by
 obtain ⟨r,h1,h2⟩:=permValid (p:=li N f) n (by rw [li_len]; exact hn) (by rw [li_len]; omega)
 rw [h1,h2.2 (isP_li h)]
theorem permInverse (h:Pm N f g) (n:Nat) (hn:N<n) (hl:N≤1000):F.qfy n (li N f)=some (li N g):=by
 unfold F.qfy
 rw [permValid_li h n hn hl,bB,Qi,kF,qdw (by rw [li_len]; omega) (by rw [li_len]; omega),bB,li_len,show ((N:Int)).toNat=N by omega]
 have:=qba (body:=F.qfp n (li N f)) (fun k=>((k:Int),li N (fun y=>if g y<k then g y else 0))) N (r:=((N:Int),li N g)) (fun k hk=>by
  unfold F.qfp
  dsimp only
  have hfk:=h.lt hk
  rw [li_len,dT (by omega),kT,get_li (by omega) (by omega),bB,show (k:Int).toNat=k by omega,get_li (by omega) (by omega),bB,qal (by omega) (by omega),bB,show ((f k:Nat):Int).toNat=f k by omega,li_set]
  congr 3
  apply li_ext
  intro y hy
  by_cases e:y=f k
  · subst e; rw [if_pos rfl,h.gf,if_pos (by omega)]
  ·
   rw [if_neg e]
   have:g y≠k:=fun e2=>e (by rw [←e2,h.fg])
   by_cases e3:g y<k
   · rw [if_pos e3,if_pos (by omega)]
   · rw [if_neg e3,if_neg (by omega)]) (by
  unfold F.qfp
  dsimp only
  rw [li_len,dF (by omega),kF]
  congr 3
  apply li_ext
  intro y hy
  rw [if_pos (h.symm.lt hy)]) n hn
 have e0:List.replicate N (0:Int)=li N (fun y=>if g y<0 then g y else 0):=by
  rw [li_rep]; exact li_ext fun y _=>(if_neg (by omega)).symm
 rw [e0]
 rw [show ((0:Int),li N (fun y=>if g y<0 then g y else 0))=((((0:Nat)):Int),li N (fun y=>if g y<0 then g y else 0)) from rfl,this,bB]
end
theorem equalP {a b:List Int} (n:Nat) (hn:a.length<n) (hl:a.length≤1000): ∃r,F.qdc n a b=some r∧(r=true↔a=b):=by
 unfold F.qdc
 by_cases h:(a.length:Int)=(b.length:Int)
 ·
  rw [dT h,Qi,kF]
  have hab:a.length=b.length:=by omega
  obtain ⟨r,hr1,hr2⟩:=qbq (body:=F.qde n a b) (fun s=> ∃k:Nat,s=(k:Int)∧k≤a.length∧a.take k=b.take k) (fun s=>a.length-s.toNat)
   (fun r=>match r with | .inl _=>a=b | .inr q=>q=false∧a≠b) (fun s ⟨k,h1,h2,h3⟩=>by
    subst h1
    unfold F.qde
    dsimp only
    by_cases hlt:(k:Int)<(a.length:Int)
    ·
     have k1:k<a.length:=by omega
     have k2:k<b.length:=by omega
     rw [dT hlt,kT,qas,gE k1,bB,qas,gE k2,bB]
     by_cases e:a[k]=b[k]
     ·
      rw [dT e,Qi,kF,qal (by omega) (by omega),bB]
      left
      refine ⟨_,rfl,⟨k+1,by simp,by omega,?_⟩,by omega⟩
      rw [Xc,Xc,h3,gE k1,gE k2,e]
     ·
      rw [dF e,Qz,kT]
      right
      refine ⟨_,rfl,rfl,fun hab=>?_⟩
      have h4:a[k]? =b[k]? :=by rw [hab]
      rw [gE k1,gE k2] at h4
      injection h4 with h4
      exact e h4
    ·
     rw [dF hlt,kF]
     right
     obtain rfl:k=a.length:=by omega
     rw [Xl,hab,Xl] at h3
     exact ⟨_,rfl,h3⟩) n 0 ⟨0,rfl,by omega,by simp⟩ (by simpa using hn)
  rw [hr1,bB]
  rcases r with s | q
  · exact ⟨true,rfl,⟨fun _=>hr2,fun _=>rfl⟩⟩
  ·
   obtain ⟨rfl,h5⟩:=hr2
   exact ⟨false,rfl,⟨fun h'=>absurd h' (by decide),fun h'=>absurd h' h5⟩⟩
 ·
  rw [dF h,Qz,kT]
  exact ⟨false,rfl,⟨fun h'=>absurd h' (by decide),fun h'=>absurd (by rw [h']) h⟩⟩
section
variable {N : Nat}
end
section
variable {N : Nat}
end
section
variable {N : Nat}
/-! The program's functions. -/
end
section
variable {N : Nat}
end
end Gar
end Go.Proofs.YtpnppjlnfhlmpaaGreat

set_option linter.all false
namespace Go.Proofs.YtpnppjlnfhlmpaaGreat
namespace Gar
inductive BE (N:Nat):List Int→List Int→Prop
 | refl (w):BE N w w
 | symm {u v}:BE N u v→BE N v u
 | trans {u v w}:BE N u v→BE N v w→BE N u w
 | far (a b) {i j:Nat}:1≤i→i<N→1≤j→j<N→i+1<j→BE N (a++(i:Int)::(j:Int)::b) (a++(j:Int)::(i:Int)::b)
 | braid (a b) {i:Nat}:1≤i→i+1<N→BE N (a++(i:Int)::((i+1:Nat):Int)::(i:Int)::b) (a++((i+1:Nat):Int)::(i:Int)::((i+1:Nat):Int)::b)
 | pn (a b) {i:Nat}:1≤i→i<N→BE N (a++(i:Int)::(-(i:Int))::b) (a++b)
 | np (a b) {i:Nat}:1≤i→i<N→BE N (a++(-(i:Int))::(i:Int)::b) (a++b)
def pos (w:List Nat):List Int:=w.map fun (i:Nat)=>(i:Int)
section
variable {N : Nat}
def neg (w:List Int):List Int:=(w.map fun x=>-x).reverse
/-! The half twist. -/
def dl (N k:Nat):Nat:=if k<N then N-1-k else k
variable {H : List Nat} (hH : Wd N (dl N) H)
include hH
omit hH
include hH
omit hH
/-! The words of lists of permutations. -/
inductive Wl (N:Nat):List (Nat→Nat)→List Nat→Prop
 | nil:Wl N [] []
 | cons {f fs w v}:Wd N f w→Wl N fs v→Wl N (f::fs) (w++v)
end
end Gar
end Go.Proofs.YtpnppjlnfhlmpaaGreat

set_option linter.all false
namespace Go.Proofs.YtpnppjlnfhlmpaaGreat
namespace Gar
/-! Words of gaps,up to neighbours that cancel. -/
def pushG (a:Nat):List Nat→List Nat
 | []=>[a]
 | b::t=>if a=b then t else a::b::t
def rd:List Nat→List Nat
 | []=>[]
 | a::l=>pushG a (rd l)
/-! How letters turn gaps; e tells whether the gap is crossed downwards. -/
def img (x:Int) (e:Bool) (h:Nat):List Nat:=
 if h=x.natAbs then (if (decide (0<x) == e)=true then [h-1,h,h+1] else [h+1,h,h-1]) else [h]
def sub (x:Int):Bool→List Nat→List Nat
 | _,[]=>[]
 | e,h::t=>img x e h++sub x (!e) t
theorem img_len (x:Int) (e:Bool) (h:Nat):(img x e h).length%2=1:=by
 unfold img; split
 · split<;>simp
 · simp
theorem sub_len (x:Int) (e:Bool) (u:List Nat):(sub x e u).length%2=u.length%2:=by
 induction u generalizing e with
 | nil=>rfl
 | cons h t ih=>simp only [sub,Qr,Xe]; have:=ih (!e); have:=img_len x e h; omega
end Gar
end Go.Proofs.YtpnppjlnfhlmpaaGreat

set_option linter.all false
namespace Go.Proofs.YtpnppjlnfhlmpaaGreat
namespace Gar
/-! Words up to neighbours that cancel. -/
def ipush (a:Int):List Int→List Int
 | []=>[a]
 | b::t=>if a=-b then t else a::b::t
theorem ipush_eq (a b:Int) (t:List Int) (h:a=-b):ipush a (b::t)=t:=if_pos h
theorem qgs {a b:Int} (h:a≠-b) (t:List Int):ipush a (b::t)=a::b::t:=if_neg h
def ird:List Int→List Int
 | []=>[]
 | a::l=>ipush a (ird l)
def Irdc:List Int→Prop
 | []=>True
 | [_]=>True
 | a::b::t=>a≠-b∧Irdc (b::t)
theorem Irdc.tail {a:Int} {l:List Int} (h:Irdc (a::l)):Irdc l:=by
 cases l with
 | nil=>trivial
 | cons b t=>exact h.2
theorem Irdc.push {l:List Int} (h:Irdc l) (a:Int):Irdc (ipush a l):=by
 cases l with
 | nil=>trivial
 | cons b t=>
  by_cases e:a=-b
  · rw [ipush_eq _ _ _ e]; exact h.tail
  · rw [qgs e]; exact ⟨e,h⟩
theorem ird_rdc (l:List Int):Irdc (ird l):=by
 induction l with
 | nil=>trivial
 | cons a l ih=>exact ih.push a
theorem ird_of {l:List Int} (h:Irdc l):ird l=l:=by
 induction l with
 | nil=>rfl
 | cons a l ih=>
  rw [ird,ih h.tail]
  cases l with
  | nil=>rfl
  | cons b t=>rw [qgs h.1]
theorem ipush_push {l:List Int} (h:Irdc l) (a b:Int) (hab:a=-b):ipush a (ipush b l)=l:=by
 cases l with
 | nil=>show (if a=-b then _ else _)=_; rw [if_pos hab]
 | cons c t=>
  by_cases e:b=-c
  ·
   rw [ipush_eq _ _ _ e]
   have hac:a=c:=by omega
   subst hac
   cases t with
   | nil=>rfl
   | cons d t=>rw [qgs h.1]
  · rw [qgs e,ipush_eq _ _ _ hab]
theorem ird_app (u v:List Int):ird (u++v)=ird (u++ird v):=by
 induction u with
 | nil=>simp [ird_of (ird_rdc v)]
 | cons a u ih=>simp only [Yz,ird,ih]
theorem ird_cancel (u v:List Int) (a b:Int) (hab:a=-b):ird (u++a::b::v)=ird (u++v):=by
 rw [ird_app u (a::b::v),ird_app u v]
 congr 2
 exact ipush_push (ird_rdc v) a b hab
theorem ird_rdapp (u v:List Int):ird (ird u++v)=ird (u++v):=by
 induction u with
 | nil=>rfl
 | cons a u ih=>
  simp only [ird,Yz]
  rw [←ih]
  generalize ird u=w
  cases w with
  | nil=>rfl
  | cons b t=>
   by_cases e:a=-b
   ·
    rw [ipush_eq _ _ _ e]
    simp only [Yz,ird]
    exact (ipush_push (ird_rdc _) a b e).symm
   · rw [qgs e]; rfl
theorem ird_mem {l:List Int}: ∀y∈ird l,y∈l:=by
 induction l with
 | nil=>exact fun y hy=>hy
 | cons a l ih=>
  intro y hy
  rw [ird] at hy
  generalize ird l=w at hy ih
  cases w with
  | nil=>rw [ipush,Qq] at hy; subst hy; simp
  | cons b t=>
   by_cases e:a=-b
   · rw [ipush_eq _ _ _ e] at hy; exact Qf _ (ih y (Qf _ hy))
   ·
    rw [qgs e] at hy
    rcases Qp.1 hy with h | h
    · subst h; simp
    · exact Qf _ (ih y h)
theorem ird_le (l:List Int):(ird l).length≤l.length:=by
 induction l with
 | nil=>simp [ird]
 | cons a l ih=>
  rw [ird,Xe]
  generalize ird l=w at ih
  cases w with
  | nil=>simp [ipush]
  | cons b t=>
   by_cases e:a=-b
   · rw [ipush_eq _ _ _ e]; simp at ih; omega
   · rw [qgs e]; simp at ih⊢; omega
/-! The images of the generators. -/
def gimg (x:Int) (k:Nat):List Int:=
 if k=x.natAbs then (if 0<x then [(k:Int),(k:Int)+1,-(k:Int)] else [(k:Int)+1])
 else if k=x.natAbs+1 then (if 0<x then [(k:Int)-1] else [-(k:Int),(k:Int)-1,(k:Int)]) else [(k:Int)]
def iimg (x y:Int):List Int:=if 0<y then gimg x y.toNat else neg (gimg x (-y).toNat)
def isub (x:Int) (w:List Int):List Int:=w.flatMap (iimg x)
def Lr (N:Nat) (y:Int):Prop:=y≠0∧-(N:Int)≤y∧y≤N
/-! Generators as pairs of gapw. -/
def gap (y:Int):List Nat:=if 0<y then [y.toNat-1,y.toNat] else [(-y).toNat,(-y).toNat-1]
def gapw (w:List Int):List Nat:=w.flatMap gap
/-! Paths that are turned round. -/
/-! Back from gapw to generators. -/
def xs:Nat→List Int
 | 0=>[]
 | h+1=>xs h++[((h+1:Nat):Int)]
section
variable {N : Nat}
