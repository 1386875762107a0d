import Derived.Test.YtlkmcbgkohpmiaaF
import Derived.Test.YtlkmcbgkohpmiaaTrod
set_option linter.all false
namespace Go.Proofs.Ytlkmcbgkohpmiaa
open Ev
theorem qaj {z:Int} (h1: -9223372036854775808≤z) (h2:z≤9223372036854775807):chk z=some z:=if_pos ⟨h1,h2⟩
theorem lim_ok {n:Nat} (h:n≤1099511627776):lim n=some ():=if_pos h
theorem qep {n:Int} (h1:0≤n) (h2:n≤1099511627776):pos n=some ():=if_pos ⟨h1,h2⟩
theorem nz_ok {n:Int} (h:n≠0):nz n=some ():=if_pos h
theorem cut_ok {a b:Int} {n:Nat} (h1:0≤a) (h2:a≤b) (h3:b≤n):cut a b n=some ():=if_pos ⟨h1,h2,h3⟩
theorem get_ok {α:Type} {xs:List α} {i:Int} (h0:0≤i) (h1:i.toNat<xs.length):Ev.get xs i=some xs[i.toNat]:=by
 unfold Ev.get; rw [if_pos h0,gE h1]
theorem qbe {α:Type} {xs:List α} {k:Nat}:Ev.get xs (k:Int)=xs[k]? :=by
 unfold Ev.get; rw [if_pos (by omega)]; simp
theorem get_at {α:Type} {xs:List α} {k:Nat} {i:Int} {x:α} (hi:i=(k:Int)) (h:xs[k]? =some x):Ev.get xs i=some x:=by
 subst hi; rw [qbe]; exact h
theorem qby {S R:Type} {body:S→Option (S⊕R)} (I:S→Prop) (μ:S→Nat) (Q:R→Prop)
  (step: ∀s,I s→(∃s',body s=some (.inl s')∧I s'∧μ s'<μ s)∨∃r,body s=some (.inr r)∧Q r): ∀(n:Nat) (s:S),I s→μ s<n→∃r,loopN n body s=some r∧Q r
 | 0,s,_,h=>absurd h (Nat.not_lt_zero _)
 | n+1,s,hI,h=>by
  rcases step s hI with ⟨s',h1,h2,h3⟩ | ⟨r,h1,h2⟩
  ·
   obtain ⟨r,h4,h5⟩:=qby I μ Q step n s' h2 (by omega)
   exact ⟨r,by simp only [loopN,h1,bB]; exact h4,h5⟩
  · exact ⟨r,by simp only [loopN,h1,bB],h2⟩
end Go.Proofs.Ytlkmcbgkohpmiaa

set_option linter.all false
namespace Go.Proofs.Ytlkmcbgkohpmiaa
open Ev
theorem qax {S R:Type} {body:S→Option (S⊕R)} (st:Nat→S) (m:Nat) {r:R} (h: ∀k,k<m→body (st k)=some (.inl (st (k+1)))) (he:body (st m)=some (.inr r)): ∀n,m<n→loopN n body (st 0)=some r:=by
 have key: ∀(j k n:Nat),k+j=m→j<n→loopN n body (st k)=some r:=by
  intro j
  induction j with
  | zero=>
       intro k n hk hn; obtain ⟨n,rfl⟩: ∃n',n=n'+1:=⟨n-1,by omega⟩
       obtain rfl:k=m:=by omega
       simp only [loopN,he,bB]
  | succ j ih=>
         intro k n hk hn; obtain ⟨n,rfl⟩: ∃n',n=n'+1:=⟨n-1,by omega⟩
         simp only [loopN,h k (by omega),bB]
         exact ih (k+1) n (by omega) (by omega)
 intro n hn
 exact key m 0 n (by omega) hn
end Go.Proofs.Ytlkmcbgkohpmiaa

set_option linter.all false
namespace Go.Proofs.Ytlkmcbgkohpmiaa
namespace Gar
def tr (i k:Nat):Nat:=if k+1=i then i else if k=i then i-1 else k
theorem tr_tr {i:Nat} (hi:1≤i) (k:Nat):tr i (tr i k)=k:=by
 unfold tr; split<;>rename_i h1
 · rw [if_neg (by omega),if_pos rfl]; omega
 ·
  split<;>rename_i h2
  · rw [if_pos (by omega)]; omega
  · rfl
theorem tr_l {i:Nat} (hi:1≤i):tr i (i-1)=i:=by unfold tr; rw [if_pos (by omega)]
theorem tr_r {i:Nat} (hi:1≤i):tr i i=i-1:=by unfold tr; rw [if_neg (by omega),if_pos rfl]
theorem tr_o {i k:Nat} (h1:k+1≠i) (h2:k≠i):tr i k=k:=by unfold tr; rw [if_neg h1,if_neg h2]
structure Pm (N:Nat) (f g:Nat→Nat):Prop where
 fix: ∀k,N≤k→f k=k
 gf: ∀k,g (f k)=k
 fg: ∀k,f (g k)=k
section
variable {N : Nat} {f g : Nat → Nat}
theorem Pm.symm (h:Pm N f g):Pm N g f:=⟨fun k hk=>by have:=h.gf k; rwa [h.fix k hk] at this,h.fg,h.gf⟩
theorem Pm.inj (h:Pm N f g) {a b:Nat} (e:f a=f b):a=b:=by rw [←h.gf a,←h.gf b,e]
theorem Pm.lt (h:Pm N f g) {k:Nat} (hk:k<N):f k<N:=by
 rcases Nat.lt_or_ge (f k) N with h1 | h1
 · exact h1
 · have:=h.inj (h.fix _ h1); omega
theorem Pm.id (N:Nat):Pm N (fun k=>k) (fun k=>k):=⟨fun _ _=>rfl,fun _=>rfl,fun _=>rfl⟩
theorem Pm.ex (h:Pm N f g) {i:Nat} (hi:1≤i) (hn:i<N):Pm N (fun k=>f (tr i k)) (fun k=>tr i (g k)):=
 ⟨fun k hk=>by rw [tr_o (by omega) (by omega)]; exact h.fix k hk,fun k=>by rw [h.gf,tr_tr hi],fun k=>by rw [tr_tr hi,h.fg]⟩
def ds (f:Nat→Nat) (i:Nat):Prop:=f i<f (i-1)
instance (f:Nat→Nat) (i:Nat):Decidable (ds f i):=inferInstanceAs (Decidable (_<_))
inductive Wd (N:Nat):(Nat→Nat)→List Nat→Prop
 | nil:Wd N (fun k=>k) []
 | cons {f:Nat→Nat} {i:Nat} {w:List Nat}:1≤i→i<N→ds f i→Wd N (fun k=>f (tr i k)) w→Wd N f (i::w)
inductive PE (N:Nat):List Nat→List Nat→Prop
 | refl (w):PE N w w
 | symm {u v}:PE N u v→PE N v u
 | trans {u v w}:PE N u v→PE N v w→PE N u w
 | far (a b) {i j:Nat}:1≤i→i<N→1≤j→j<N→i+1<j→PE N (a++i::j::b) (a++j::i::b)
 | braid (a b) {i:Nat}:1≤i→i+1<N→PE N (a++i::(i+1)::i::b) (a++(i+1)::i::(i+1)::b)
/-! Inversions. -/
def inv:List Nat→Nat
 | []=>0
 | a::l=>l.countP (fun x=>decide (x<a))+inv l
def lst (N:Nat) (f:Nat→Nat):List Nat:=(List.range N).map f
end
end Gar
end Go.Proofs.Ytlkmcbgkohpmiaa

set_option linter.all false
namespace Go.Proofs.Ytlkmcbgkohpmiaa
open Ev
