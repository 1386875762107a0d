import Derived.Test.YticemffhlapnnaaF
import Derived.Test.YticemffhlapnnaaTrod
set_option linter.all false
namespace Go.Proofs.Yticemffhlapnnaa
open Ev
theorem qak {z:Int} (h1: -9223372036854775808≤z) (h2:z≤9223372036854775807):chk z=some z:=if_pos ⟨h1,h2⟩
theorem qct {n:Nat} (h:n≤1099511627776):lim n=some ():=if_pos h
theorem pos_ok {n:Int} (h1:0≤n) (h2:n≤1099511627776):pos n=some ():=if_pos ⟨h1,h2⟩
theorem posz_ok {n:Int} (h1:0<n) (h2:n≤1099511627776):posz n=some ():=if_pos ⟨h1,h2⟩
theorem nz_ok {n:Int} (h:n≠0):nz n=some ():=if_pos h
theorem cut_ok {a b:Int} {n:Nat} (h1:0≤a) (h2:a≤b) (h3:b≤n):cut a b n=some ():=if_pos ⟨h1,h2,h3⟩
theorem get_ok {α:Type} {xs:List α} {i:Int} (h0:0≤i) (h1:i.toNat<xs.length):Ev.get xs i=some xs[i.toNat]:=by
  unfold Ev.get; rw [if_pos h0,gE h1]
theorem qdb {α:Type} {xs:List α} {k:Nat}:Ev.get xs (k:Int)=xs[k]? :=by
  unfold Ev.get; rw [if_pos (by omega)]; simp
theorem get_at {α:Type} {xs:List α} {k:Nat} {i:Int} {x:α} (hi:i=(k:Int)) (h:xs[k]? =some x):Ev.get xs i=some x:=by
  subst hi; rw [qdb]; exact h
theorem qdz {S R:Type} {body:S→Option (S⊕R)} (I:S→Prop) (μ:S→Nat) (Q:R→Prop)
    (step: ∀s,I s→(∃s',body s=some (.inl s')∧I s'∧μ s'<μ s)∨∃r,body s=some (.inr r)∧Q r): ∀(n:Nat) (s:S),I s→μ s<n→∃r,loopN n body s=some r∧Q r
  | 0,s,_,h=>absurd h (Nat.not_lt_zero _)
  | n+1,s,hI,h=>by
    rcases step s hI with ⟨s',h1,h2,h3⟩ | ⟨r,h1,h2⟩
    · obtain ⟨r,h4,h5⟩:=qdz I μ Q step n s' h2 (by omega)
      exact ⟨r,by simp only [loopN,h1,bB]; exact h4,h5⟩
    · exact ⟨r,by simp only [loopN,h1,bB],h2⟩
end Go.Proofs.Yticemffhlapnnaa

set_option linter.all false
namespace Go.Proofs.Yticemffhlapnnaa
open Ev
set_option maxRecDepth 100000 in
theorem awake44:F.law44_awake 200000000=some true:=by decide+kernel
end Go.Proofs.Yticemffhlapnnaa

set_option linter.all false
namespace Go.Proofs.Yticemffhlapnnaa
open Ev
theorem qbp {S R:Type} {body:S→Option (S⊕R)} (st:Nat→S) (m:Nat) {r:R} (h: ∀k,k<m→body (st k)=some (.inl (st (k+1)))) (he:body (st m)=some (.inr r)): ∀n,m<n→loopN n body (st 0)=some r:=by
  have key: ∀(j k n:Nat),k+j=m→j<n→loopN n body (st k)=some r:=by
    intro j
    induction j with
    | zero=>
              intro k n hk hn; obtain ⟨n,rfl⟩: ∃n',n=n'+1:=⟨n-1,by omega⟩
              obtain rfl:k=m:=by omega
              simp only [loopN,he,bB]
    | succ j ih=>
                   intro k n hk hn; obtain ⟨n,rfl⟩: ∃n',n=n'+1:=⟨n-1,by omega⟩
                   simp only [loopN,h k (by omega),bB]
                   exact ih (k+1) n (by omega) (by omega)
  intro n hn
  exact key m 0 n (by omega) hn
