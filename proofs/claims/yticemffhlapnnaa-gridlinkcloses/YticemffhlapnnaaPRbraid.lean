import Derived.Test.YticemffhlapnnaaPRdia1
import Derived.Test.YticemffhlapnnaaPLoop
set_option linter.all false
namespace Go.Proofs.Yticemffhlapnnaa
namespace Gl
open Ev
def beside (x f v:Int) (c:Int):List Int:=if c=x then (if v=0 then [f,x] else [x,f]) else [c]
end Gl
end Go.Proofs.Yticemffhlapnnaa

set_option linter.all false
namespace Go.Proofs.Yticemffhlapnnaa
namespace Gl
open Ev
structure BI (s k:Nat) (mk:List (Int×Int)) (od bot top pr:List Int):Prop where
 fs:mk.map Prod.fst=bot
 tl:top.length=s+k
 ml:mk.length=s+k
 bl:bot.length=s+k
 pl:pr.length=s
 pb: ∀c∈pr,0≤c∧c<(s+k:Int)
 nd:od.Nodup
 po: ∀c∈pr,c∈od
 ob: ∀c∈od,0≤c∧c<(s+k:Int)
 ol:od.length=s+k
 ag: ∀i,i<s+k→(i:Int)∈pr∨(mk[i]?).map Prod.snd=top[i]?
end Gl
end Go.Proofs.Yticemffhlapnnaa

set_option linter.all false
namespace Go.Proofs.Yticemffhlapnnaa
open Ev
def okW (s:Int) (w:List Int):Bool:=w.all fun x=>decide (x≠0)&&(decide (-s<x)&&decide (x<s))
def okB (s:Int) (w:List Int):Bool:=decide (1≤s)&&(decide (s≤10)&&(decide (w.length≤200)&&okW s w))
theorem okB_iff {s:Int} {w:List Int}:okB s w=true↔(1≤s∧s≤10∧w.length≤200∧∀x∈w,x≠0∧-s<x∧x<s):=by
 simp only [okB,okW,Bool.and_eq_true,decide_eq_true_eq,List.all_eq_true]
theorem drop_step {w:List Int} {k:Nat} (hk:k<w.length):w.drop k=w[k]::w.drop (k+1):=(List.getElem_cons_drop hk).symm
theorem braidValid {s:Int} {w:List Int} (n:Nat) (hn:w.length<n):F.qfs n s w=some (okB s w):=by
 unfold F.qfs
 by_cases h1:s<1
 · rw [dT h1]; simp [okB]; omega
 rw [dF h1]
 by_cases h2:10<s
 · rw [dT h2]; simp [okB]; omega
 rw [dF h2]
 by_cases h3:(200:Int)<(w.length:Int)
 · rw [dT h3]; simp [okB]; omega
 rw [dF h3]
 simp only [kF]
 have hok:okB s w=okW s w:=by
  unfold okB; rw [dT (show 1≤s by omega),dT (show s≤10 by omega),dT (show w.length≤200 by omega)]; simp
 obtain ⟨r,hr,hq⟩:=qdz (body:=F.qfx n s w) (fun v=> ∃k:Nat,v=(k:Int)∧k≤w.length∧okW s w=okW s (w.drop k)) (fun v=>w.length-v.toNat)
  (fun r=>match r with | .inl _=>okW s w=true | .inr b=>b=okW s w) (fun v ⟨k,hv,hk,hI⟩=>by
   subst hv
   unfold F.qfx
   dsimp only
   by_cases hlt:(k:Int)<(w.length:Int)
   ·
    rw [dT hlt]
    have hk':k<w.length:=by omega
    have hs:okW s (w.drop k)=(decide (w[k]≠0)&&(decide (-s<w[k])&&decide (w[k]<s))&&okW s (w.drop (k+1))):=by
     unfold okW; rw [drop_step hk',List.all_cons]
    simp only [kT,qdb,gE hk',bB]
    rw [qak (by omega) (by omega),qak (by omega) (by omega)]
    simp only [bB]
    by_cases c1:w[k]=0
    · rw [dT c1]; right; exact ⟨_,rfl,by rw [hI,hs]; simp [c1]⟩
    rw [dF c1]
    by_cases c2:w[k]≤-s
    · rw [dT c2]; right; exact ⟨_,rfl,by rw [hI,hs,dF (show¬(-s<w[k]) by omega)]; simp⟩
    rw [dF c2]
    by_cases c3:s≤w[k]
    · rw [dT c3]; right; exact ⟨_,rfl,by rw [hI,hs,dF (show¬(w[k]<s) by omega)]; simp⟩
    rw [dF c3]
    left
    refine ⟨_,rfl,⟨k+1,by simp,by omega,?_⟩,by omega⟩
    rw [hI,hs,dT (show w[k]≠0 from c1),dT (show -s<w[k] by omega),dT (show w[k]<s by omega)]; simp
   ·
    rw [dF hlt]
    right
    have:k=w.length:=by omega
    subst this
    exact ⟨_,rfl,by show okW s w=true; rw [hI]; simp [okW]⟩) n 0 ⟨0,rfl,Nat.zero_le _,by simp⟩ (by simpa using hn)
 rw [hr]
 simp only [bB]
 cases r with
 | inl v=>simp only at hq⊢; rw [hok,hq]
 | inr b=>simp only at hq⊢; rw [hok,hq]
end Go.Proofs.Yticemffhlapnnaa

set_option linter.all false
namespace Go.Proofs.Yticemffhlapnnaa
namespace Gl
open Ev
def rg (k:Nat):List Int:=(List.range k).map fun i:Nat=>(i:Int)
def mk0 (k:Nat):List (Int×Int):=(List.range k).map fun i:Nat=>((i:Int),0)
theorem rg_len (k:Nat):(rg k).length=k:=by simp [rg]
theorem mk0_len (k:Nat):(mk0 k).length=k:=by simp [mk0]
theorem rg_succ (k:Nat):rg (k+1)=rg k++[(k:Int)]:=by simp [rg,List.range_succ]
theorem mk0_succ (k:Nat):mk0 (k+1)=mk0 k++[((k:Int),0)]:=by simp [mk0,List.range_succ]
theorem b0_eq (s:Nat) (hs:s<1000) (n:Nat) (hn:2000<n):loopN n (F.qdj n s) (([]:List (Int×Int)),([]:List Int),([]:List Int),0)=some (mk0 s,rg s,rg s,(s:Int)):=by
 refine qbp (body:=F.qdj n s) (fun k=>(mk0 k,rg k,rg k,(k:Int))) s (fun k hk=>?_) ?_ n (by omega)
 ·
  unfold F.qdj
  dsimp only
  rw [dT (by omega),kT,qct (by rw [mk0_len]; simp only [List.length_cons,List.length_nil]; omega),bB,qct (by rw [rg_len]; simp only [List.length_cons,List.length_nil]; omega),bB,bB,
   qak (by omega) (by omega),bB,mk0_succ,rg_succ]
  rfl
 ·
  unfold F.qdj
  dsimp only
  rw [dF (by omega),kF]
