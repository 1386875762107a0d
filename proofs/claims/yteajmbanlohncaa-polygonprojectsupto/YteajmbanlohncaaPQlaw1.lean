import Derived.Test.YteajmbanlohncaaF
import Derived.Test.YteajmbanlohncaaTrod
set_option linter.unusedVariables false
namespace Go.Proofs.Yteajmbanlohncaa
open Ev
theorem chk_ok {z:Int} (h1: -9223372036854775808≤z) (h2:z≤9223372036854775807):chk z=some z:=if_pos ⟨h1,h2⟩
theorem lim_ok {n:Nat} (h:n≤1099511627776):lim n=some ():=if_pos h
theorem pos_ok {n:Int} (h1:0≤n) (h2:n≤1099511627776):pos n=some ():=if_pos ⟨h1,h2⟩
theorem nz_ok {n:Int} (h:n≠0):nz n=some ():=if_pos h
theorem cut_ok {a b:Int} {n:Nat} (h1:0≤a) (h2:a≤b) (h3:b≤n):cut a b n=some ():=if_pos ⟨h1,h2,h3⟩
theorem get_nat {α:Type} {xs:List α} {k:Nat}:Ev.get xs (k:Int)=xs[k]? :=by
 unfold Ev.get; rw [if_pos (by omega)]; simp
theorem get_at {α:Type} {xs:List α} {k:Nat} {i:Int} {x:α} (hi:i=(k:Int)) (h:xs[k]? =some x):Ev.get xs i=some x:=by
 subst hi; rw [get_nat]; exact h
theorem loop_spec {S R:Type} {body:S→Option (S⊕R)} (I:S→Prop) (μ:S→Nat) (Q:R→Prop)
  (step: ∀s,I s→(∃s',body s=some (.inl s')∧I s'∧μ s'<μ s)∨∃r,body s=some (.inr r)∧Q r): ∀(n:Nat) (s:S),I s→μ s<n→∃r,loopN n body s=some r∧Q r
 | 0,s,_,h=>absurd h (Nat.not_lt_zero _)
 | n+1,s,hI,h=>by
  rcases step s hI with ⟨s',h1,h2,h3⟩ | ⟨r,h1,h2⟩
  ·
   obtain ⟨r,h4,h5⟩:=loop_spec I μ Q step n s' h2 (by omega)
   exact ⟨r,by simp only [loopN,h1,bB]; exact h4,h5⟩
  · exact ⟨r,by simp only [loopN,h1,bB],h2⟩
end Go.Proofs.Yteajmbanlohncaa

set_option linter.unusedVariables false
namespace Go.Proofs.Yteajmbanlohncaa
open Ev
set_option maxRecDepth 100000 in
theorem awake46:F.law46_awake 200000000=some true:=by decide+kernel
end Go.Proofs.Yteajmbanlohncaa

set_option linter.unusedVariables false
set_option linter.unusedSimpArgs false
namespace Go.Proofs.Yteajmbanlohncaa
open Ev
namespace Pg
abbrev Pt:=Int×(Int×Int)
def Fit (p:Pt):Prop:=-1000≤p.1∧p.1≤1000∧-1000≤p.2.1∧p.2.1≤1000∧-1000≤p.2.2∧p.2.2≤1000
instance (p:Pt):Decidable (Fit p):=by unfold Fit; infer_instance
def T (a b c:Pt):Int:=(b.1-a.1)*(c.2.1-a.2.1)-(b.2.1-a.2.1)*(c.1-a.1)
theorem mulb {x y A B:Int} (h1: -A≤x) (h2:x≤A) (h3: -B≤y) (h4:y≤B): -(A*B)≤x*y∧x*y≤A*B:=by
 have p1:0≤(A-x)*(B+y):=Int.mul_nonneg (by omega) (by omega)
 have p2:0≤(A+x)*(B-y):=Int.mul_nonneg (by omega) (by omega)
 have p3:0≤(A-x)*(B-y):=Int.mul_nonneg (by omega) (by omega)
 have p4:0≤(A+x)*(B+y):=Int.mul_nonneg (by omega) (by omega)
 constructor<;>grind
theorem T_parts {a b c:Pt} (ha:Fit a) (hb:Fit b) (hc:Fit c):(-4000000≤(b.1-a.1)*(c.2.1-a.2.1)∧(b.1-a.1)*(c.2.1-a.2.1)≤4000000)∧(-4000000≤(b.2.1-a.2.1)*(c.1-a.1)∧(b.2.1-a.2.1)*(c.1-a.1)≤4000000):=by
 unfold Fit at ha hb hc
 have h1:=mulb (x:=b.1-a.1) (y:=c.2.1-a.2.1) (A:=2000) (B:=2000) (by omega) (by omega) (by omega) (by omega)
 have h2:=mulb (x:=b.2.1-a.2.1) (y:=c.1-a.1) (A:=2000) (B:=2000) (by omega) (by omega) (by omega) (by omega)
 omega
theorem T_rng {a b c:Pt} (ha:Fit a) (hb:Fit b) (hc:Fit c): -8000000≤T a b c∧T a b c≤8000000:=by
 have:=T_parts ha hb hc
 unfold T; omega
theorem turn_eq {a b c:Pt} (ha:Fit a) (hb:Fit b) (hc:Fit c) (n:Nat):F.polygon_turn n a.1 a.2.1 a.2.2 b.1 b.2.1 b.2.2 c.1 c.2.1 c.2.2=some (T a b c):=by
 have h:=T_parts ha hb hc
 unfold Fit at ha hb hc
 unfold F.polygon_turn
 rw [chk_ok (by omega) (by omega),bB,chk_ok (by omega) (by omega),bB,chk_ok (by omega) (by omega),bB,chk_ok (by omega) (by omega),bB,chk_ok (by omega) (by omega),bB,chk_ok (by omega) (by omega),bB,chk_ok (by omega) (by omega),bB]
 rfl
def On (a b p:Pt):Prop:=T a b p=0∧min a.1 b.1≤p.1∧p.1≤max a.1 b.1∧min a.2.1 b.2.1≤p.2.1∧p.2.1≤max a.2.1 b.2.1
instance (a b p:Pt):Decidable (On a b p):=by unfold On; infer_instance
theorem conds {p q:Prop} [Decidable p] [Decidable q]:cond (decide p) (some (decide q)) (some false)=some (decide (p∧q)):=by
 by_cases hp:p<;>simp [hp]
theorem on_eq {a b c:Pt} (ha:Fit a) (hb:Fit b) (hc:Fit c) (n:Nat):F.polygon_on n a.1 a.2.1 a.2.2 b.1 b.2.1 b.2.2 c.1 c.2.1 c.2.2=some (decide (On a b c)):=by
 unfold F.polygon_on
 rw [turn_eq ha hb hc,bB,conds,conds,conds,conds]
 rfl
def Opp (x y:Int):Prop:=x<0∧0<y∨0<x∧y<0
instance (x y:Int):Decidable (Opp x y):=by unfold Opp; infer_instance
theorem opp_eq (x y:Int) (n:Nat):F.polygon_opposite n x y=some (decide (Opp x y)):=by
 unfold F.polygon_opposite Opp
 by_cases h1:x<0<;>by_cases h2:0<y<;>by_cases h3:0<x<;>by_cases h4:y<0<;>simp [h1,h2,h3,h4]<;>omega
theorem within_eq (p:Pt) (n:Nat) (hn:3<n):F.polygon_within n p.1 p.2.1 p.2.2=some (decide (Fit p)):=by
 obtain ⟨m,rfl⟩: ∃m,n=m+4:=⟨n-4,by omega⟩
 obtain ⟨x,y,z⟩:=p
 unfold F.polygon_within Fit
 simp only [loopN,F.polygon_within_b0,Ev.get,chk]
 by_cases h1:x< -1000
 ·
  have: ¬-1000≤x:=by omega
  simp [h1,this]
 by_cases h2:1000<x
 ·
  have: ¬x≤1000:=by omega
  simp [h1,h2,this]
 by_cases h3:y< -1000
 ·
  have: ¬-1000≤y:=by omega
  simp [h1,h2,h3,this]
 by_cases h4:1000<y
 ·
  have: ¬y≤1000:=by omega
  simp [h1,h2,h3,h4,this]
 by_cases h5:z< -1000
 ·
  have: ¬-1000≤z:=by omega
  simp [h1,h2,h3,h4,h5,this]
 by_cases h6:1000<z
 ·
  have: ¬z≤1000:=by omega
  simp [h1,h2,h3,h4,h5,h6,this]
 have hf:(-1000≤x∧x≤1000∧-1000≤y∧y≤1000∧-1000≤z∧z≤1000):=by omega
 simp only [hf]
 simp [h1,h2,h3,h4,h5,h6]
def hU (a b c d:Pt):Int:=(b.2.2*T c d a-a.2.2*T c d b)*(T a b c-T a b d)
def cr (a b c d:Pt):Int×Bool:=
 if Fit a∧Fit b∧Fit c∧Fit d then
  if Opp (T a b c) (T a b d)∧Opp (T c d a) (T c d b) then
   if hU a b c d=hU c d a b then (2,false) else (1,if (T c d a<0↔T a b c<0) then decide (hU c d a b<hU a b c d) else decide (hU a b c d<hU c d a b))
  else (if On a b c∨On a b d∨On c d a∨On c d b then 2 else 0,false)
 else (2,false)
theorem within_lp (a b c d:Pt) (n:Nat) (hn:4<n):loopN n (F.polygon_Cross_b0 n a.1 a.2.1 a.2.2 b.1 b.2.1 b.2.2 c.1 c.2.1 c.2.2 d.1 d.2.1 d.2.2) 0=some (if Fit a∧Fit b∧Fit c∧Fit d then .inl 4 else .inr (2,false)):=by
 have e: ∀m,loopN (m+5) (F.polygon_Cross_b0 n a.1 a.2.1 a.2.2 b.1 b.2.1 b.2.2 c.1 c.2.1 c.2.2 d.1 d.2.1 d.2.2) 0=some (if Fit a∧Fit b∧Fit c∧Fit d then .inl 4 else .inr (2,false)):=by
  intro m
  simp only [loopN,F.polygon_Cross_b0,Ev.get,chk]
  by_cases h1:Fit a
  case neg=>simp [within_eq a n (by omega),h1]
  by_cases h2:Fit b
  case neg=>simp [within_eq a n (by omega),within_eq b n (by omega),h1,h2]
  by_cases h3:Fit c
  case neg=>simp [within_eq a n (by omega),within_eq b n (by omega),within_eq c n (by omega),h1,h2,h3]
  by_cases h4:Fit d
  case neg=>simp [within_eq a n (by omega),within_eq b n (by omega),within_eq c n (by omega),within_eq d n (by omega),h1,h2,h3,h4]
  simp [within_eq a n (by omega),within_eq b n (by omega),within_eq c n (by omega),within_eq d n (by omega),h1,h2,h3,h4]
 obtain ⟨m,rfl⟩: ∃m,n=m+5:=⟨n-5,by omega⟩
 exact e m
theorem h_parts {z1 z2 t1 t2:Int} (h1: -1000≤z1∧z1≤1000) (h2: -1000≤z2∧z2≤1000) (h3: -8000000≤t1∧t1≤8000000) (h4: -8000000≤t2∧t2≤8000000):
  (-8000000000≤z2*t1∧z2*t1≤8000000000)∧(-8000000000≤z1*t2∧z1*t2≤8000000000):=by
 have a:=mulb (A:=1000) (B:=8000000) h2.1 h2.2 h3.1 h3.2
 have b:=mulb (A:=1000) (B:=8000000) h1.1 h1.2 h4.1 h4.2
 omega
theorem mulb2 {x y:Int} (h1: -16000000000≤x∧x≤16000000000) (h2: -16000000≤y∧y≤16000000): -256000000000000000≤x*y∧x*y≤256000000000000000:=by
 have a:=mulb (A:=16000000000) (B:=16000000) h1.1 h1.2 h2.1 h2.2
 omega
theorem cross_eq (a b c d:Pt) (n:Nat) (hn:4<n):F.polygon_Cross n a.1 a.2.1 a.2.2 b.1 b.2.1 b.2.2 c.1 c.2.1 c.2.2 d.1 d.2.1 d.2.2=some (cr a b c d):=by
 unfold F.polygon_Cross cr
 rw [within_lp a b c d n hn,bB]
 by_cases hf:Fit a∧Fit b∧Fit c∧Fit d
 case neg=>rw [if_neg hf,if_neg hf]
 rw [if_pos hf,if_pos hf]
 obtain ⟨ha,hb,hc,hd⟩:=hf
 dsimp only
 rw [turn_eq ha hb hc,bB,turn_eq ha hb hd,bB,turn_eq hc hd ha,bB,turn_eq hc hd hb,bB,opp_eq,bB,opp_eq,bB]
 have r1:=T_rng ha hb hc
 have r2:=T_rng ha hb hd
 have r3:=T_rng hc hd ha
 have r4:=T_rng hc hd hb
 have e1:cond (!decide (Opp (T a b c) (T a b d))) (F.polygon_Cross_j1 n a.1 a.2.1 a.2.2 b.1 b.2.1 b.2.2 c.1 c.2.1 c.2.2 d.1 d.2.1 d.2.2 (T a b c) (T a b d) (T c d a) (T c d b) true) (F.polygon_Cross_j1 n a.1 a.2.1 a.2.2 b.1 b.2.1 b.2.2 c.1 c.2.1 c.2.2 d.1 d.2.1 d.2.2 (T a b c) (T a b d) (T c d a) (T c d b) (!decide (Opp (T c d a) (T c d b))))=
   F.polygon_Cross_j1 n a.1 a.2.1 a.2.2 b.1 b.2.1 b.2.2 c.1 c.2.1 c.2.2 d.1 d.2.1 d.2.2 (T a b c) (T a b d) (T c d a) (T c d b) (!decide (Opp (T a b c) (T a b d)∧Opp (T c d a) (T c d b))):=by
  by_cases h1:Opp (T a b c) (T a b d)<;>simp [h1]
 rw [e1]
 unfold F.polygon_Cross_j1
 by_cases hO:Opp (T a b c) (T a b d)∧Opp (T c d a) (T c d b)
 case neg=>
  rw [if_neg hO,dF hO,Bool.not_false,kT,on_eq ha hb hc,bB,on_eq ha hb hd,bB,on_eq hc hd ha,bB,on_eq hc hd hb,bB]
  by_cases o1:On a b c<;>by_cases o2:On a b d<;>by_cases o3:On c d a<;>by_cases o4:On c d b<;>simp [o1,o2,o3,o4]
 rw [if_pos hO,dT hO,Bool.not_true,kF]
 have hza: -1000≤a.2.2∧a.2.2≤1000:=⟨ha.2.2.2.2.1,ha.2.2.2.2.2⟩
 have hzb: -1000≤b.2.2∧b.2.2≤1000:=⟨hb.2.2.2.2.1,hb.2.2.2.2.2⟩
 have hzc: -1000≤c.2.2∧c.2.2≤1000:=⟨hc.2.2.2.2.1,hc.2.2.2.2.2⟩
 have hzd: -1000≤d.2.2∧d.2.2≤1000:=⟨hd.2.2.2.2.1,hd.2.2.2.2.2⟩
 have p1:=h_parts hza hzb r3 r4
 have p2:=h_parts hzc hzd r1 r2
 have hu:hU a b c d=(b.2.2*T c d a-a.2.2*T c d b)*(T a b c-T a b d):=rfl
 have hv:hU c d a b=(d.2.2*T a b c-c.2.2*T a b d)*(T c d a-T c d b):=rfl
 rw [hu,hv]
 clear hu hv
 obtain ⟨hO1,hO2⟩:=hO
 unfold Opp at hO1 hO2
 generalize T a b c=tc at*
 generalize T a b d=td at*
 generalize T c d a=ta at*
 generalize T c d b=tb at*
 rw [chk_ok (z:=ta-tb) (by omega) (by omega),bB,chk_ok (z:=tc-td) (by omega) (by omega),bB,chk_ok (by omega) (by omega),bB,chk_ok (by omega) (by omega),bB,chk_ok (by omega) (by omega),bB,chk_ok (by omega) (by omega),bB,chk_ok (by omega) (by omega),bB,chk_ok (by omega) (by omega),bB]
 obtain ⟨U,hU⟩: ∃U,U=b.2.2*ta-a.2.2*tb:=⟨_,rfl⟩
 obtain ⟨W,hW⟩: ∃W,W=d.2.2*tc-c.2.2*td:=⟨_,rfl⟩
 rw [←hU,←hW]
 have bU: -16000000000≤U∧U≤16000000000:=by omega
 have bW: -16000000000≤W∧W≤16000000000:=by omega
 have q1:=mulb2 (x:=U) (y:=tc-td) bU (by omega)
 have q2:=mulb2 (x:=W) (y:=ta-tb) bW (by omega)
 have j3: ∀s1 s2:Int,-9223372036854775808≤s1∧s1≤9223372036854775807→-9223372036854775808≤s2∧s2≤9223372036854775807→∀x y f g:Int,y*f=s1→g*x=s2→F.polygon_Cross_j3 n x y f g=some (if s1=s2 then (2,false) else (1,decide (s2<s1))):=by
  intro s1 s2 h1 h2 x y f g e1 e2
  unfold F.polygon_Cross_j3
  rw [e1,e2,chk_ok h1.1 h1.2,bB,chk_ok h2.1 h2.2,bB]
  by_cases he:s1=s2
  · rw [dT he,kT,if_pos he]
  · rw [dF he,kF,if_neg he]; rfl
 unfold F.polygon_Cross_j2
 by_cases h1:ta<0
 ·
  have h1':ta-tb<0:=by omega
  rw [dT h1',kT,chk_ok (z:=-(ta-tb)) (by omega) (by omega),bB,chk_ok (z:=-U) (by omega) (by omega),bB]
  by_cases h2:tc<0
  ·
   have h2':tc-td<0:=by omega
   rw [dT h2',kT,chk_ok (z:=-(tc-td)) (by omega) (by omega),bB,chk_ok (z:=-W) (by omega) (by omega),bB]
   rw [j3 (U*(tc-td)) (W*(ta-tb)) (by omega) (by omega) _ _ _ _ (by grind) (by grind)]
   simp [h1,h2]
  ·
   have h2': ¬tc-td<0:=by omega
   rw [dF h2',kF]
   rw [j3 (-(U*(tc-td))) (-(W*(ta-tb))) (by omega) (by omega) _ _ _ _ (by grind) (by grind)]
   simp [h1,h2]
 ·
  have h1': ¬ta-tb<0:=by omega
  rw [dF h1',kF]
  by_cases h2:tc<0
  ·
   have h2':tc-td<0:=by omega
   rw [dT h2',kT,chk_ok (z:=-(tc-td)) (by omega) (by omega),bB,chk_ok (z:=-W) (by omega) (by omega),bB]
   rw [j3 (-(U*(tc-td))) (-(W*(ta-tb))) (by omega) (by omega) _ _ _ _ (by grind) (by grind)]
   simp [h1,h2]
  ·
   have h2': ¬tc-td<0:=by omega
   rw [dF h2',kF]
   rw [j3 (U*(tc-td)) (W*(ta-tb)) (by omega) (by omega) _ _ _ _ (by grind) (by grind)]
   simp [h1,h2]
theorem on_T {a b p:Pt} (h:On a b p):T a b p=0:=h.1
theorem cr_exch (a b c d:Pt):(cr c d a b).1=(cr a b c d).1∧((cr a b c d).1=1→(cr c d a b).2=!(cr a b c d).2)∧((cr a b c d).1≠1→(cr a b c d).2=false∧(cr c d a b).2=false):=by
 unfold cr
 have e1:(Fit c∧Fit d∧Fit a∧Fit b)=(Fit a∧Fit b∧Fit c∧Fit d):=propext (by constructor<;>(rintro ⟨h1,h2,h3,h4⟩; exact ⟨h3,h4,h1,h2⟩))
 have e2:(Opp (T c d a) (T c d b)∧Opp (T a b c) (T a b d))=(Opp (T a b c) (T a b d)∧Opp (T c d a) (T c d b)):=propext and_comm
 have e5:(On c d a∨On c d b∨On a b c∨On a b d)=(On a b c∨On a b d∨On c d a∨On c d b):=propext (by constructor<;>(rintro (h | h | h | h)<;>simp [h]))
 have e6:(T a b c<0↔T c d a<0)=(T c d a<0↔T a b c<0):=propext iff_comm
 have e7:(hU c d a b=hU a b c d)=(hU a b c d=hU c d a b):=propext eq_comm
 simp only [e1,e2,e5,e6,e7]
 generalize hU a b c d=u
 generalize hU c d a b=v
 by_cases h1:Fit a∧Fit b∧Fit c∧Fit d
 case neg=>simp [h1]
 by_cases h2:Opp (T a b c) (T a b d)∧Opp (T c d a) (T c d b)
 case neg=>
  simp only [if_pos h1,if_neg h2]
  by_cases h3:On a b c∨On a b d∨On c d a∨On c d b
  · simp only [if_pos h3]; decide
  · simp only [if_neg h3]; decide
 by_cases h3:u=v
 · simp [h1,h2,h3]
 ·
  by_cases h4:(T c d a<0↔T a b c<0)
  ·
   simp only [h1,h2,h3,h4,and_self,if_true,if_false]
   refine ⟨trivial,fun _=>?_,fun h=>absurd rfl h⟩
   by_cases h5:v<u
   ·
    have: ¬u<v:=by omega
    simp [h5,this]
   ·
    have:u<v:=by omega
    simp [h5,this]
  ·
   simp only [h1,h2,h3,h4,and_self,if_true,if_false]
   refine ⟨trivial,fun _=>?_,fun h=>absurd rfl h⟩
   by_cases h5:v<u
   ·
    have: ¬u<v:=by omega
    simp [h5,this]
   ·
    have:u<v:=by omega
    simp [h5,this]
theorem turnR_eq {a b c:Pt} (ha:Fit a) (hb:Fit b) (hc:Fit c) (n:Nat):F.ref46_turn n a.1 a.2.1 a.2.2 b.1 b.2.1 b.2.2 c.1 c.2.1 c.2.2=some (T a b c):=turn_eq ha hb hc n
theorem onR_eq {a b c:Pt} (ha:Fit a) (hb:Fit b) (hc:Fit c) (n:Nat):F.ref46_on n c.1 c.2.1 c.2.2 a.1 a.2.1 a.2.2 b.1 b.2.1 b.2.2=some (decide (On a b c)):=on_eq ha hb hc n
theorem oppR_eq (x y:Int) (n:Nat):F.ref46_opposite n x y=some (decide (Opp x y)):=opp_eq x y n
theorem fits_eq (p:Pt) (n:Nat):F.ref46_fits n p.1 p.2.1 p.2.2=some (decide (Fit p)):=by
 unfold F.ref46_fits
 rw [conds,conds,conds,conds,conds]
 rfl
theorem crossR_eq (a b c d:Pt) (n:Nat):F.ref46_Cross n a.1 a.2.1 a.2.2 b.1 b.2.1 b.2.2 c.1 c.2.1 c.2.2 d.1 d.2.1 d.2.2=some (cr a b c d):=by
 unfold F.ref46_Cross cr
 rw [fits_eq,bB]
 by_cases ha:Fit a
 case neg=>simp [ha]
 rw [dT ha,Bool.not_true,kF,fits_eq,bB]
 by_cases hb:Fit b
 case neg=>simp [hb]
 rw [dT hb,Bool.not_true,kF,fits_eq,bB]
 by_cases hc:Fit c
 case neg=>simp [hc]
 rw [dT hc,Bool.not_true,kF,fits_eq,bB]
 by_cases hd:Fit d
 case neg=>simp [hd]
 rw [dT hd,Bool.not_true,kF,if_pos ⟨ha,hb,hc,hd⟩]
 rw [onR_eq hc hd ha,bB,onR_eq hc hd hb,bB,onR_eq ha hb hc,bB,onR_eq ha hb hd,bB]
 by_cases o1:On c d a
 ·
  have hn: ¬(Opp (T a b c) (T a b d)∧Opp (T c d a) (T c d b)):=by have:=on_T o1; unfold Opp; omega
  rw [dT o1,kT,if_neg hn,if_pos (by simp [o1])]
 rw [dF o1,kF]
 by_cases o2:On c d b
 ·
  have hn: ¬(Opp (T a b c) (T a b d)∧Opp (T c d a) (T c d b)):=by have:=on_T o2; unfold Opp; omega
  rw [dT o2,kT,if_neg hn,if_pos (by simp [o2])]
 rw [dF o2,kF]
 by_cases o3:On a b c
 ·
  have hn: ¬(Opp (T a b c) (T a b d)∧Opp (T c d a) (T c d b)):=by have:=on_T o3; unfold Opp; omega
  rw [dT o3,kT,if_neg hn,if_pos (by simp [o3])]
 rw [dF o3,kF]
 by_cases o4:On a b d
 ·
  have hn: ¬(Opp (T a b c) (T a b d)∧Opp (T c d a) (T c d b)):=by have:=on_T o4; unfold Opp; omega
  rw [dT o4,kT,if_neg hn,if_pos (by simp [o4])]
 rw [dF o4,kF]
 rw [turnR_eq ha hb hc,bB,turnR_eq ha hb hd,bB,turnR_eq hc hd ha,bB,turnR_eq hc hd hb,bB,oppR_eq,bB,oppR_eq,bB]
 have no: ¬(On a b c∨On a b d∨On c d a∨On c d b):=by simp [o1,o2,o3,o4]
 by_cases hO1:Opp (T a b c) (T a b d)
 case neg=>rw [dF hO1,Bool.not_false,kT,if_neg (fun h=>hO1 h.1),if_neg no]
 rw [dT hO1,Bool.not_true,kF]
 by_cases hO2:Opp (T c d a) (T c d b)
 case neg=>rw [dF hO2,Bool.not_false,kT,if_neg (fun h=>hO2 h.2),if_neg no]
 rw [dT hO2,Bool.not_true,kF,if_pos ⟨hO1,hO2⟩]
 have r1:=T_rng ha hb hc
 have r2:=T_rng ha hb hd
 have r3:=T_rng hc hd ha
 have r4:=T_rng hc hd hb
 have hza: -1000≤a.2.2∧a.2.2≤1000:=⟨ha.2.2.2.2.1,ha.2.2.2.2.2⟩
 have hzb: -1000≤b.2.2∧b.2.2≤1000:=⟨hb.2.2.2.2.1,hb.2.2.2.2.2⟩
 have hzc: -1000≤c.2.2∧c.2.2≤1000:=⟨hc.2.2.2.2.1,hc.2.2.2.2.2⟩
 have hzd: -1000≤d.2.2∧d.2.2≤1000:=⟨hd.2.2.2.2.1,hd.2.2.2.2.2⟩
 have p1:=h_parts hza hzb r3 r4
 have p2:=h_parts hzc hzd r1 r2
 have hu:hU a b c d=(b.2.2*T c d a-a.2.2*T c d b)*(T a b c-T a b d):=rfl
 have hv:hU c d a b=(d.2.2*T a b c-c.2.2*T a b d)*(T c d a-T c d b):=rfl
 rw [hu,hv]
 clear hu hv
 unfold Opp at hO1 hO2
 generalize T a b c=tc at*
 generalize T a b d=td at*
 generalize T c d a=ta at*
 generalize T c d b=tb at*
 have m1:=mulb (A:=1000) (B:=16000000) (x:=a.2.2) (y:=ta-tb) hza.1 hza.2 (by omega) (by omega)
 have m2:=mulb (A:=2000) (B:=8000000) (x:=b.2.2-a.2.2) (y:=ta) (by omega) (by omega) r3.1 r3.2
 have m3:=mulb (A:=1000) (B:=16000000) (x:=c.2.2) (y:=tc-td) hzc.1 hzc.2 (by omega) (by omega)
 have m4:=mulb (A:=2000) (B:=8000000) (x:=d.2.2-c.2.2) (y:=tc) (by omega) (by omega) r1.1 r1.2
 obtain ⟨U,hU⟩: ∃U,U=b.2.2*ta-a.2.2*tb:=⟨_,rfl⟩
 obtain ⟨W,hW⟩: ∃W,W=d.2.2*tc-c.2.2*td:=⟨_,rfl⟩
 have eU:a.2.2*(ta-tb)+(b.2.2-a.2.2)*ta=U:=by grind
 have eW:c.2.2*(tc-td)+(d.2.2-c.2.2)*tc=W:=by grind
 rw [←hU,←hW]
 have bU: -16000000000≤U∧U≤16000000000:=by omega
 have bW: -16000000000≤W∧W≤16000000000:=by omega
 have q1:=mulb2 (x:=U) (y:=tc-td) bU (by omega)
 have q2:=mulb2 (x:=W) (y:=ta-tb) bW (by omega)
 simp only [chk_ok (z:=ta-tb) (by omega) (by omega),chk_ok (z:=tc-td) (by omega) (by omega),bB,chk_ok (z:=b.2.2-a.2.2) (by omega) (by omega),chk_ok (z:=d.2.2-c.2.2) (by omega) (by omega)]
 rw [chk_ok (z:=a.2.2*(ta-tb)) (by omega) (by omega),bB,chk_ok (z:=(b.2.2-a.2.2)*ta) (by omega) (by omega),bB,eU,chk_ok (z:=U) (by omega) (by omega),bB,chk_ok (z:=U*(tc-td)) (by omega) (by omega),bB]
 rw [chk_ok (z:=c.2.2*(tc-td)) (by omega) (by omega),bB,chk_ok (z:=(d.2.2-c.2.2)*tc) (by omega) (by omega),bB,eW,chk_ok (z:=W) (by omega) (by omega),bB,chk_ok (z:=W*(ta-tb)) (by omega) (by omega),bB]
 rw [oppR_eq,bB,oppR_eq,bB]
 have i1:decide (Opp (ta-tb) 1)=decide (ta<0):=decide_eq_decide.mpr (by unfold Opp; omega)
 have i2:decide (Opp (tc-td) 1)=decide (tc<0):=decide_eq_decide.mpr (by unfold Opp; omega)
 rw [i1,i2]
 have j0: ∀x y:Int,F.ref46_Cross_j0 n x y=some (if x=y then (2,false) else (1,decide (y<x))):=by
  intro x y
  unfold F.ref46_Cross_j0
  by_cases he:x=y
  · rw [dT he,kT,if_pos he]
  · rw [dF he,kF,if_neg he]
 rw [j0,chk_ok (z:=0-U*(tc-td)) (by omega) (by omega),bB,chk_ok (z:=0-W*(ta-tb)) (by omega) (by omega),bB,j0]
 generalize U*(tc-td)=u
 generalize W*(ta-tb)=v
 have z1:(0-u=0-v)=(u=v):=propext (by omega)
 have z2:(0-v<0-u)=(u<v):=propext (by omega)
 simp only [z1,z2]
 by_cases h1:ta<0<;>by_cases h2:tc<0<;>simp [h1,h2]
end Pg
end Go.Proofs.Yteajmbanlohncaa
