import Derived.Test.YticemffhlapnnaaPRcan7
import Derived.Test.YticemffhlapnnaaPRrev
import Derived.Test.YticemffhlapnnaaPRbraid
import Derived.Test.YticemffhlapnnaaPRwrl
import Derived.Test.YticemffhlapnnaaPRdia1
set_option linter.all false
namespace Go.Proofs.Yticemffhlapnnaa
open Ev
namespace Gl
open Gar Pg
structure Cl where
 fst:Nat→Int
 lst:Nat→Int
 ps:List (Nat×Nat)
def upd (f:Nat→Int) (p:Nat) (v:Int) (q:Nat):Int:=if q=p then v else f q
def Cl.pass (S:Cl) (p i o:Nat):Cl:=
 if S.lst p<0 then ⟨upd S.fst p i,upd S.lst p o,S.ps⟩ else ⟨S.fst,upd S.lst p o,S.ps++[((S.lst p).toNat,i)]⟩
structure Cl.Ok (S:Cl) (s:Nat) (O I:Nat→Prop):Prop where
 n1:(S.ps.map (·.1)).Nodup
 n2:(S.ps.map (·.2)).Nodup
 o1: ∀a∈S.ps.map (·.1),O a
 i1: ∀a∈S.ps.map (·.2),I a
 lo: ∀p,p<s→-1≤S.lst p∧-1≤S.fst p∧(S.lst p<0↔S.fst p<0)
 l1: ∀p,p<s→0≤S.lst p→O (S.lst p).toNat∧(S.lst p).toNat∉S.ps.map (·.1)
 f1: ∀p,p<s→0≤S.fst p→I (S.fst p).toNat∧(S.fst p).toNat∉S.ps.map (·.2)
 l2: ∀p q,p<s→q<s→0≤S.lst p→S.lst p=S.lst q→p=q
 f2: ∀p q,p<s→q<s→0≤S.fst p→S.fst p=S.fst q→p=q
 ao: ∀h,O h→h∈S.ps.map (·.1)∨∃p,p<s∧S.lst p=(h:Int)
 ai: ∀h,I h→h∈S.ps.map (·.2)∨∃p,p<s∧S.fst p=(h:Int)
theorem qep (f:Nat→Int) (p:Nat) (v:Int):upd f p v p=v:=if_pos rfl
theorem upd_ne (f:Nat→Int) {p q:Nat} (v:Int) (h:q≠p):upd f p v q=f q:=if_neg h
theorem Cl.Ok.pass {S:Cl} {s:Nat} {O I:Nat→Prop} (h:S.Ok s O I) {p i o:Nat} (hp:p<s) (ho: ¬O o) (hi: ¬I i):(S.pass p i o).Ok s (fun x=>O x∨x=o) (fun x=>I x∨x=i):=by
 obtain ⟨a1,a2,a3⟩:=h.lo p hp
 unfold Cl.pass
 by_cases hl:S.lst p<0
 ·
  rw [if_pos hl]
  have hf:=a3.1 hl
  refine ⟨h.n1,h.n2,fun a ha=>.inl (h.o1 a ha),fun a ha=>.inl (h.i1 a ha),fun q hq=>?_,fun q hq hq0=>?_,fun q hq hq0=>?_,fun q r hq hr h0 e=>?_,fun q r hq hr h0 e=>?_,fun x hx=>?_,fun x hx=>?_⟩
  ·
   dsimp only
   by_cases e:q=p
   · rw [e,qep,qep]; omega
   · rw [upd_ne _ _ e,upd_ne _ _ e]; exact h.lo q hq
  ·
   dsimp only at hq0⊢
   by_cases e:q=p
   · rw [e,qep,Int.toNat_natCast]; exact ⟨.inr rfl,fun m=>ho (h.o1 _ m)⟩
   ·
    rw [upd_ne _ _ e] at hq0⊢
    exact ⟨.inl (h.l1 q hq hq0).1,(h.l1 q hq hq0).2⟩
  ·
   dsimp only at hq0⊢
   by_cases e:q=p
   · rw [e,qep,Int.toNat_natCast]; exact ⟨.inr rfl,fun m=>hi (h.i1 _ m)⟩
   ·
    rw [upd_ne _ _ e] at hq0⊢
    exact ⟨.inl (h.f1 q hq hq0).1,(h.f1 q hq hq0).2⟩
  ·
   dsimp only at h0 e
   by_cases e1:q=p<;>by_cases e2:r=p
   · rw [e1,e2]
   ·
    exfalso
    rw [e1,qep,upd_ne _ _ e2] at e
    have:=(h.l1 r hr (by omega)).1
    rw [←e,Int.toNat_natCast] at this
    exact ho this
   ·
    exfalso
    rw [e2,qep,upd_ne _ _ e1] at e
    rw [upd_ne _ _ e1] at h0
    have:=(h.l1 q hq h0).1
    rw [e,Int.toNat_natCast] at this
    exact ho this
   ·
    rw [upd_ne _ _ e1] at h0
    rw [upd_ne _ _ e1,upd_ne _ _ e2] at e
    exact h.l2 q r hq hr h0 e
  ·
   dsimp only at h0 e
   by_cases e1:q=p<;>by_cases e2:r=p
   · rw [e1,e2]
   ·
    exfalso
    rw [e1,qep,upd_ne _ _ e2] at e
    have:=(h.f1 r hr (by omega)).1
    rw [←e,Int.toNat_natCast] at this
    exact hi this
   ·
    exfalso
    rw [e2,qep,upd_ne _ _ e1] at e
    rw [upd_ne _ _ e1] at h0
    have:=(h.f1 q hq h0).1
    rw [e,Int.toNat_natCast] at this
    exact hi this
   ·
    rw [upd_ne _ _ e1] at h0
    rw [upd_ne _ _ e1,upd_ne _ _ e2] at e
    exact h.f2 q r hq hr h0 e
  ·
   dsimp only
   rcases hx with hx | hx
   ·
    rcases h.ao x hx with m | ⟨q,hq,e⟩
    · exact .inl m
    ·
     refine .inr ⟨q,hq,?_⟩
     rw [upd_ne _ _ (fun e1=>by rw [e1] at e; omega)]; exact e
   · exact .inr ⟨p,hp,by rw [qep,hx]⟩
  ·
   dsimp only
   rcases hx with hx | hx
   ·
    rcases h.ai x hx with m | ⟨q,hq,e⟩
    · exact .inl m
    ·
     refine .inr ⟨q,hq,?_⟩
     rw [upd_ne _ _ (fun e1=>by rw [e1] at e; omega)]; exact e
   · exact .inr ⟨p,hp,by rw [qep,hx]⟩
 ·
  rw [if_neg hl]
  obtain ⟨b1,b2⟩:=h.l1 p hp (by omega)
  have m1: ∀x,x∈(S.ps++[((S.lst p).toNat,i)]).map (·.1)↔x∈S.ps.map (·.1)∨x=(S.lst p).toNat:=fun x=>by simp only [List.map_append,List.mem_append,List.map_cons,List.map_nil,List.mem_singleton]
  have m2: ∀x,x∈(S.ps++[((S.lst p).toNat,i)]).map (·.2)↔x∈S.ps.map (·.2)∨x=i:=fun x=>by simp only [List.map_append,List.mem_append,List.map_cons,List.map_nil,List.mem_singleton]
  refine ⟨?_,?_,fun a ha=>?_,fun a ha=>?_,fun q hq=>?_,fun q hq hq0=>?_,fun q hq hq0=>?_,fun q r hq hr h0 e=>?_,h.f2,fun x hx=>?_,fun x hx=>?_⟩
  ·
   dsimp only
   rw [List.map_append,List.nodup_append]
   exact ⟨h.n1,by simp,fun a ha b hb e=>by
    simp only [List.map_cons,List.map_nil,List.mem_singleton] at hb
    rw [hb] at e; rw [e] at ha; exact b2 ha⟩
  ·
   dsimp only
   rw [List.map_append,List.nodup_append]
   exact ⟨h.n2,by simp,fun a ha b hb e=>by
    simp only [List.map_cons,List.map_nil,List.mem_singleton] at hb
    rw [hb] at e; rw [e] at ha; exact hi (h.i1 _ ha)⟩
  ·
   rcases (m1 a).1 ha with q | q
   · exact .inl (h.o1 a q)
   · rw [q]; exact .inl b1
  ·
   rcases (m2 a).1 ha with q | q
   · exact .inl (h.i1 a q)
   · exact .inr q
  ·
   dsimp only
   by_cases e:q=p
   · rw [e,qep]; omega
   · rw [upd_ne _ _ e]; exact h.lo q hq
  ·
   dsimp only at hq0⊢
   by_cases e:q=p
   ·
    rw [e,qep,Int.toNat_natCast]
    refine ⟨.inr rfl,fun m=>?_⟩
    rcases (m1 o).1 m with k | k
    · exact ho (h.o1 _ k)
    · rw [←k] at b1; exact ho b1
   ·
    rw [upd_ne _ _ e] at hq0⊢
    obtain ⟨c1,c2⟩:=h.l1 q hq hq0
    refine ⟨.inl c1,fun m=>?_⟩
    rcases (m1 _).1 m with k | k
    · exact c2 k
    · exact e (h.l2 q p hq hp hq0 (by omega))
  ·
   dsimp only at hq0⊢
   obtain ⟨c1,c2⟩:=h.f1 q hq hq0
   refine ⟨.inl c1,fun m=>?_⟩
   rcases (m2 _).1 m with k | k
   · exact c2 k
   · rw [k] at c1; exact hi c1
  ·
   dsimp only at h0 e
   by_cases e1:q=p<;>by_cases e2:r=p
   · rw [e1,e2]
   ·
    exfalso
    rw [e1,qep,upd_ne _ _ e2] at e
    have:=(h.l1 r hr (by omega)).1
    rw [←e,Int.toNat_natCast] at this
    exact ho this
   ·
    exfalso
    rw [e2,qep,upd_ne _ _ e1] at e
    rw [upd_ne _ _ e1] at h0
    have:=(h.l1 q hq h0).1
    rw [e,Int.toNat_natCast] at this
    exact ho this
   ·
    rw [upd_ne _ _ e1] at h0
    rw [upd_ne _ _ e1,upd_ne _ _ e2] at e
    exact h.l2 q r hq hr h0 e
  ·
   rcases hx with hx | hx
   ·
    rcases h.ao x hx with m | ⟨q,hq,e⟩
    · exact .inl ((m1 x).2 (.inl m))
    ·
     by_cases e1:q=p
     · exact .inl ((m1 x).2 (.inr (by rw [e1] at e; omega)))
     · exact .inr ⟨q,hq,by dsimp only; rw [upd_ne _ _ e1]; exact e⟩
   · exact .inr ⟨p,hp,by dsimp only; rw [qep,hx]⟩
  ·
   rcases hx with hx | hx
   ·
    rcases h.ai x hx with m | ⟨q,hq,e⟩
    · exact .inl ((m2 x).2 (.inl m))
    · exact .inr ⟨q,hq,e⟩
   · exact .inl ((m2 x).2 (.inr hx))
theorem Cl.pass_fst (S:Cl) (p i o:Nat) (q:Nat) (h:0≤S.fst q) (hq:S.lst p<0→S.fst p<0):(S.pass p i o).fst q=S.fst q:=by
 unfold Cl.pass
 by_cases hl:S.lst p<0
 ·
  rw [if_pos hl]
  exact upd_ne _ _ fun e=>by rw [e] at h; have:=hq hl; omega
 · rw [if_neg hl]
theorem Cl.pass_ps (S:Cl) (p i o:Nat) (a:Nat×Nat) (h:a∈S.ps):a∈(S.pass p i o).ps:=by
 unfold Cl.pass
 split
 · exact h
 · exact List.mem_append_left _ h
theorem Cl.pass_lst (S:Cl) (p i o:Nat) (q:Nat):(S.pass p i o).lst q=upd S.lst p o q:=by
 unfold Cl.pass
 split<;>rfl
theorem Cl.pass_in (S:Cl) (p i o:Nat) (h1: -1≤S.lst p):(S.lst p<0∧(S.pass p i o).fst p=(i:Int))∨(0≤S.lst p∧((S.lst p).toNat,i)∈(S.pass p i o).ps):=by
 unfold Cl.pass
 by_cases hl:S.lst p<0
 · rw [if_pos hl]; exact .inl ⟨hl,qep _ _ _⟩
 · rw [if_neg hl]; exact .inr ⟨by omega,by simp⟩
open Gar Pg
def inL (v:Int):Nat:=if 0<v then 3 else 0
def inR (v:Int):Nat:=if 0<v then 0 else 1
def ouR (v:Int):Nat:=if 0<v then 1 else 2
def ouL (v:Int):Nat:=if 0<v then 2 else 3
def sgv (v:Int):Int:=if 0<v then 1 else -1
def stp (S:Cl) (k:Nat) (v:Int):Cl:=(S.pass (v.natAbs-1) (4*k+inL v) (4*k+ouL v)).pass v.natAbs (4*k+inR v) (4*k+ouR v)
def stC (w:List Int):Nat→Cl
 | 0=>⟨fun _=>-1,fun _=>-1,[]⟩
 | k+1=>stp (stC w k) k (w.getD k 0)
def OuW (w:List Int) (k h:Nat):Prop:=h<4*k∧(h%4=2∨if 0<w.getD (h/ 4) 0 then h%4=1 else h%4=3)
def InW (w:List Int) (k h:Nat):Prop:=h<4*k∧(h%4=0∨if 0<w.getD (h/ 4) 0 then h%4=3 else h%4=1)
theorem ou_step (w:List Int) (k h:Nat):((OuW w k h∨h=4*k+ouL (w.getD k 0))∨h=4*k+ouR (w.getD k 0))↔OuW w (k+1) h:=by
 unfold OuW ouL ouR
 by_cases q:h/ 4=k
 ·
  rw [q]
  by_cases v:0<w.getD k 0
  · rw [if_pos v,if_pos v,if_pos v]; omega
  · rw [if_neg v,if_neg v,if_neg v]; omega
 ·
  constructor
  ·
   rintro ((⟨h1,h2⟩ | h1) | h1)
   · exact ⟨by omega,h2⟩
   · exfalso; split at h1<;>omega
   · exfalso; split at h1<;>omega
  ·
   rintro ⟨h1,h2⟩
   exact .inl (.inl ⟨by omega,h2⟩)
theorem in_step (w:List Int) (k h:Nat):((InW w k h∨h=4*k+inL (w.getD k 0))∨h=4*k+inR (w.getD k 0))↔InW w (k+1) h:=by
 unfold InW inL inR
 by_cases q:h/ 4=k
 ·
  rw [q]
  by_cases v:0<w.getD k 0
  · rw [if_pos v,if_pos v,if_pos v]; omega
  · rw [if_neg v,if_neg v,if_neg v]; omega
 ·
  constructor
  ·
   rintro ((⟨h1,h2⟩ | h1) | h1)
   · exact ⟨by omega,h2⟩
   · exfalso; split at h1<;>omega
   · exfalso; split at h1<;>omega
  ·
   rintro ⟨h1,h2⟩
   exact .inl (.inl ⟨by omega,h2⟩)
theorem Cl.Ok.congr {S:Cl} {s:Nat} {O I O' I':Nat→Prop} (h:S.Ok s O I) (ho: ∀x,O x↔O' x) (hi: ∀x,I x↔I' x):S.Ok s O' I':=by
 have e1:O=O':=funext fun x=>propext (ho x)
 have e2:I=I':=funext fun x=>propext (hi x)
 rw [←e1,←e2]; exact h
section
variable {s : Nat} {w : List Int} (hw : ∀ x ∈ w, x ≠ 0 ∧ -(s : Int) < x ∧ x < s)
include hw
theorem letter_at {k:Nat} (hk:k<w.length):w.getD k 0≠0∧1≤(w.getD k 0).natAbs∧(w.getD k 0).natAbs<s:=by
 have:=hw _ (List.getElem_mem hk)
 rw [qbl hk]
 omega
theorem stC_ok: ∀k,k≤w.length→(stC w k).Ok s (OuW w k) (InW w k)
 | 0,_=>by
  refine ⟨by simp [stC],by simp [stC],by simp [stC],by simp [stC],fun p _=>?_,fun p _ h=>?_,fun p _ h=>?_,fun p q _ _ h=>?_,fun p q _ _ h=>?_,fun h hh=>?_,fun h hh=>?_⟩
  · unfold stC; dsimp only; omega
  · unfold stC at h; dsimp only at h; omega
  · unfold stC at h; dsimp only at h; omega
  · unfold stC at h; dsimp only at h; omega
  · unfold stC at h; dsimp only at h; omega
  · unfold OuW at hh; omega
  · unfold InW at hh; omega
 | k+1,hk=>by
  have ih:=stC_ok k (by omega)
  obtain ⟨v0,v1,v2⟩:=letter_at hw (show k<w.length by omega)
  have i1:4*k+inL (w.getD k 0)≠4*k+inR (w.getD k 0):=by unfold inL inR; split<;>omega
  have o1:4*k+ouL (w.getD k 0)≠4*k+ouR (w.getD k 0):=by unfold ouL ouR; split<;>omega
  have h1:=ih.pass (p:=(w.getD k 0).natAbs-1) (i:=4*k+inL (w.getD k 0)) (o:=4*k+ouL (w.getD k 0)) (by omega) (fun h=>by have:=h.1; omega) (fun h=>by have:=h.1; omega)
  have h2:=h1.pass (p:=(w.getD k 0).natAbs) (i:=4*k+inR (w.getD k 0)) (o:=4*k+ouR (w.getD k 0)) v2 (fun h=>by
   rcases h with h | h
   · have:=h.1; omega
   · exact o1 h.symm) (fun h=>by
   rcases h with h | h
   · have:=h.1; omega
   · exact i1 h.symm)
  exact h2.congr (ou_step w k) (in_step w k)
end
theorem c2_eq {S:Cl} {s N p i o:Nat} (hp:p<s) (h1:S.lst p<4*N) (hi:i<4*N) {M0:List Int} (hM:M0.length=4*N) (sgs:List Int) (m:Nat):
  F.qer m p i o (iL s S.lst) (iL s S.fst) sgs (S.ps.foldl setP M0) 0=some (iL s (S.pass p i o).lst,iL s (S.pass p i o).fst,(S.pass p i o).ps.foldl setP M0):=by
 have g1:Ev.get (iL s S.lst) (p:Int)=some (S.lst p):=get_at rfl (qdy hp)
 have g2:Ev.get (iL s S.fst) (p:Int)=some (S.fst p):=get_at rfl (qdy hp)
 have hl:(S.ps.foldl setP M0).length=4*N:=by rw [fold_len,hM]
 unfold F.qer Cl.pass
 rw [g1,bB]
 by_cases h:S.lst p<0
 ·
  rw [dT h,kT,if_pos h,g2,bB,bB,Int.toNat_natCast,iL_set,iL_set]
  rfl
 ·
  have e1:Ev.get (S.ps.foldl setP M0) (S.lst p)=some ((S.ps.foldl setP M0)[(S.lst p).toNat]'(by omega)):=get_at (k:=(S.lst p).toNat) (by omega) (gE (by omega))
  have e2:Ev.get ((S.ps.foldl setP M0).set (S.lst p).toNat (i:Int)) (i:Int)=some (((S.ps.foldl setP M0).set (S.lst p).toNat (i:Int))[i]'(by rw [List.length_set]; omega)):=get_at rfl (gE (by rw [List.length_set]; omega))
  unfold F.qet
  rw [dF h,kF,if_neg h,bB,e1,bB,e2,bB,bB,bB,Int.toNat_natCast,Int.toNat_natCast,iL_set,List.foldl_append]
  have e3:S.lst p=((S.lst p).toNat:Int):=by omega
  show some (_,_,((S.ps.foldl setP M0).set (S.lst p).toNat (i:Int)).set i (S.lst p))=some (_,_,setP (S.ps.foldl setP M0) ((S.lst p).toNat,i))
  unfold setP
  dsimp only
  rw [←e3]
  rfl
open Gar Pg
def clz (S:Cl) (k:Nat):List (Nat×Nat):=(List.range k).filterMap fun p=>if S.lst p<0 then none else some ((S.lst p).toNat,(S.fst p).toNat)
def lpz (S:Cl) (k:Nat):List Nat:=(List.range k).filter fun p=>decide (S.lst p<0)
theorem clz_step (S:Cl) (k:Nat):clz S (k+1)=clz S k++(if S.lst k<0 then [] else [((S.lst k).toNat,(S.fst k).toNat)]):=by
 unfold clz
 rw [List.range_succ,List.filterMap_append]
 by_cases h:S.lst k<0
 · simp [h]
 · simp [h]
theorem lpz_step (S:Cl) (k:Nat):lpz S (k+1)=lpz S k++(if S.lst k<0 then [k] else []):=by
 unfold lpz
 rw [List.range_succ,List.filter_append]
 by_cases h:S.lst k<0
 · simp [h]
 · simp [h]
theorem lpz_len (S:Cl) (k:Nat):(lpz S k).length≤k:=by
 have:=List.length_filter_le (fun p=>decide (S.lst p<0)) (List.range k)
 rw [List.length_range] at this
 exact this
theorem fold_snoc (l:List (Nat×Nat)) (x:Nat×Nat) (M:List Int):(l++[x]).foldl setP M=setP (l.foldl setP M) x:=by
 rw [List.foldl_append]; rfl
section
variable {s : Nat} {w : List Int} (hw : ∀ x ∈ w, x ≠ 0 ∧ -(s : Int) < x ∧ x < s) (hs : s ≤ 100) (hl : w.length ≤ 64)
include hs
theorem init_run (m:Nat) (hm:1000<m):loopN m (F.qdt m (List.replicate s (0:Int))) (0,List.replicate s (0:Int),List.replicate s (0:Int))=some ((s:Int),iL s (fun _=>-1),iL s (fun _=>-1)):=by
 have key:=qbp (body:=F.qdt m (List.replicate s (0:Int))) (fun k=>((k:Int),iL s (fun p=>if p<k then (-1:Int) else 0),iL s (fun p=>if p<k then (-1:Int) else 0))) s (r:=((s:Int),iL s (fun _=>-1),iL s (fun _=>-1))) (fun k hk=>by
  unfold F.qdt
  dsimp only
  rw [List.length_replicate,dT (by omega),kT,get_at rfl (qdy hk),bB,bB,qak (by omega) (by omega),bB,Int.toNat_natCast,iL_set]
  have:iL s (fun j=>if j=k then (-1:Int) else if j<k then -1 else 0)=iL s (fun j=>if j<k+1 then (-1:Int) else 0):=qcs fun j _=>by
   by_cases e:j=k
   · rw [if_pos e,if_pos (by omega)]
   ·
    rw [if_neg e]
    by_cases q:j<k
    · rw [if_pos q,if_pos (by omega)]
    · rw [if_neg q,if_neg (by omega)]
  rw [this]
  rfl) (by
  unfold F.qdt
  dsimp only
  rw [List.length_replicate,dF (by omega),kF]
  have:iL s (fun p=>if p<s then (-1:Int) else 0)=iL s (fun _=>-1):=qcs fun j hj=>if_pos hj
  rw [this]) m (by omega)
 have e0:((0:Int),List.replicate s (0:Int),List.replicate s (0:Int))=(((0:Nat):Int),iL s (fun p=>if p<0 then (-1:Int) else 0),iL s (fun p=>if p<0 then (-1:Int) else 0)):=by
  rw [iL_rep]
  have:iL s (fun _=>(0:Int))=iL s (fun p=>if p<0 then (-1:Int) else 0):=qcs fun j _=>(if_neg (by omega)).symm
  rw [this]; rfl
 rw [e0,key]
include hw hl
omit hs hl in
theorem lst_lt {k p:Nat} (hk:k≤w.length) (hp:p<s):(stC w k).lst p<4*w.length:=by
 have h:=stC_ok hw k hk
 by_cases q:0≤(stC w k).lst p
 ·
  have:=(h.l1 p hp q).1.1
  omega
 · omega
theorem letters_run2 {M0:List Int} (hM:M0.length=4*w.length) (m:Nat) (hm:1000<m):
  loopN m (F.qdr m w) (0,M0,[],iL s (fun _=>-1),iL s (fun _=>-1))=some ((w.length:Int),(stC w w.length).ps.foldl setP M0,w.map sgv,iL s (stC w w.length).fst,iL s (stC w w.length).lst):=by
 have key:=qbp (body:=F.qdr m w) (fun k=>((k:Int),(stC w k).ps.foldl setP M0,(w.take k).map sgv,iL s (stC w k).fst,iL s (stC w k).lst)) w.length (r:=((w.length:Int),(stC w w.length).ps.foldl setP M0,w.map sgv,iL s (stC w w.length).fst,iL s (stC w w.length).lst)) (fun k hk=>by
  obtain ⟨v0,v1,v2⟩:=letter_at hw hk
  have hv:Ev.get w (k:Int)=some (w.getD k 0):=get_at rfl (by rw [gE hk,qbl hk])
  have htl:((w.take k).map sgv).length=k:=by rw [List.length_map,List.length_take]; omega
  have htk:(w.take (k+1)).map sgv=(w.take k).map sgv++[sgv (w.getD k 0)]:=by
   rw [List.take_add_one,gE hk,Option.toList_some,List.map_append,qbl hk]; rfl
  have hb1:=lst_lt hw (k:=k) (p:=(w.getD k 0).natAbs-1) (by omega) (by omega)
  have hb2:=lst_lt hw (k:=k) (p:=(w.getD k 0).natAbs) (by omega) v2
  have hi1:inL (w.getD k 0)<4:=by unfold inL; split<;>omega
  have hi2:inR (w.getD k 0)<4:=by unfold inR; split<;>omega
  have ho1:ouL (w.getD k 0)<4:=by unfold ouL; split<;>omega
  have ho2:ouR (w.getD k 0)<4:=by unfold ouR; split<;>omega
  have c1:=c2_eq (S:=stC w k) (s:=s) (N:=w.length) (p:=(w.getD k 0).natAbs-1) (i:=4*k+inL (w.getD k 0)) (o:=4*k+ouL (w.getD k 0)) (by omega) (by omega) (by omega) hM ((w.take k).map sgv++[sgv (w.getD k 0)]) m
  have c2:=c2_eq (S:=(stC w k).pass ((w.getD k 0).natAbs-1) (4*k+inL (w.getD k 0)) (4*k+ouL (w.getD k 0))) (s:=s) (N:=w.length) (p:=(w.getD k 0).natAbs) (i:=4*k+inR (w.getD k 0)) (o:=4*k+ouR (w.getD k 0)) v2 (by rw [Cl.pass_lst,upd_ne _ _ (by omega)]; omega) (by omega) hM ((w.take k).map sgv++[sgv (w.getD k 0)]) m
  have h4:F.qfj m (k:Int) ((stC w k).ps.foldl setP M0) ((w.take k).map sgv) (iL s (stC w k).fst) (iL s (stC w k).lst) (sgv (w.getD k 0)) (((w.getD k 0).natAbs:Nat):Int) (inL (w.getD k 0):Int) (inR (w.getD k 0):Int) (ouR (w.getD k 0):Int) (ouL (w.getD k 0):Int)=
    some (.inl (((k+1:Nat):Int),(stC w (k+1)).ps.foldl setP M0,(w.take (k+1)).map sgv,iL s (stC w (k+1)).fst,iL s (stC w (k+1)).lst)):=by
   unfold F.qfj
   rw [qak (z:=(((w.getD k 0).natAbs:Nat):Int)-1) (by omega) (by omega),bB,qak (z:=4*(k:Int)) (by omega) (by omega),bB,qak (z:=4*(k:Int)+(inL (w.getD k 0):Int)) (by omega) (by omega),bB,bB,qak (z:=4*(k:Int)+(ouL (w.getD k 0):Int)) (by omega) (by omega),bB,
    show (((w.getD k 0).natAbs:Nat):Int)-1=(((w.getD k 0).natAbs-1:Nat):Int) by omega,show 4*(k:Int)+(inL (w.getD k 0):Int)=((4*k+inL (w.getD k 0):Nat):Int) by omega,show 4*(k:Int)+(ouL (w.getD k 0):Int)=((4*k+ouL (w.getD k 0):Nat):Int) by omega,c1,bB,bB,
    qak (z:=4*(k:Int)+(inR (w.getD k 0):Int)) (by omega) (by omega),bB,bB,qak (z:=4*(k:Int)+(ouR (w.getD k 0):Int)) (by omega) (by omega),bB,show 4*(k:Int)+(inR (w.getD k 0):Int)=((4*k+inR (w.getD k 0):Nat):Int) by omega,show 4*(k:Int)+(ouR (w.getD k 0):Int)=((4*k+ouR (w.getD k 0):Nat):Int) by omega]
   dsimp only
   rw [c2,bB,qak (by omega) (by omega),bB,htk]
   rfl
  have hg:F.qfr m (w.getD k 0)=some (((w.getD k 0).natAbs:Nat):Int):=by
   have hsx:=hw _ (List.getElem_mem hk)
   rw [←qbl hk 0] at hsx
   unfold F.qfr
   rw [qak (by omega) (by omega),bB]
   congr 1; omega
  unfold F.qdr
  dsimp only
  rw [dT (show (k:Int)<(w.length:Int) by omega),kT,hv,bB]
  by_cases q:w.getD k 0<0
  ·
   have e1:sgv (w.getD k 0)=-1:=by unfold sgv; rw [if_neg (by omega)]
   have e2:inL (w.getD k 0)=0∧inR (w.getD k 0)=1∧ouR (w.getD k 0)=2∧ouL (w.getD k 0)=3:=by
    unfold inL inR ouR ouL
    rw [if_neg (by omega),if_neg (by omega),if_neg (by omega),if_neg (by omega)]; exact ⟨rfl,rfl,rfl,rfl⟩
   have g0:Ev.get ([(0,(1,(2,3))),(3,(0,(1,2)))]:List (Int×(Int×(Int×Int)))) (0:Int)=some (0,(1,(2,3))):=rfl
   rw [e1,e2.1,e2.2.1,e2.2.2.1,e2.2.2.2] at h4
   rw [dT q,kT]
   unfold F.qes
   rw [qct (by rw [htl]; simp only [List.length_cons,List.length_nil]; omega),bB,qak (by omega) (by omega),bB,nz_ok (by decide),bB,show Int.tdiv (-1+1) 2=0 by decide,qak (by omega) (by omega),bB,g0,bB,hg,bB]
   exact h4
  ·
   have e1:sgv (w.getD k 0)=1:=by unfold sgv; rw [if_pos (by omega)]
   have e2:inL (w.getD k 0)=3∧inR (w.getD k 0)=0∧ouR (w.getD k 0)=1∧ouL (w.getD k 0)=2:=by
    unfold inL inR ouR ouL
    rw [if_pos (by omega),if_pos (by omega),if_pos (by omega),if_pos (by omega)]; exact ⟨rfl,rfl,rfl,rfl⟩
   have g1:Ev.get ([(0,(1,(2,3))),(3,(0,(1,2)))]:List (Int×(Int×(Int×Int)))) (1:Int)=some (3,(0,(1,2))):=rfl
   rw [e1,e2.1,e2.2.1,e2.2.2.1,e2.2.2.2] at h4
   rw [dF q,kF]
   unfold F.qes
   rw [qct (by rw [htl]; simp only [List.length_cons,List.length_nil]; omega),bB,qak (by omega) (by omega),bB,nz_ok (by decide),bB,show Int.tdiv (1+1) 2=1 by decide,qak (by omega) (by omega),bB,g1,bB,hg,bB]
   exact h4) (by
  unfold F.qdr
  dsimp only
  rw [dF (by omega),kF,List.take_length]) m (by omega)
 exact key
omit hl in
theorem close_run {M0:List Int} (hM:M0.length=4*w.length) (m:Nat) (hm:1000<m) (sgs:List Int):
  loopN m (F.qdu m (List.replicate s (0:Int)) sgs (iL s (stC w w.length).fst) (iL s (stC w w.length).lst)) (0,(stC w w.length).ps.foldl setP M0,0)=some ((s:Int),((stC w w.length).ps++clz (stC w w.length) s).foldl setP M0,((lpz (stC w w.length) s).length:Int)):=by
 have ok:=stC_ok hw w.length (Nat.le_refl _)
 have key:=qbp (body:=F.qdu m (List.replicate s (0:Int)) sgs (iL s (stC w w.length).fst) (iL s (stC w w.length).lst)) (fun p=>((p:Int),((stC w w.length).ps++clz (stC w w.length) p).foldl setP M0,((lpz (stC w w.length) p).length:Int))) s (r:=((s:Int),((stC w w.length).ps++clz (stC w w.length) s).foldl setP M0,((lpz (stC w w.length) s).length:Int))) (fun p hp=>by
  have hln:=lpz_len (stC w w.length) p
  have g1:Ev.get (iL s (stC w w.length).lst) (p:Int)=some ((stC w w.length).lst p):=get_at rfl (qdy hp)
  have g2:Ev.get (iL s (stC w w.length).fst) (p:Int)=some ((stC w w.length).fst p):=get_at rfl (qdy hp)
  unfold F.qdu
  dsimp only
  rw [List.length_replicate,dT (show (p:Int)<(s:Int) by omega),kT,g1,bB,clz_step,lpz_step]
  by_cases q:(stC w w.length).lst p<0
  ·
   rw [dT q,kT,if_pos q,if_pos q,qak (by omega) (by omega),bB,qak (by omega) (by omega),bB,List.append_nil,List.length_append]
   rfl
  ·
   obtain ⟨a1,a2,a3⟩:=ok.lo p hp
   have f0:0≤(stC w w.length).fst p:=by omega
   have b1:=(ok.l1 p hp (by omega)).1.1
   have b2:=(ok.f1 p hp f0).1.1
   have hl2:(((stC w w.length).ps++clz (stC w w.length) p).foldl setP M0).length=4*w.length:=by rw [fold_len,hM]
   rw [dF q,kF,if_neg q,if_neg q,bB,g2,bB,←List.append_assoc,fold_snoc,List.append_nil]
   generalize ((stC w w.length).ps++clz (stC w w.length) p).foldl setP M0=M at*
   have e1:Ev.get M ((stC w w.length).lst p)=some (M[((stC w w.length).lst p).toNat]'(by omega)):=get_at (k:=((stC w w.length).lst p).toNat) (by omega) (gE (by omega))
   have e2:Ev.get (M.set ((stC w w.length).lst p).toNat ((stC w w.length).fst p)) ((stC w w.length).fst p)=some ((M.set ((stC w w.length).lst p).toNat ((stC w w.length).fst p))[((stC w w.length).fst p).toNat]'(by rw [List.length_set]; omega)):=get_at (k:=((stC w w.length).fst p).toNat) (by omega) (gE (by rw [List.length_set]; omega))
   unfold F.qet
   rw [e1,bB,e2,bB,bB,qak (by omega) (by omega),bB]
   have t1:(((stC w w.length).lst p).toNat:Int)=(stC w w.length).lst p:=by omega
   have t2:(((stC w w.length).fst p).toNat:Int)=(stC w w.length).fst p:=by omega
   unfold setP
   dsimp only
   rw [t1,t2]
   rfl) (by
  unfold F.qdu
  dsimp only
  rw [List.length_replicate,dF (by omega),kF]) m (by omega)
 have e0:clz (stC w w.length) 0=[]:=rfl
 have e1:lpz (stC w w.length) 0=[]:=rfl
 rw [e0,e1,List.append_nil] at key
 exact key
end
theorem closure_run {s:Nat} {w:List Int} (hok:okB (s:Int) w=true) (hs:s≤100) (hl:w.length≤64) (m:Nat) (hm:1000<m):
  F.qgg m s w=some (w.map sgv,((stC w w.length).ps++clz (stC w w.length) s).foldl setP (List.replicate (4*w.length) 0),((lpz (stC w w.length) s).length:Int),0):=by
 obtain ⟨_,_,_,hw⟩:=okB_iff.1 hok
 unfold F.qgg
 rw [braidValid m (by omega),bB,hok,Bool.not_true,kF,dF (by omega),kF,qak (by omega) (by omega),bB,pos_ok (by omega) (by omega),bB,pos_ok (by omega) (by omega),bB,bB,Int.toNat_natCast]
 unfold F.qgc
 rw [init_run hs m hm,bB]
 dsimp only
 rw [show (4*(w.length:Int)).toNat=4*w.length by omega,letters_run2 hw hs hl (List.length_replicate ..) m hm,bB]
 dsimp only
 rw [close_run hw hs (List.length_replicate ..) m hm,bB]
open Gar Pg
def clP (s:Nat) (w:List Int):List (Nat×Nat):=(stC w w.length).ps++clz (stC w w.length) s
def clM (s:Nat) (w:List Int):List Int:=(clP s w).foldl setP (List.replicate (4*w.length) 0)
def clm (s:Nat) (w:List Int) (h:Nat):Nat:=((clM s w).getD h 0).toNat
def Vv (s:Nat) (w:List Int) (k p:Nat):Nat:=if (stC w k).lst p<0 then ((stC w w.length).fst p).toNat else clm s w ((stC w k).lst p).toNat
theorem mem_clz {S:Cl} {k:Nat} {x:Nat×Nat}:x∈clz S k↔∃p,p<k∧0≤S.lst p∧x=((S.lst p).toNat,(S.fst p).toNat):=by
 unfold clz
 rw [List.mem_filterMap]
 constructor
 ·
  rintro ⟨p,hp,h⟩
  by_cases q:S.lst p<0
  · rw [if_pos q] at h; cases h
  ·
   rw [if_neg q] at h
   exact ⟨p,List.mem_range.1 hp,by omega,(Option.some.inj h).symm⟩
 ·
  rintro ⟨p,hp,h,e⟩
  exact ⟨p,List.mem_range.2 hp,by rw [if_neg (by omega),e]⟩
theorem ou_in {w:List Int} {k h:Nat} (h1:OuW w k h) (h2:InW w k h):False:=by
 obtain ⟨_,a⟩:=h1
 obtain ⟨_,b⟩:=h2
 by_cases q:0<w.getD (h/ 4) 0
 · rw [if_pos q] at a b; omega
 · rw [if_neg q] at a b; omega
theorem ou_or_in {w:List Int} {k h:Nat} (hh:h<4*k):OuW w k h∨InW w k h:=by
 unfold OuW InW
 by_cases q:0<w.getD (h/ 4) 0
 · rw [if_pos q,if_pos q]; omega
 · rw [if_neg q,if_neg q]; omega
section
variable {s : Nat} {w : List Int} (hw : ∀ x ∈ w, x ≠ 0 ∧ -(s : Int) < x ∧ x < s)
include hw
theorem clz_nodup1: ∀k,k≤s→((clz (stC w w.length) k).map (·.1)).Nodup∧((clz (stC w w.length) k).map (·.2)).Nodup
 | 0,_=>by simp [clz]
 | k+1,hk=>by
  have ok:=stC_ok hw w.length (Nat.le_refl _)
  obtain ⟨i1,i2⟩:=clz_nodup1 k (by omega)
  rw [clz_step]
  by_cases q:(stC w w.length).lst k<0
  · rw [if_pos q,List.append_nil]; exact ⟨i1,i2⟩
  ·
   rw [if_neg q,List.map_append,List.map_append,List.nodup_append,List.nodup_append]
   obtain ⟨a1,a2,a3⟩:=ok.lo k (by omega)
   refine ⟨⟨i1,by simp,fun a ha b hb e=>?_⟩,⟨i2,by simp,fun a ha b hb e=>?_⟩⟩
   ·
    obtain ⟨x,hx,rfl⟩:=List.mem_map.1 ha
    obtain ⟨p,hp,h0,rfl⟩:=mem_clz.1 hx
    simp only [List.map_cons,List.map_nil,List.mem_singleton] at hb
    have:=ok.l2 p k (by omega) (by omega) h0 (by dsimp only at e; omega)
    omega
   ·
    obtain ⟨x,hx,rfl⟩:=List.mem_map.1 ha
    obtain ⟨p,hp,h0,rfl⟩:=mem_clz.1 hx
    obtain ⟨b1,b2,b3⟩:=ok.lo p (by omega)
    simp only [List.map_cons,List.map_nil,List.mem_singleton] at hb
    have:=ok.f2 p k (by omega) (by omega) (by omega) (by dsimp only at e; omega)
    omega
theorem clP_ok:((clP s w).map (·.1)).Nodup∧((clP s w).map (·.2)).Nodup∧(∀a∈(clP s w).map (·.1),OuW w w.length a)∧(∀a∈(clP s w).map (·.2),InW w w.length a)∧
  (∀h,OuW w w.length h→h∈(clP s w).map (·.1))∧(∀h,InW w w.length h→h∈(clP s w).map (·.2)):=by
 have ok:=stC_ok hw w.length (Nat.le_refl _)
 obtain ⟨c1,c2⟩:=clz_nodup1 hw s (Nat.le_refl _)
 unfold clP
 rw [List.map_append,List.map_append]
 refine ⟨?_,?_,fun a ha=>?_,fun a ha=>?_,fun h hh=>?_,fun h hh=>?_⟩
 ·
  rw [List.nodup_append]
  refine ⟨ok.n1,c1,fun a ha b hb e=>?_⟩
  obtain ⟨x,hx,rfl⟩:=List.mem_map.1 hb
  obtain ⟨p,hp,h0,rfl⟩:=mem_clz.1 hx
  rw [e] at ha
  exact (ok.l1 p hp h0).2 ha
 ·
  rw [List.nodup_append]
  refine ⟨ok.n2,c2,fun a ha b hb e=>?_⟩
  obtain ⟨x,hx,rfl⟩:=List.mem_map.1 hb
  obtain ⟨p,hp,h0,rfl⟩:=mem_clz.1 hx
  obtain ⟨b1,b2,b3⟩:=ok.lo p hp
  rw [e] at ha
  exact (ok.f1 p hp (by omega)).2 ha
 ·
  rcases List.mem_append.1 ha with ha | ha
  · exact ok.o1 a ha
  ·
   obtain ⟨x,hx,rfl⟩:=List.mem_map.1 ha
   obtain ⟨p,hp,h0,rfl⟩:=mem_clz.1 hx
   exact (ok.l1 p hp h0).1
 ·
  rcases List.mem_append.1 ha with ha | ha
  · exact ok.i1 a ha
  ·
   obtain ⟨x,hx,rfl⟩:=List.mem_map.1 ha
   obtain ⟨p,hp,h0,rfl⟩:=mem_clz.1 hx
   obtain ⟨b1,b2,b3⟩:=ok.lo p hp
   exact (ok.f1 p hp (by omega)).1
 ·
  rw [List.mem_append]
  rcases ok.ao h hh with m | ⟨p,hp,e⟩
  · exact .inl m
  · exact .inr (List.mem_map.2 ⟨_,mem_clz.2 ⟨p,hp,by omega,rfl⟩,by dsimp only; omega⟩)
 ·
  rw [List.mem_append]
  rcases ok.ai h hh with m | ⟨p,hp,e⟩
  · exact .inl m
  ·
   obtain ⟨b1,b2,b3⟩:=ok.lo p hp
   exact .inr (List.mem_map.2 ⟨_,mem_clz.2 ⟨p,hp,by omega,rfl⟩,by dsimp only; omega⟩)
omit hw in
theorem clM_len:(clM s w).length=4*w.length:=by
 unfold clM
 rw [fold_len]; exact List.length_replicate ..
theorem clm_pair {a b:Nat} (h:(a,b)∈clP s w):(clM s w)[a]? =some (b:Int)∧(clM s w)[b]? =some (a:Int)∧clm s w a=b∧clm s w b=a∧a<4*w.length∧b<4*w.length∧a≠b:=by
 obtain ⟨p1,p2,p3,p4,_,_⟩:=clP_ok hw
 have ha:=p3 a (List.mem_map.2 ⟨_,h,rfl⟩)
 have hb:=p4 b (List.mem_map.2 ⟨_,h,rfl⟩)
 have hp:=fold_pair (M:=List.replicate (4*w.length) 0) p1 p2 (fun x hx hx'=>ou_in (p3 x hx) (p4 x hx')) h (by rw [List.length_replicate]; exact ha.1) (by rw [List.length_replicate]; exact hb.1)
 have e1:(clM s w)[a]? =some (b:Int):=hp.1
 have e2:(clM s w)[b]? =some (a:Int):=hp.2
 refine ⟨e1,e2,?_,?_,ha.1,hb.1,fun e=>by rw [e] at ha; exact ou_in ha hb⟩
 · unfold clm; rw [List.getD_eq_getElem?_getD,e1]; rfl
 · unfold clm; rw [List.getD_eq_getElem?_getD,e2]; rfl
theorem clm_mt:MT (4*w.length) (clM s w) (clm s w):=by
 obtain ⟨_,_,_,_,p5,p6⟩:=clP_ok hw
 refine ⟨clM_len,fun h hh=>?_⟩
 rcases ou_or_in (w:=w) hh with q | q
 ·
  obtain ⟨⟨a,b⟩,hm,rfl⟩:=List.mem_map.1 (p5 h q)
  obtain ⟨e1,e2,e3,e4,e5,e6,e7⟩:=clm_pair hw hm
  dsimp only
  rw [e3]
  exact ⟨e1,e6,e4,e7.symm⟩
 ·
  obtain ⟨⟨a,b⟩,hm,rfl⟩:=List.mem_map.1 (p6 h q)
  obtain ⟨e1,e2,e3,e4,e5,e6,e7⟩:=clm_pair hw hm
  dsimp only
  rw [e4]
  exact ⟨e2,e5,e3,e7⟩
omit hw in
theorem ps_mono {j:Nat}: ∀{k:Nat},j≤k→∀a∈(stC w j).ps,a∈(stC w k).ps
 | 0,h,a,ha=>by
  have:j=0:=by omega
  rw [this] at ha; exact ha
 | k+1,h,a,ha=>by
  rcases Nat.lt_or_ge j (k+1) with q | q
  · exact Cl.pass_ps _ _ _ _ _ (Cl.pass_ps _ _ _ _ _ (ps_mono (by omega) a ha))
  ·
   have:j=k+1:=by omega
   rw [this] at ha; exact ha
theorem fst_mono {j q:Nat} (hq:q<s) (h0:0≤(stC w j).fst q): ∀{k:Nat},j≤k→k≤w.length→(stC w k).fst q=(stC w j).fst q
 | 0,h,_=>by
  have:j=0:=by omega
  rw [this]
 | k+1,h,hk=>by
  rcases Nat.lt_or_ge j (k+1) with r | r
  ·
   have ih:=fst_mono hq h0 (k:=k) (by omega) (by omega)
   have ok:=stC_ok hw k (by omega)
   obtain ⟨v0,v1,v2⟩:=letter_at hw (show k<w.length by omega)
   have hf:0≤(stC w k).fst q:=by rw [ih]; exact h0
   have a1:=Cl.pass_fst (stC w k) ((w.getD k 0).natAbs-1) (4*k+inL (w.getD k 0)) (4*k+ouL (w.getD k 0)) q hf (fun h=>(ok.lo _ (by omega)).2.2.1 h)
   have a2:=Cl.pass_fst ((stC w k).pass ((w.getD k 0).natAbs-1) (4*k+inL (w.getD k 0)) (4*k+ouL (w.getD k 0))) (w.getD k 0).natAbs (4*k+inR (w.getD k 0)) (4*k+ouR (w.getD k 0)) q (by rw [a1]; exact hf) (fun h=>by
    rw [Cl.pass_lst,upd_ne _ _ (by omega)] at h
    have h2:=(ok.lo _ v2).2.2.1 h
    unfold Cl.pass
    by_cases hl:(stC w k).lst ((w.getD k 0).natAbs-1)<0
    ·
     rw [if_pos hl]
     dsimp only
     rw [upd_ne _ _ (by omega)]; exact h2
    · rw [if_neg hl]; exact h2)
   show (stp (stC w k) k (w.getD k 0)).fst q=_
   unfold stp
   rw [a2,a1,ih]
  ·
   have:j=k+1:=by omega
   rw [this]
theorem Vv_in {k:Nat} (hk:k<w.length):Vv s w k ((w.getD k 0).natAbs-1)=4*k+inL (w.getD k 0)∧Vv s w k (w.getD k 0).natAbs=4*k+inR (w.getD k 0):=by
 obtain ⟨v0,v1,v2⟩:=letter_at hw hk
 have ok:=stC_ok hw k (by omega)
 have fin: ∀(p i:Nat),p<s→((stC w k).lst p<0∧(stC w (k+1)).fst p=(i:Int))∨(0≤(stC w k).lst p∧(((stC w k).lst p).toNat,i)∈(stC w (k+1)).ps)→Vv s w k p=i:=by
  intro p i hp h
  unfold Vv
  rcases h with ⟨h1,h2⟩ | ⟨h1,h2⟩
  · rw [if_pos h1,fst_mono hw hp (by rw [h2]; omega) (show k+1≤w.length by omega) (Nat.le_refl _),h2,Int.toNat_natCast]
  ·
   rw [if_neg (by omega)]
   exact (clm_pair hw (List.mem_append_left _ (ps_mono (by omega) _ h2))).2.2.1
 constructor
 ·
  refine fin _ _ (by omega) ?_
  rcases Cl.pass_in (stC w k) ((w.getD k 0).natAbs-1) (4*k+inL (w.getD k 0)) (4*k+ouL (w.getD k 0)) (ok.lo _ (by omega)).1 with ⟨h1,h2⟩ | ⟨h1,h2⟩
  ·
   refine .inl ⟨h1,?_⟩
   show (stp (stC w k) k (w.getD k 0)).fst _=_
   unfold stp
   unfold Cl.pass at h2⊢
   rw [if_pos h1] at h2⊢
   dsimp only at h2⊢
   by_cases hl:upd (stC w k).lst ((w.getD k 0).natAbs-1) ((4*k+ouL (w.getD k 0):Nat):Int) (w.getD k 0).natAbs<0
   ·
    rw [if_pos hl]
    dsimp only
    rw [upd_ne _ _ (by omega)]; exact h2
   · rw [if_neg hl]; exact h2
  · exact .inr ⟨h1,Cl.pass_ps _ _ _ _ _ h2⟩
 ·
  refine fin _ _ v2 ?_
  have hl:((stC w k).pass ((w.getD k 0).natAbs-1) (4*k+inL (w.getD k 0)) (4*k+ouL (w.getD k 0))).lst (w.getD k 0).natAbs=(stC w k).lst (w.getD k 0).natAbs:=by
   rw [Cl.pass_lst,upd_ne _ _ (by omega)]
  have:=Cl.pass_in ((stC w k).pass ((w.getD k 0).natAbs-1) (4*k+inL (w.getD k 0)) (4*k+ouL (w.getD k 0))) (w.getD k 0).natAbs (4*k+inR (w.getD k 0)) (4*k+ouR (w.getD k 0)) (by rw [hl]; exact (ok.lo _ v2).1)
  rw [hl] at this
  exact this
omit hw in
theorem lst_step {k:Nat} (q:Nat):(stC w (k+1)).lst q=upd (upd (stC w k).lst ((w.getD k 0).natAbs-1) ((4*k+ouL (w.getD k 0):Nat):Int)) (w.getD k 0).natAbs ((4*k+ouR (w.getD k 0):Nat):Int) q:=by
 show (stp (stC w k) k (w.getD k 0)).lst q=_
 unfold stp
 rw [Cl.pass_lst]
 unfold upd
 by_cases e:q=(w.getD k 0).natAbs
 · rw [if_pos e,if_pos e]
 · rw [if_neg e,if_neg e,Cl.pass_lst]; rfl
theorem Vv_out {k:Nat} (hk:k<w.length):Vv s w (k+1) ((w.getD k 0).natAbs-1)=clm s w (4*k+ouL (w.getD k 0))∧Vv s w (k+1) (w.getD k 0).natAbs=clm s w (4*k+ouR (w.getD k 0)):=by
 obtain ⟨v0,v1,v2⟩:=letter_at hw hk
 constructor
 ·
  unfold Vv
  rw [lst_step,upd_ne _ _ (by omega),qep,if_neg (by omega),Int.toNat_natCast]
 ·
  unfold Vv
  rw [lst_step,qep,if_neg (by omega),Int.toNat_natCast]
omit hw in
theorem Vv_keep {k p:Nat} (h1:p≠(w.getD k 0).natAbs-1) (h2:p≠(w.getD k 0).natAbs):Vv s w (k+1) p=Vv s w k p:=by
 unfold Vv
 rw [lst_step,upd_ne _ _ h2,upd_ne _ _ h1]
theorem Vv_end {p:Nat} (hp:p<s):Vv s w w.length p=Vv s w 0 p:=by
 have e0:Vv s w 0 p=((stC w w.length).fst p).toNat:=if_pos (by unfold stC; show (-1:Int)<0; decide)
 rw [e0]
 unfold Vv
 by_cases q:(stC w w.length).lst p<0
 · rw [if_pos q]
 ·
  rw [if_neg q]
  exact (clm_pair hw (List.mem_append_right _ (mem_clz.2 ⟨p,hp,by omega,rfl⟩))).2.2.1
end
open Gar
def enP (v:Int):Nat:=if 0<v then v.natAbs else v.natAbs-1
def beP (v:Int):Nat:=if 0<v then v.natAbs-1 else v.natAbs
def prS (s:Nat) (w:List Int):Nat→List Nat
 | 0=>List.range s
 | k+1=>((prS s w k).set (enP (w.getD k 0)) ((prS s w k).getD (beP (w.getD k 0)) 0)).set (beP (w.getD k 0)) (s+k)
def Hs (s:Nat) (w:List Int) (k:Nat) (pr:List Nat) (E B:Nat→Nat):Prop:=pr=prS s w k∧∀j,j<k→(prS s w j)[enP (w.getD j 0)]? =some (E j)∧(prS s w j)[beP (w.getD j 0)]? =some (B j)
theorem Hs.step {s:Nat} {w:List Int} {k:Nat} {pr:List Nat} {E B:Nat→Nat} (h:Hs s w k pr E B) {e b pe pb:Nat} (he:pr[enP (w.getD k 0)]? =some pe) (hb:pr[beP (w.getD k 0)]? =some pb) (e1:e=enP (w.getD k 0)) (e2:b=beP (w.getD k 0)):
  Hs s w (k+1) ((pr.set e pb).set b (s+k)) (fun j=>if j=k then pe else E j) (fun j=>if j=k then pb else B j):=by
 obtain ⟨h1,h2⟩:=h
 subst e1 e2 h1
 refine ⟨?_,fun j hj=>?_⟩
 ·
  have e:(prS s w k).getD (beP (w.getD k 0)) 0=pb:=by rw [List.getD_eq_getElem?_getD,hb]; rfl
  show _=((prS s w k).set (enP (w.getD k 0)) ((prS s w k).getD (beP (w.getD k 0)) 0)).set (beP (w.getD k 0)) (s+k)
  rw [e]
 ·
  by_cases q:j=k
  ·
   subst q
   dsimp only
   rw [if_pos rfl,if_pos rfl]; exact ⟨he,hb⟩
  ·
   dsimp only
   rw [if_neg q,if_neg q]; exact h2 j (by omega)
theorem run_letH (s:Nat) {w:List Int} (hw: ∀x∈w,x≠0∧-(s:Int)<x∧x<s) (hs:s+w.length<500) (n:Nat) (hn:2000<n):
  ∃tp od pr E B,(Bi s w w.length tp od pr E B∧Hs s w w.length pr E B)∧loopN n (F.qcd n s w) (mk0 s,rg s,0,rg s)=some (mkt (s+w.length) tp,cst od,(w.length:Int),cst pr):=by
 obtain ⟨r,h1,tp,od,pr,E,B,h2,h3,h4⟩:=qdz (body:=F.qcd n s w)
  (fun a=> ∃k tp od pr E B,k≤w.length∧a=(mkt (s+k) tp,cst od,(k:Int),cst pr)∧Bi s w k tp od pr E B∧Hs s w k pr E B) (fun a=>w.length-a.2.2.1.toNat)
  (fun r=> ∃tp od pr E B,r=(mkt (s+w.length) tp,cst od,(w.length:Int),cst pr)∧Bi s w w.length tp od pr E B∧Hs s w w.length pr E B)
  (fun a ⟨k,tp,od,pr,E,B,hk,ha,hB,hH⟩=>by
   subst ha
   by_cases hlt:k<w.length
   ·
    left
    have hx:=hw w[k] (List.getElem_mem hlt)
    have g:Ev.get w (k:Int)=some w[k]:=get_at rfl (gE hlt)
    have hgd:w.getD k 0=w[k]:=by rw [List.getD_eq_getElem?_getD,gE hlt]; rfl
    have hol:od.length<1000:=by
     have h1:od.length≤s+k:=by
      have:=run_letters.sub_len2 hB.nd fun c hc=>(hB.mo c).1 hc
      exact this
     omega
    have hpl:=hB.pl
    have main: ∀(e b:Nat) (v:Int) (f:Bool),e<s→b<s→(if 0<w.getD k 0 then e=b+1 else b=e+1)→e=enP (w.getD k 0)→b=beP (w.getD k 0)→(v=if 0<w.getD k 0 then 0 else 1)→
      ∃s',F.qcw n s (mkt (s+k) tp) (cst od) k (cst pr) e b v f=some (.inl s')∧(∃k tp od pr E B,k≤w.length∧s'=(mkt (s+k) tp,cst od,(k:Int),cst pr)∧Bi s w k tp od pr E B∧Hs s w k pr E B)∧w.length-s'.2.2.1.toNat<w.length-k:=by
     intro e b v f he hb hw1 heP hbP hv
     obtain ⟨pe,hpe⟩: ∃pe,pr[e]? =some pe:=⟨_,gE (by omega)⟩
     obtain ⟨pb,hpb⟩: ∃pb,pr[b]? =some pb:=⟨_,gE (by omega)⟩
     obtain ⟨L,R,hod⟩:=List.append_of_mem ((hB.mo pb).2 (hB.pm pb (List.mem_of_getElem? hpb)))
     have hne:e≠b:=by split at hw1<;>omega
     have hv2:v=0∨v=1:=by split at hv<;>omega
     have hst:=step_val (tp:=tp) (L:=L) (R:=R) hpe hpb hod hB.nd (hB.pm pe (List.mem_of_getElem? hpe)) hne hv2 hol (by omega) n hn f
     have hnx:=hB.step hpe hpb hod hw1
     have hif:(if v=0 then L++(s+k)::pb::R else L++pb::(s+k)::R)=(if 0<w.getD k 0 then L++(s+k)::pb::R else L++pb::(s+k)::R):=by
      by_cases q:0<w.getD k 0
      · rw [if_pos q] at hv⊢; rw [if_pos hv]
      · rw [if_neg q] at hv⊢; rw [if_neg (by omega)]
     rw [hif] at hst
     exact ⟨_,hst,⟨k+1,_,_,_,_,_,by omega,rfl,hnx,hH.step (heP▸hpe) (hbP▸hpb) heP hbP⟩,by dsimp only; omega⟩
    unfold F.qcd
    dsimp only
    rw [dT (show (k:Int)<(w.length:Int) by omega),kT,g,bB,qak (z:=-w[k]) (by omega) (by omega),bB,qak (z:=max w[k] (-w[k])-1) (by omega) (by omega),bB]
    by_cases hlt0:w[k]<0
    ·
     rw [dT hlt0,kT,bB]
     have m1:max w[k] (-w[k])-1=((w[k].natAbs-1:Nat):Int):=by omega
     have m2:max w[k] (-w[k])=((w[k].natAbs:Nat):Int):=by omega
     have hn0: ¬0<w.getD k 0:=by rw [hgd]; omega
     rw [m1,m2,Int.toNat_natCast]
     exact main (w[k].natAbs-1) w[k].natAbs 1 true (by omega) (by omega) (by rw [if_neg hn0]; omega) (by unfold enP; rw [if_neg hn0,hgd]) (by unfold beP; rw [if_neg hn0,hgd]) (by rw [if_neg hn0])
    ·
     rw [dF hlt0,kF]
     have m1:max w[k] (-w[k])-1=((w[k].natAbs-1:Nat):Int):=by omega
     have m2:max w[k] (-w[k])=((w[k].natAbs:Nat):Int):=by omega
     have hn0:0<w.getD k 0:=by rw [hgd]; omega
     rw [m1,m2,Int.toNat_natCast]
     exact main w[k].natAbs (w[k].natAbs-1) 0 false (by omega) (by omega) (by rw [if_pos hn0]; omega) (by unfold enP; rw [if_pos hn0,hgd]) (by unfold beP; rw [if_pos hn0,hgd]) (by rw [if_pos hn0])
   ·
    right
    have:k=w.length:=by omega
    subst this
    refine ⟨_,?_,tp,od,pr,E,B,rfl,hB,hH⟩
    unfold F.qcd
    dsimp only
    rw [dF (by omega),kF])
  n (mk0 s,rg s,0,rg s) ⟨0,fun _=>0,List.range s,List.range s,fun _=>0,fun _=>0,Nat.zero_le _,rfl,Bi.start s w,rfl,fun j hj=>by omega⟩ (by dsimp only; omega)
 subst h2
 exact ⟨tp,od,pr,E,B,⟨h3,h4⟩,h1⟩
theorem braid_valH {s:Nat} {w:List Int} (hok:okB (s:Int) w=true) (hs:2*s+w.length≤40) (n:Nat) (hn:2000<n):
  ∃tp od pr E B,(Bi s w w.length tp od pr E B∧Hs s w w.length pr E B)∧F.qec n s w=some (cst (xlst s w.length od),cst (olst s w.length tp od pr),0):=by
 obtain ⟨_,_,_,hw⟩:=okB_iff.1 hok
 obtain ⟨tp,od,pr,E,B,⟨hB,hH⟩,e1⟩:=run_letH s hw (by omega) n hn
 refine ⟨tp,od,pr,E,B,⟨hB,hH⟩,?_⟩
 have hol:od.length≤s+w.length:=run_letters.sub_len2 hB.nd fun c hc=>(hB.mo c).1 hc
 unfold F.qec
 rw [braidValid n (by omega),bB,hok,Bool.not_true,kF,qak (z:=2*(s:Int)) (by omega) (by omega),bB,qak (z:=2*(s:Int)+(w.length:Int)) (by omega) (by omega),bB,
  dF (by omega),kF,b0_eq s (by omega) n hn,bB]
 dsimp only
 rw [e1,bB]
 dsimp only
 rw [tops_val hB hs _ rfl n hn,bB]
 dsimp only
 rw [pos_ok (by omega) (by omega),bB,bB,rows_val (fun c hc=>(hB.mo c).1 hc) (by omega) n hn,bB]
 dsimp only
 rw [close_val hs _ rfl (by omega) (by rw [List.length_map]; omega) n hn,bB]
 rfl
open Gar Pg
def Cv (s:Nat) (w:List Int) (k c:Nat):Nat:=Vv s w k ((prS s w k).idxOf c)
theorem prS_len (s:Nat) (w:List Int): ∀k,(prS s w k).length=s
 | 0=>List.length_range
 | k+1=>by
  show (((prS s w k).set _ _).set _ _).length=s
  rw [List.length_set,List.length_set,prS_len s w k]
section
variable {s : Nat} {w : List Int} (hw : ∀ x ∈ w, x ≠ 0 ∧ -(s : Int) < x ∧ x < s)
include hw
theorem en_be {k:Nat} (hk:k<w.length):enP (w.getD k 0)<s∧beP (w.getD k 0)<s∧enP (w.getD k 0)≠beP (w.getD k 0):=by
 obtain ⟨v0,v1,v2⟩:=letter_at hw hk
 unfold enP beP
 by_cases q:0<w.getD k 0
 · rw [if_pos q,if_pos q]; omega
 · rw [if_neg q,if_neg q]; omega
theorem prS_lt: ∀k,k≤w.length→∀c∈prS s w k,c<s+k
 | 0,_=>fun c hc=>List.mem_range.1 hc
 | k+1,hk=>fun c hc=>by
  obtain ⟨h1,h2,h3⟩:=en_be hw (show k<w.length by omega)
  have ih:=prS_lt k (by omega)
  have hpl:=prS_len s w k
  have hb:(prS s w k).getD (beP (w.getD k 0)) 0∈prS s w k:=by
   rw [qbl (by omega)]; exact List.getElem_mem _
  rcases List.mem_or_eq_of_mem_set hc with m | m
  ·
   rcases List.mem_or_eq_of_mem_set m with m | m
   · have:=ih c m; omega
   · have:=ih _ hb; omega
  · omega
theorem prS_at {k:Nat} (hk:k<w.length) (t:Nat):(prS s w (k+1))[t]? =if t=beP (w.getD k 0) then some (s+k) else if t=enP (w.getD k 0) then some ((prS s w k).getD (beP (w.getD k 0)) 0) else (prS s w k)[t]? :=by
 obtain ⟨h1,h2,h3⟩:=en_be hw hk
 have hpl:=prS_len s w k
 show (((prS s w k).set (enP (w.getD k 0)) ((prS s w k).getD (beP (w.getD k 0)) 0)).set (beP (w.getD k 0)) (s+k))[t]? =_
 rw [List.getElem?_set]
 by_cases q:beP (w.getD k 0)=t
 · rw [if_pos q,if_pos (by rw [List.length_set]; omega),if_pos q.symm]
 ·
  rw [if_neg q,if_neg (Ne.symm q),List.getElem?_set]
  by_cases q2:enP (w.getD k 0)=t
  · rw [if_pos q2,if_pos (by omega),if_pos q2.symm]
  · rw [if_neg q2,if_neg (Ne.symm q2)]
theorem prS_nodup: ∀k,k≤w.length→(prS s w k).Nodup
 | 0,_=>List.nodup_range
 | k+1,hk=>by
  obtain ⟨h1,h2,h3⟩:=en_be hw (show k<w.length by omega)
  have ih:=prS_nodup k (by omega)
  have hlt:=prS_lt hw k (by omega)
  have hpl:=prS_len s w k
  have hpl2:=prS_len s w (k+1)
  have key: ∀i a,(prS s w k)[i]? =some a→a<s+k:=fun i a h=>hlt a (List.mem_of_getElem? h)
  have hbb:(prS s w k)[beP (w.getD k 0)]? =some ((prS s w k).getD (beP (w.getD k 0)) 0):=by
   have hb2:beP (w.getD k 0)<(prS s w k).length:=by omega
   rw [qbl hb2]; exact gE hb2
  unfold List.Nodup
  rw [List.pairwise_iff_getElem]
  intro i j hi hj hij e
  have e2:(prS s w (k+1))[i]? =(prS s w (k+1))[j]? :=by rw [gE hi,gE hj,e]
  have gi:(prS s w k)[i]? =some ((prS s w k)[i]'(by omega)):=gE (by omega)
  have gj:(prS s w k)[j]? =some ((prS s w k)[j]'(by omega)):=gE (by omega)
  rw [prS_at hw (by omega),prS_at hw (by omega)] at e2
  by_cases a1:i=beP (w.getD k 0)
  ·
   rw [if_pos a1,if_neg (by omega)] at e2
   by_cases a2:j=enP (w.getD k 0)
   ·
    rw [if_pos a2] at e2
    have:=key _ _ hbb
    have:=Option.some.inj e2
    omega
   ·
    rw [if_neg a2,gj] at e2
    have:=key _ _ gj
    have:=Option.some.inj e2
    omega
  ·
   rw [if_neg a1] at e2
   by_cases b1:j=beP (w.getD k 0)
   ·
    rw [if_pos b1] at e2
    by_cases a2:i=enP (w.getD k 0)
    ·
     rw [if_pos a2] at e2
     have:=key _ _ hbb
     have:=Option.some.inj e2
     omega
    ·
     rw [if_neg a2,gi] at e2
     have:=key _ _ gi
     have:=Option.some.inj e2
     omega
   ·
    rw [if_neg b1] at e2
    by_cases a2:i=enP (w.getD k 0)
    ·
     rw [if_pos a2,if_neg (by omega),←hbb] at e2
     exact b1 ((List.getElem?_inj (by omega) ih).1 e2).symm
    ·
     rw [if_neg a2] at e2
     by_cases b2:j=enP (w.getD k 0)
     ·
      rw [if_pos b2,←hbb] at e2
      exact a1 ((List.getElem?_inj (by omega) ih).1 e2)
     ·
      rw [if_neg b2] at e2
      have:=(List.getElem?_inj (by omega) ih).1 e2
      omega
theorem Cv_at {k p c:Nat} (hk:k≤w.length) (h:(prS s w k)[p]? =some c):Cv s w k c=Vv s w k p:=by
 unfold Cv
 rw [idx_at (prS_nodup hw k hk) h]
theorem Cv_letter {k e b:Nat} (hk:k<w.length) (he:(prS s w k)[enP (w.getD k 0)]? =some e) (hb:(prS s w k)[beP (w.getD k 0)]? =some b):
  Cv s w k e=4*k∧Cv s w k b=4*k+(if 0<w.getD k 0 then 3 else 1)∧Cv s w (k+1) (s+k)=clm s w (4*k+2)∧Cv s w (k+1) b=clm s w (4*k+(if 0<w.getD k 0 then 1 else 3))∧
   (∀c,c∈prS s w k→c≠e→c≠b→c∈prS s w (k+1)∧Cv s w (k+1) c=Cv s w k c)∧b∈prS s w (k+1)∧s+k∈prS s w (k+1):=by
 obtain ⟨h1,h2,h3⟩:=en_be hw hk
 obtain ⟨i1,i2⟩:=Vv_in hw hk
 obtain ⟨o1,o2⟩:=Vv_out hw hk
 have hbd:(prS s w k).getD (beP (w.getD k 0)) 0=b:=by rw [List.getD_eq_getElem?_getD,hb]; rfl
 have n1:(prS s w (k+1))[beP (w.getD k 0)]? =some (s+k):=by rw [prS_at hw hk,if_pos rfl]
 have n2:(prS s w (k+1))[enP (w.getD k 0)]? =some b:=by rw [prS_at hw hk,if_neg h3,if_pos rfl,hbd]
 rw [Cv_at hw (by omega) he,Cv_at hw (by omega) hb,Cv_at hw (by omega) n1,Cv_at hw (by omega) n2]
 refine ⟨?_,?_,?_,?_,fun c hc c1 c2=>?_,List.mem_of_getElem? n2,List.mem_of_getElem? n1⟩
 ·
  unfold enP
  by_cases q:0<w.getD k 0
  · rw [if_pos q,i2]; unfold inR; rw [if_pos q]; rfl
  · rw [if_neg q,i1]; unfold inL; rw [if_neg q]; rfl
 ·
  unfold beP
  by_cases q:0<w.getD k 0
  · rw [if_pos q,i1]; unfold inL; rw [if_pos q,if_pos q]
  · rw [if_neg q,i2]; unfold inR; rw [if_neg q,if_neg q]
 ·
  unfold beP
  by_cases q:0<w.getD k 0
  · rw [if_pos q,o1]; unfold ouL; rw [if_pos q]
  · rw [if_neg q,o2]; unfold ouR; rw [if_neg q]
 ·
  unfold enP
  by_cases q:0<w.getD k 0
  · rw [if_pos q,o2]; unfold ouR; rw [if_pos q,if_pos q]
  · rw [if_neg q,o1]; unfold ouL; rw [if_neg q,if_neg q]
 ·
  obtain ⟨t,ht⟩:=List.mem_iff_getElem?.1 hc
  have t1:t≠enP (w.getD k 0):=fun q=>c1 (by rw [q,he] at ht; exact (Option.some.inj ht).symm)
  have t2:t≠beP (w.getD k 0):=fun q=>c2 (by rw [q,hb] at ht; exact (Option.some.inj ht).symm)
  have hn:(prS s w (k+1))[t]? =some c:=by rw [prS_at hw hk,if_neg t2,if_neg t1,ht]
  refine ⟨List.mem_of_getElem? hn,?_⟩
  rw [Cv_at hw (by omega) hn,Cv_at hw (by omega) ht]
  refine Vv_keep ?_ ?_
  ·
   intro q
   by_cases v:0<w.getD k 0
   · exact t2 (by unfold beP; rw [if_pos v]; exact q)
   · exact t1 (by unfold enP; rw [if_neg v]; exact q)
  ·
   intro q
   by_cases v:0<w.getD k 0
   · exact t1 (by unfold enP; rw [if_pos v]; exact q)
   · exact t2 (by unfold beP; rw [if_neg v]; exact q)
end
open Gar Pg
def inO (w:List Int) (j:Nat):Nat:=4*j+(if 0<w.getD j 0 then 3 else 1)
def ouO (s:Nat) (w:List Int) (j:Nat):Nat:=clm s w (4*j+(if 0<w.getD j 0 then 1 else 3))
def bth (s c:Nat):Nat:=if c<s then 0 else c-s+1
def Dth (w:List Int) (pr:List Nat) (E:Nat→Nat) (c T:Nat):Prop:=(T<w.length∧c=E T)∨(T=w.length∧c∈pr)
section
variable {s : Nat} {w : List Int} {tp : Nat → Nat} {od pr : List Nat} {E B x o cx co : Nat → Nat} (hw : ∀ x ∈ w, x ≠ 0 ∧ -(s : Int) < x ∧ x < s) (b : Bg s w tp od pr E B x o cx co) (H : Hs s w w.length pr E B)
include hw b H
theorem live {c T:Nat} (hc:c<s+w.length) (hT:Dth w pr E c T): ∀k,bth s c≤k→k≤T→c∈prS s w k∧Ch (inO w) (ouO s w) (Cv s w (bth s c) c) ((List.range k).filter fun j=>decide (B j=c)) (Cv s w k c):=by
 have hTN:T≤w.length:=by rcases hT with h | h<;>omega
 intro k
 induction k with
 | zero=>
  intro h1 h2
  have hs:c<s:=by
   unfold bth at h1
   split at h1
   · assumption
   · omega
  have e:bth s c=0:=if_pos hs
  rw [e]
  exact ⟨List.mem_range.2 hs,rfl⟩
 | succ k ih=>
  intro h1 h2
  obtain ⟨he,hb⟩:=H.2 k (by omega)
  obtain ⟨l1,l2,l3,l4,l5,l6,l7⟩:=Cv_letter hw (show k<w.length by omega) he hb
  rcases Nat.lt_or_ge k (bth s c) with q | q
  ·
   -- born now
   have hk:bth s c=k+1:=by omega
   have hck:c=s+k:=by
    unfold bth at hk
    split at hk<;>omega
   have hf:(List.range (k+1)).filter (fun j=>decide (B j=c))=[]:=by
    rw [List.filter_eq_nil_iff]
    intro j hj
    have:=List.mem_range.1 hj
    have:=(b.bi.eo j (by omega)).2.2.2.1
    simp only [decide_eq_true_eq]
    omega
   rw [hf,hk,hck]
   exact ⟨l7,rfl⟩
  ·
   obtain ⟨i1,i2⟩:=ih q (by omega)
   have hne:c≠E k:=by
    intro e
    obtain ⟨a1,a2,_⟩:=b.bi.eo k (by omega)
    rcases hT with ⟨t1,t2⟩ | ⟨t1,t2⟩
    ·
     have t3:=(b.bi.eo T t1).2.1
     rw [←t2,e,a2] at t3
     omega
    · rw [e] at t2; exact a1 t2
   rw [List.range_succ,List.filter_append]
   by_cases hB:B k=c
   ·
    have:[k].filter (fun j=>decide (B j=c))=[k]:=by simp [hB]
    rw [this]
    rw [hB] at l2 l4 l6
    exact ⟨l6,i2.app ⟨l2,l4.symm⟩⟩
   ·
    have:[k].filter (fun j=>decide (B j=c))=[]:=by simp [hB]
    rw [this,List.append_nil]
    obtain ⟨m1,m2⟩:=l5 c i1 hne (Ne.symm hB)
    rw [m2]
    exact ⟨m1,i2⟩
theorem live_all {c T:Nat} (hc:c<s+w.length) (hT:Dth w pr E c T):c∈prS s w T∧Ch (inO w) (ouO s w) (Cv s w (bth s c) c) ((List.range w.length).filter fun j=>decide (B j=c)) (Cv s w T c):=by
 have hTN:T≤w.length:=by rcases hT with h | h<;>omega
 have hbT:bth s c≤T:=by
  unfold bth
  split
  · omega
  ·
   rcases hT with ⟨t1,t2⟩ | ⟨t1,t2⟩
   ·
    have:=(b.bi.eo T t1).2.2.1
    omega
   · omega
 have h:=live hw b H hc hT T hbT (Nat.le_refl _)
 have e:(List.range w.length).filter (fun j=>decide (B j=c))=(List.range T).filter fun j=>decide (B j=c):=qgk hTN fun j h1 h2=>by
  refine dF fun q=>?_
  rcases hT with ⟨t1,t2⟩ | ⟨t1,t2⟩
  · exact (b.bi.eo j h2).2.2.2.2 T h1 (by rw [q,t2])
  · omega
 rw [e]; exact h
end
section
variable {s : Nat} {w : List Int} {tp : Nat → Nat} {od pr : List Nat} {E B x o cx co : Nat → Nat} (b : Bg s w tp od pr E B x o cx co)
include b
theorem Bg.crl_col' {i c:Nat} (hi:od[i]? =some c):colV (2*s+w.length) x o cx co i=((List.range w.length).filter fun j=>decide (B j=c)).map fun j=>vov (crl (2*s+w.length) x o cx co) (i,s+j):=by
 have hl:=b.bi.odl
 have hil:=(List.getElem?_eq_some_iff.1 hi).1
 have hc:=(b.bi.mo c).1 (List.mem_of_getElem? hi)
 obtain ⟨q1,q2⟩:=b.st i c hi
 have hlt:=b.bi.top_lt hc
 rw [b.gd.colV_eq (by omega),if_pos (by omega),crl_col (by omega),List.map_map]
 have hf:(List.range (2*s+w.length)).filter (cr x o cx co i)=((List.range w.length).filter fun j=>decide (B j=c)).map fun j=>s+j:=by
  have cr_at: ∀r,r<2*s+w.length→(cr x o cx co i r=true↔∃j,j<w.length∧B j=c∧r=s+j):=fun r hr=>by
   rw [b.cr_iff (by omega) hr]
   constructor
   ·
    rintro ⟨j,h1,h2,h3⟩
    rw [hi] at h2
    exact ⟨j,h1,(Option.some.inj h2).symm,h3⟩
   ·
    rintro ⟨j,h1,h2,h3⟩
    exact ⟨j,h1,by rw [h2]; exact hi,h3⟩
  have hfalse: ∀r,r<2*s+w.length→(¬∃j,j<w.length∧B j=c∧r=s+j)→cr x o cx co i r=false:=fun r hr h=>by
   cases e:cr x o cx co i r with
   | false=>rfl
   | true=>exact absurd ((cr_at r hr).1 e) h
  rw [qgk (a:=s+w.length) (by omega) (fun r h1 h2=>hfalse r h2 (fun ⟨j,a1,_,a3⟩=>by omega)),range_add,List.filter_append,List.filter_map]
  have h0:(List.range s).filter (cr x o cx co i)=[]:=qfu fun r hr=>hfalse r (by omega) (fun ⟨j,_,_,a3⟩=>by omega)
  rw [h0,List.nil_append]
  congr 1
  refine List.filter_congr fun j hj=>?_
  have hj:=List.mem_range.1 hj
  by_cases q:B j=c
  · rw [dT q]; exact (cr_at (s+j) (by omega)).2 ⟨j,hj,q,rfl⟩
  · rw [dF q]; exact hfalse (s+j) (by omega) (fun ⟨j',_,a2,a3⟩=>q (by rw [show j=j' by omega]; exact a2))
 rw [hf,List.map_map]
 rfl
omit b in
theorem filter_one {P:Nat→Bool} {a:Nat}: ∀{n:Nat},a<n→(∀i,i<n→(P i=true↔i=a))→(List.range n).filter P=[a]
 | 0,h,_=>absurd h (by omega)
 | n+1,h,hP=>by
  rw [range_step]
  rcases Nat.lt_or_ge a n with q | q
  · rw [filter_one q fun i hi=>hP i (by omega),if_neg (fun e=>by have:=(hP n (by omega)).1 e; omega)]; rfl
  ·
   have:a=n:=by omega
   subst this
   rw [qfu (fun j hj=>by
    cases e:P j with
    | false=>rfl
    | true=>have:=(hP j (by omega)).1 e; omega),if_pos ((hP a (by omega)).2 rfl)]; rfl
theorem Bg.row_letter {j r:Nat} (hj:j<w.length) (hr:od[r]? =some (B j)):rowV (2*s+w.length) x o cx co (s+j)=[vun (crl (2*s+w.length) x o cx co) (r,s+j)]:=by
 have hl:=b.bi.odl
 have hrl:=(List.getElem?_eq_some_iff.1 hr).1
 have hf:(List.range (2*s+w.length)).filter (fun i=>cr x o cx co i (s+j))=[r]:=filter_one (by omega) fun i hi=>by
  rw [b.cr_iff hi (by omega)]
  constructor
  ·
   rintro ⟨j',h1,h2,h3⟩
   rw [show j'=j by omega] at h2
   exact at_eq b.bi.nd h2 hr
  ·
   rintro rfl
   exact ⟨j,hj,hr,rfl⟩
 rw [b.gd.rowV_eq (by omega),crl_row (by omega),hf]
 split<;>rfl
theorem Bg.row_none {r:Nat} (hr:r<2*s+w.length) (h:r<s∨s+w.length≤r):rowV (2*s+w.length) x o cx co r=[]:=by
 have hf:(List.range (2*s+w.length)).filter (fun i=>cr x o cx co i r)=[]:=qfu fun i hi=>by
  cases e:cr x o cx co i r with
  | false=>rfl
  | true=>
   obtain ⟨j,h1,_,h3⟩:=(b.cr_iff hi hr).1 e
   omega
 rw [b.gd.rowV_eq hr,crl_row hr,hf]
 split<;>rfl
theorem Bg.col_none {i:Nat} (hi:i<2*s+w.length) (h:s+w.length≤i):colV (2*s+w.length) x o cx co i=[]:=by
 have hl:=b.bi.odl
 have hf:(List.range (2*s+w.length)).filter (cr x o cx co i)=[]:=qfu fun r hr=>by
  cases e:cr x o cx co i r with
  | false=>rfl
  | true=>
   obtain ⟨j,h1,h2,_⟩:=(b.cr_iff hi hr).1 e
   have:=(List.getElem?_eq_some_iff.1 h2).1
   omega
 rw [b.gd.colV_eq hi,crl_col hi,hf]
 split<;>rfl
end
open Gar Pg
def ltr (s:Nat) (L:List (Nat×Nat)) (c:Nat):Nat:=(L.getD c (0,0)).2-s
section
variable {s : Nat} {w : List Int} {tp : Nat → Nat} {od pr : List Nat} {E B x o cx co : Nat → Nat} (b : Bg s w tp od pr E B x o cx co)
include b
theorem Bg.mem_at {p:Nat×Nat}:p∈crl (2*s+w.length) x o cx co↔∃j,j<w.length∧p=(od.idxOf (B j),s+j):=by
 rw [b.crossings.mem_iff,List.mem_map]
 constructor
 · rintro ⟨j,hj,e⟩; exact ⟨j,List.mem_range.1 hj,e.symm⟩
 · rintro ⟨j,hj,e⟩; exact ⟨j,List.mem_range.2 hj,e.symm⟩
theorem Bg.crl_len:(crl (2*s+w.length) x o cx co).length=w.length:=by
 have:=b.crossings.length_eq
 rwa [List.length_map,List.length_range] at this
theorem Bg.at_mem {j r:Nat} (hj:j<w.length) (hr:od[r]? =some (B j)):(r,s+j)∈crl (2*s+w.length) x o cx co:=b.mem_at.2 ⟨j,hj,by rw [idx_at b.bi.nd hr]⟩
theorem Bg.ltr_num {j r:Nat} (hj:j<w.length) (hr:od[r]? =some (B j)):ltr s (crl (2*s+w.length) x o cx co) (num (crl (2*s+w.length) x o cx co) (r,s+j))=j:=by
 have hm:=b.at_mem hj hr
 unfold ltr
 rw [List.getD_eq_getElem?_getD,at_num hm]
 show s+j-s=j
 omega
theorem Bg.ltr_lt {c:Nat} (hc:c<w.length):ltr s (crl (2*s+w.length) x o cx co) c<w.length:=by
 have hl:=b.crl_len
 have hm:(crl (2*s+w.length) x o cx co)[c]'(by omega)∈crl (2*s+w.length) x o cx co:=List.getElem_mem _
 obtain ⟨j,hj,e⟩:=b.mem_at.1 hm
 unfold ltr
 rw [qbl (by omega),e]
 show s+j-s<_
 omega
theorem Bg.ltr_inj {c d:Nat} (hc:c<w.length) (hd:d<w.length) (e:ltr s (crl (2*s+w.length) x o cx co) c=ltr s (crl (2*s+w.length) x o cx co) d):c=d:=by
 have hl:=b.crl_len
 have h1:(crl (2*s+w.length) x o cx co)[c]'(by omega)∈crl (2*s+w.length) x o cx co:=List.getElem_mem _
 have h2:(crl (2*s+w.length) x o cx co)[d]'(by omega)∈crl (2*s+w.length) x o cx co:=List.getElem_mem _
 obtain ⟨j,hj,e1⟩:=b.mem_at.1 h1
 obtain ⟨k,hk,e2⟩:=b.mem_at.1 h2
 unfold ltr at e
 rw [qbl (by omega),qbl (by omega),e1,e2] at e
 have e':s+j-s=s+k-s:=e
 have:j=k:=by omega
 subst this
 have hcl:c<(crl (2*s+w.length) x o cx co).length:=by omega
 have hdl:d<(crl (2*s+w.length) x o cx co).length:=by omega
 exact (List.getElem?_inj hcl (qfg (2*s+w.length) x o cx co)).1 (by rw [gE hcl,gE hdl,e1,e2])
theorem Bg.sgn_at {c:Nat} (hc:c<w.length):(w.map sgv).getD (ltr s (crl (2*s+w.length) x o cx co) c) 0=(sgl (2*s+w.length) x o cx co).getD c 0:=by
 have hl:=b.crl_len
 have h1:(crl (2*s+w.length) x o cx co)[c]'(by omega)∈crl (2*s+w.length) x o cx co:=List.getElem_mem _
 obtain ⟨j,hj,e1⟩:=b.mem_at.1 h1
 have h2:ltr s (crl (2*s+w.length) x o cx co) c=j:=by
  unfold ltr
  rw [qbl (by omega),e1]
  show s+j-s=j
  omega
 have h3:=sgl_at h1
 rw [num_at (qfg ..) (gE (by omega:c<(crl (2*s+w.length) x o cx co).length)),e1,b.sign hj] at h3
 rw [h2,h3,qbl (by rw [List.length_map]; exact hj),List.getElem_map,←qbl hj 0]
 rfl
theorem Bg.ends_ov {j r:Nat} (hj:j<w.length) (hr:od[r]? =some (B j)):
  Tm (ltr s (crl (2*s+w.length) x o cx co)) (inH (sgl (2*s+w.length) x o cx co) (vov (crl (2*s+w.length) x o cx co) (r,s+j)))=inO w j∧
  Tm (ltr s (crl (2*s+w.length) x o cx co)) (outH (sgl (2*s+w.length) x o cx co) (vov (crl (2*s+w.length) x o cx co) (r,s+j)))=4*j+(if 0<w.getD j 0 then 1 else 3):=by
 have hm:=b.at_mem hj hr
 have hsg:=sgl_at hm
 have hsn:=b.sign hj
 rw [idx_at b.bi.nd hr] at hsn
 rw [hsn] at hsg
 have hn:=b.ltr_num hj hr
 have key: ∀k,k<4→Tm (ltr s (crl (2*s+w.length) x o cx co)) (4*num (crl (2*s+w.length) x o cx co) (r,s+j)+k)=4*j+k:=fun k hk=>by
  unfold Tm
  rw [show (4*num (crl (2*s+w.length) x o cx co) (r,s+j)+k)/ 4=num (crl (2*s+w.length) x o cx co) (r,s+j) by omega,hn]
  omega
 unfold inH outH vov inO
 dsimp only
 rw [Int.toNat_natCast,hsg]
 by_cases q:0<w.getD j 0
 ·
  rw [if_pos q,if_pos rfl,if_pos rfl,if_pos rfl,if_pos rfl,if_pos q,if_pos q]
  exact ⟨key 3 (by omega),key 1 (by omega)⟩
 ·
  have hm1: ¬((-1:Int)=1):=by decide
  rw [if_neg q,if_pos rfl,if_pos rfl,if_neg hm1,if_neg hm1,if_neg q,if_neg q]
  exact ⟨key 1 (by omega),key 3 (by omega)⟩
theorem Bg.ends_un {j r:Nat} (hj:j<w.length) (hr:od[r]? =some (B j)):
  Tm (ltr s (crl (2*s+w.length) x o cx co)) (inH (sgl (2*s+w.length) x o cx co) (vun (crl (2*s+w.length) x o cx co) (r,s+j)))=4*j∧
  Tm (ltr s (crl (2*s+w.length) x o cx co)) (outH (sgl (2*s+w.length) x o cx co) (vun (crl (2*s+w.length) x o cx co) (r,s+j)))=4*j+2:=by
 have hn:=b.ltr_num hj hr
 have key: ∀k,k<4→Tm (ltr s (crl (2*s+w.length) x o cx co)) (4*num (crl (2*s+w.length) x o cx co) (r,s+j)+k)=4*j+k:=fun k hk=>by
  unfold Tm
  rw [show (4*num (crl (2*s+w.length) x o cx co) (r,s+j)+k)/ 4=num (crl (2*s+w.length) x o cx co) (r,s+j) by omega,hn]
  omega
 unfold inH outH vun
 dsimp only
 rw [Int.toNat_natCast]
 exact ⟨key 0 (by omega),key 2 (by omega)⟩
end
section
variable {s : Nat} {w : List Int} {tp : Nat → Nat} {od pr : List Nat} {E B x o cx co : Nat → Nat} (hw : ∀ x ∈ w, x ≠ 0 ∧ -(s : Int) < x ∧ x < s) (b : Bg s w tp od pr E B x o cx co) (H : Hs s w w.length pr E B)
include hw b H
def Av (s:Nat) (w:List Int) (od:List Nat) (i:Nat):Nat:=if i<s+w.length then Cv s w (bth s (od.getD i 0)) (od.getD i 0) else Vv s w 0 (2*s+w.length-1-i)
theorem chain {i:Nat} (hi:i<2*s+w.length):
  Ch (fun u=>Tm (ltr s (crl (2*s+w.length) x o cx co)) (inH (sgl (2*s+w.length) x o cx co) u)) (fun u=>clm s w (Tm (ltr s (crl (2*s+w.length) x o cx co)) (outH (sgl (2*s+w.length) x o cx co) u))) (Av s w od i) (part (2*s+w.length) x o cx co i) (Av s w od (cx (o i))):=by
 have hl:=b.bi.odl
 rcases Nat.lt_or_ge i (s+w.length) with q | q
 ·
  obtain ⟨c,hc⟩: ∃c,od[i]? =some c:=⟨_,gE (by omega)⟩
  have hcl:=(b.bi.mo c).1 (List.mem_of_getElem? hc)
  obtain ⟨q1,q2⟩:=b.st i c hc
  have hgd:od.getD i 0=c:=by rw [List.getD_eq_getElem?_getD,hc]; rfl
  have eA:Av s w od i=Cv s w (bth s c) c:=by
   unfold Av
   rw [if_pos q,hgd]
  have hcol: ∀y,Ch (inO w) (ouO s w) (Cv s w (bth s c) c) ((List.range w.length).filter fun j=>decide (B j=c)) y→
    Ch (fun u=>Tm (ltr s (crl (2*s+w.length) x o cx co)) (inH (sgl (2*s+w.length) x o cx co) u)) (fun u=>clm s w (Tm (ltr s (crl (2*s+w.length) x o cx co)) (outH (sgl (2*s+w.length) x o cx co) u))) (Cv s w (bth s c) c) (colV (2*s+w.length) x o cx co i) y:=fun y h=>by
   rw [b.crl_col' hc]
   refine Ch.map.2 (Ch.congr (fun j hj=>?_) h)
   obtain ⟨j1,j2⟩:=List.mem_filter.1 hj
   have j2':B j=c:=of_decide_eq_true j2
   obtain ⟨e1,e2⟩:=b.ends_ov (List.mem_range.1 j1) (show od[i]? =some (B j) by rw [j2']; exact hc)
   exact ⟨e1.symm,by rw [e2]; rfl⟩
  rw [eA]
  unfold part
  rw [q2]
  rcases b.bi.top_cases hcl with ⟨j,hj,e1,e2⟩ | ⟨p,hp,e1,e2⟩
  ·
   -- a letter ends it
   obtain ⟨l1,l2⟩:=live_all hw b H hcl (.inl ⟨hj,e1⟩)
   obtain ⟨he,hb⟩:=H.2 j hj
   obtain ⟨m1,m2,m3,m4,m5,m6,m7⟩:=Cv_letter hw hj he hb
   obtain ⟨p,t,r,hp,ht,hr,k1,k2,k3⟩:=b.letter hj
   have hpl:=(List.getElem?_eq_some_iff.1 hp).1
   refine (hcol _ l2).app ?_
   rw [e2,b.row_letter hj hr,k1,e1,m1]
   obtain ⟨u1,u2⟩:=b.ends_un hj hr
   refine ⟨u1.symm,?_⟩
   show clm s w (Tm (ltr s (crl (2*s+w.length) x o cx co)) (outH (sgl (2*s+w.length) x o cx co) (vun (crl (2*s+w.length) x o cx co) (r,s+j))))=Av s w od p
   rw [u2]
   have hgp:od.getD p 0=s+j:=by rw [List.getD_eq_getElem?_getD,hp]; rfl
   unfold Av
   rw [if_pos (by omega),hgp,show bth s (s+j)=j+1 by unfold bth; rw [if_neg (by omega)]; omega,m3]
  ·
   -- it lasts to the end
   obtain ⟨l1,l2⟩:=live_all hw b H hcl (.inr ⟨rfl,List.mem_of_getElem? e1⟩)
   refine (hcol _ l2).app ?_
   rw [e2,b.row_none (by omega) (.inr (by omega)),show 2*s+w.length-1-p=s+w.length+(s-1-p) by omega,b.cx_cl (by omega)]
   show Cv s w w.length c=Av s w od (s+w.length+(s-1-p))
   unfold Av
   rw [if_neg (by omega),show 2*s+w.length-1-(s+w.length+(s-1-p))=p by omega,Cv_at hw (Nat.le_refl _) (by rw [←H.1]; exact e1),Vv_end hw hp]
 ·
  obtain ⟨c,rfl⟩: ∃c,i=s+w.length+c:=⟨i-(s+w.length),by omega⟩
  obtain ⟨q1,q2⟩:=b.cl c (by omega)
  obtain ⟨p,hp1,hp⟩:=b.pos (c:=s-1-c) (by omega)
  unfold part
  rw [b.col_none hi q,q2,b.row_none (by omega) (.inl (by omega)),b.cx_st hp]
  show Av s w od (s+w.length+c)=Av s w od p
  have hgp:od.getD p 0=s-1-c:=by rw [List.getD_eq_getElem?_getD,hp]; rfl
  have hat:(prS s w 0)[s-1-c]? =some (s-1-c):=List.getElem?_range (by omega)
  unfold Av
  rw [if_neg (by omega),if_pos (by omega),hgp,show bth s (s-1-c)=0 by unfold bth; rw [if_pos (by omega)],Cv_at hw (Nat.zero_le _) hat,show 2*s+w.length-1-(s+w.length+c)=s-1-c by omega]
theorem mates_clo (hL:w.length≤64) {ss:List Bool} {vs:List (List Nat)} (hO:OrbI (2*s+w.length) (fun c=>cx (o c)) (2*s+w.length) ss vs):
  ∀h,h<4*w.length→clm s w (Tm (ltr s (crl (2*s+w.length) x o cx co)) h)=Tm (ltr s (crl (2*s+w.length) x o cx co)) (muS (sgl (2*s+w.length) x o cx co) (csOf (2*s+w.length) x o cx co vs) h):=by
 have hl:=b.crl_len
 have hsl:=b.gd.sgl_len
 intro h hh
 refine b.gd.mates_to (by rw [hl]; exact hL) hO (f:=Tm (ltr s (crl (2*s+w.length) x o cx co))) (μ':=clm s w) (A:=Av s w od) (fun h hh=>?_) (fun c hc=>chain hw b H hc) h (by rw [hsl,hl]; exact hh)
 rw [hsl,hl] at hh
 have:=b.ltr_lt (show h/ 4<w.length by omega)
 exact ((clm_mt hw).2 _ (by unfold Tm; omega)).2.2.1
end
open Gar Pg
theorem id_tau:Tau (fun h=>h) (fun h=>h):=⟨fun _=>rfl,fun _=>rfl,fun _=>rfl,fun _=>rfl⟩
theorem Tm_turn (π:Nat→Nat) (h k:Nat):turnN (Tm π h) k=Tm π (turnN h k):=by
 unfold turnN Tm
 rw [show (4*π (h/ 4)+h%4)/ 4=π (h/ 4) by omega,show (4*(h/ 4)+(h%4+k)%4)/ 4=h/ 4 by omega]
 omega
theorem cls_bij {N:Nat} {adj adj':Nat→Nat→Prop} (hs: ∀a b,adj a b→adj b a) (hs': ∀a b,adj' a b→adj' b a) (f:Nat→Nat) (hf: ∀a,a<N→f a<N) (hi: ∀a b,a<N→b<N→f a=f b→a=b)
  (hl': ∀a b,adj' a b→a<N∧b<N) (h1: ∀a b,adj a b→adj' (f a) (f b)) (h2: ∀a b,a<N→b<N→adj' (f a) (f b)→adj a b):cls N adj=cls N adj':=by
 have hnd:((List.range N).map f).Nodup:=qcg List.nodup_range fun a ha b hb e=>hi a b (List.mem_range.1 ha) (List.mem_range.1 hb) e
 have ex: ∀y,∃x,y<N→x<N∧f x=y:=fun y=>by
  by_cases hy:y<N
  ·
   have:=nodup_all (N:=N) hnd (fun x hx=>by
    obtain ⟨c,hc,rfl⟩:=List.mem_map.1 hx
    exact hf c (List.mem_range.1 hc)) (by simp) hy
   obtain ⟨c,hc,e⟩:=List.mem_map.1 this
   exact ⟨c,fun _=>⟨List.mem_range.1 hc,e⟩⟩
  · exact ⟨0,fun h=>absurd h hy⟩
 obtain ⟨g,hg⟩:=Classical.skolem.1 ex
 refine cls_eq_of hs hs' f g hf (fun a ha=>(hg a ha).1) (fun a ha=>(hg a ha).2) (fun a ha=>hi _ _ (hg _ (hf a ha)).1 ha (hg _ (hf a ha)).2) (fun a b h=>Cn.one (h1 a b h)) fun a b h=>?_
 obtain ⟨l1,l2⟩:=hl' a b h
 refine Cn.one (h2 _ _ (hg a l1).1 (hg b l2).1 ?_)
 rw [(hg a l1).2,(hg b l2).2]; exact h
theorem outg_ou {w:List Int} {h:Nat} (hh:h<4*w.length):Outg (w.map sgv) h↔OuW w w.length h:=by
 have e:(w.map sgv).getD (h/ 4) 0=sgv (w.getD (h/ 4) 0):=by
  have hl:h/ 4<w.length:=by omega
  rw [qbl (by rw [List.length_map]; exact hl),List.getElem_map,qbl hl]
 unfold Outg OuW
 rw [e]
 unfold sgv
 by_cases q:0<w.getD (h/ 4) 0
 · rw [if_pos q,if_pos q]; omega
 · rw [if_neg q,if_neg q]; omega
theorem clo_dv {s:Nat} {w:List Int} (hw: ∀x∈w,x≠0∧-(s:Int)<x∧x<s) (hL:w.length≤64) {sg M:List Int} {lo0 lo:Int} {μ π:Nat→Nat} (D:DV sg M lo0 μ) (hsl:sg.length=w.length) (l0:0≤lo) (l1:lo≤64)
  (hl: ∀c,c<w.length→π c<w.length) (hi: ∀a b,a<w.length→b<w.length→π a=π b→a=b) (hm: ∀h,h<4*w.length→clm s w (Tm π h)=Tm π (μ h)):DV (w.map sgv) (clM s w) lo (clm s w):=by
 have M':=clm_mt hw
 have hln:(w.map sgv).length=w.length:=List.length_map ..
 have Dm:=D.mt
 rw [hsl] at Dm
 have Tlt: ∀h,h<4*w.length→Tm π h<4*w.length:=fun h hh=>by
  have:=hl (h/ 4) (by omega)
  unfold Tm; omega
 have Tinj: ∀a b,a<4*w.length→b<4*w.length→Tm π a=Tm π b→a=b:=fun a b ha hb e=>by
  unfold Tm at e
  have h1:π (a/ 4)=π (b/ 4):=by omega
  have:=hi _ _ (by omega) (by omega) h1
  omega
 refine ⟨by rw [hln]; exact hL,l0,l1,fun x hx=>?_,by rw [hln]; exact M',fun h hh=>?_,?_⟩
 ·
  obtain ⟨v,_,rfl⟩:=List.mem_map.1 hx
  unfold sgv
  split<;>simp
 ·
  rw [hln] at hh
  have h2:=(M'.2 h hh).2.1
  rw [outg_ou hh,outg_ou h2]
  obtain ⟨_,_,p3,p4,p5,p6⟩:=clP_ok hw
  rcases ou_or_in (w:=w) hh with q | q
  ·
   obtain ⟨⟨a,b⟩,hmem,rfl⟩:=List.mem_map.1 (p5 h q)
   obtain ⟨_,_,e3,_⟩:=clm_pair hw hmem
   have hb:=p4 b (List.mem_map.2 ⟨_,hmem,rfl⟩)
   dsimp only at q⊢
   rw [e3]
   exact ⟨fun k=>absurd hb (fun hb=>ou_in k hb),fun k=>absurd q k⟩
  ·
   obtain ⟨⟨a,b⟩,hmem,rfl⟩:=List.mem_map.1 (p6 h q)
   obtain ⟨_,_,_,e4,_⟩:=clm_pair hw hmem
   have ha:=p3 a (List.mem_map.2 ⟨_,hmem,rfl⟩)
   dsimp only at q⊢
   rw [e4]
   exact ⟨fun _ k=>ou_in k q,fun _=>ha⟩
 ·
  have hg:=D.g0
  rw [hsl] at hg
  rw [hln]
  have e1:cls w.length (adjP w.length μ)=cls w.length (adjP w.length (clm s w)):=by
   refine cls_bij (qbm Dm) (qbm M') π hl hi (fun a b h=>⟨h.1,h.2.1⟩) (fun a b ⟨h1,h2,k,hk,e⟩=>?_) (fun a b ha hb ⟨h1,h2,k,hk,e⟩=>?_)
   ·
    refine ⟨hl a h1,hl b h2,k,hk,?_⟩
    have:=hm (4*a+k) (by omega)
    unfold Tm at this
    rw [show (4*a+k)/ 4=a by omega,show (4*a+k)%4=k by omega,e] at this
    omega
   ·
    refine ⟨ha,hb,k,hk,?_⟩
    have:=hm (4*a+k) (by omega)
    have hlt:=(Dm.2 (4*a+k) (by omega)).2.1
    unfold Tm at this
    rw [show (4*a+k)/ 4=a by omega,show (4*a+k)%4=k by omega] at this
    exact hi _ _ (by omega) hb (by omega)
  have fcT: ∀a,a<4*w.length→fc (clm s w) (Tm π a)=Tm π (fc μ a):=fun a ha=>by
   unfold fc
   rw [hm a ha,Tm_turn]
  have e2:cls (4*w.length) (adjF w.length μ)=cls (4*w.length) (adjF w.length (clm s w)):=by
   refine cls_bij qfo qfo (Tm π) Tlt Tinj (fun a b h=>⟨h.1,h.2.1⟩) (fun a b ⟨h1,h2,e⟩=>?_) (fun a b ha hb ⟨h1,h2,e⟩=>?_)
   ·
    refine ⟨Tlt a h1,Tlt b h2,?_⟩
    rcases e with e | e
    · exact .inl (by rw [fcT a h1,e])
    · exact .inr (by rw [fcT b h2,e])
   ·
    refine ⟨ha,hb,?_⟩
    rcases e with e | e
    · exact .inl (Tinj _ _ hb (fc_lt Dm ha) (by rw [e,fcT a ha]))
    · exact .inr (Tinj _ _ ha (fc_lt Dm hb) (by rw [e,fcT b hb]))
  unfold gen2 at hg⊢
  rw [←e1,←e2]; exact hg
open Gar Pg
theorem one_ring {vs:List (List Nat)} (hn:vs.flatten.Nodup) {u v:List Nat} (hu:u∈vs) (hv:v∈vs) {c:Nat} (h1:c∈u) (h2:c∈v):u=v:=by
 unfold List.Nodup at hn
 rw [List.pairwise_flatten] at hn
 obtain ⟨i,hi1,e3⟩:=List.getElem_of_mem hu
 obtain ⟨j,hj1,e4⟩:=List.getElem_of_mem hv
 rcases Nat.lt_trichotomy i j with q | q | q
 · exact absurd rfl (List.pairwise_iff_getElem.1 hn.2 i j hi1 hj1 q c (e3▸h1) c (e4▸h2))
 · subst q; rw [←e3,←e4]
 · exact absurd rfl (List.pairwise_iff_getElem.1 hn.2 j i hj1 hi1 q c (e4▸h2) c (e3▸h1))
theorem rings_nodup {nx:Nat→Nat} {vs:List (List Nat)} (hn:vs.flatten.Nodup) (hc: ∀v∈vs,Cyc nx v):vs.Nodup:=by
 unfold List.Nodup at hn⊢
 rw [List.pairwise_flatten] at hn
 refine List.Pairwise.imp_of_mem (fun {a b} ha hb h e=>?_) hn.2
 subst e
 obtain ⟨c,hcm⟩:=List.exists_mem_of_ne_nil a (hc a ha).1
 exact h c hcm c hcm rfl
theorem lo_conv {n:Nat} {x o cx co:Nat→Nat} (vs:List (List Nat)):loOf n x o cx co vs=((vs.filter fun v=>(v.flatMap (part n x o cx co)).isEmpty).length:Int):=by
 unfold loOf
 rw [List.filter_map,List.length_map]
 rfl
section
variable {s : Nat} {w : List Int} {tp : Nat → Nat} {od pr : List Nat} {E B x o cx co : Nat → Nat} (b : Bg s w tp od pr E B x o cx co) {ss : List Bool} {vs : List (List Nat)} (hO : OrbI (2 * s + w.length) (fun c => cx (o c)) (2 * s + w.length) ss vs)
include b
theorem Bg.nx_cl {c:Nat} (hc:c<s):cx (o (s+w.length+c))=cx (s-1-c):=by rw [(b.cl c hc).2]
theorem Bg.start {p:Nat} (hp:p<s):od[cx p]? =some p∧cx p<s+w.length:=by
 obtain ⟨i,hi,h⟩:=b.pos (c:=p) (by omega)
 rw [b.cx_st h]; exact ⟨h,hi⟩
include hO
theorem ring_close {v:List Nat} (hv:v∈vs): ∃i∈v,s+w.length≤i:=by
 have hl:=b.bi.odl
 have key: ∀k i,i∈v→i<s+w.length→s+w.length-od.getD i 0≤k→∃i'∈v,s+w.length≤i':=by
  intro k
  induction k with
  | zero=>
   intro i hi hlt hk
   obtain ⟨c,hc⟩: ∃c,od[i]? =some c:=⟨_,gE (by omega)⟩
   have:=(b.bi.mo c).1 (List.mem_of_getElem? hc)
   rw [List.getD_eq_getElem?_getD,hc,Option.getD_some] at hk
   omega
  | succ k ih=>
   intro i hi hlt hk
   obtain ⟨c,hc⟩: ∃c,od[i]? =some c:=⟨_,gE (by omega)⟩
   have hcl:=(b.bi.mo c).1 (List.mem_of_getElem? hc)
   rw [List.getD_eq_getElem?_getD,hc,Option.getD_some] at hk
   obtain ⟨t,ht,e⟩:=List.getElem_of_mem hi
   have hnm:cx (o i)∈v:=List.mem_of_getElem? (ring_at (hO.cyc v hv) (show v[t]? =some i by rw [gE ht,e]))
   rw [(b.st i c hc).2] at hnm
   rcases b.bi.top_cases hcl with ⟨j,hj,e1,e2⟩ | ⟨p,hp,e1,e2⟩
   ·
    rw [e2] at hnm
    obtain ⟨p,hp1,hp⟩:=b.pos (c:=s+j) (by omega)
    rw [b.cx_st hp] at hnm
    have hEj:=(b.bi.eo j hj).2.2.1
    refine ih p hnm hp1 ?_
    rw [List.getD_eq_getElem?_getD,hp,Option.getD_some]
    omega
   ·
    rw [e2,show 2*s+w.length-1-p=s+w.length+(s-1-p) by omega,b.cx_cl (by omega)] at hnm
    exact ⟨_,hnm,by omega⟩
 obtain ⟨i,hi⟩:=List.exists_mem_of_ne_nil v (hO.cyc v hv).1
 rcases Nat.lt_or_ge i (s+w.length) with q | q
 · exact key _ i hi q (Nat.le_refl _)
 · exact ⟨i,hi,q⟩
theorem ring_start {v:List Nat} (hv:v∈vs): ∃p,p<s∧cx p∈v:=by
 obtain ⟨i,hi,h⟩:=ring_close b hO hv
 have hlt:=hO.lt i (List.mem_flatten.2 ⟨v,hv,hi⟩)
 obtain ⟨c,rfl⟩: ∃c,i=s+w.length+c:=⟨i-(s+w.length),by omega⟩
 obtain ⟨t,ht,e⟩:=List.getElem_of_mem hi
 have hnm:cx (o (s+w.length+c))∈v:=List.mem_of_getElem? (ring_at (hO.cyc v hv) (show v[t]? =some (s+w.length+c) by rw [gE ht,e]))
 rw [b.nx_cl (by omega)] at hnm
 exact ⟨s-1-c,by omega,hnm⟩
theorem rings_le:vs.length≤s:=by
 have ex: ∀v,∃p,v∈vs→p<s∧cx p∈v:=fun v=>by
  by_cases hv:v∈vs
  ·
   obtain ⟨p,h1,h2⟩:=ring_start b hO hv
   exact ⟨p,fun _=>⟨h1,h2⟩⟩
  · exact ⟨0,fun h=>absurd h hv⟩
 obtain ⟨F,hF⟩:=Classical.skolem.1 ex
 have:=qea (l1:=vs.map F) (l2:=List.range s) (qcg (rings_nodup hO.nd hO.cyc) fun u hu v hv e=>by
  have h1:=(hF u hu).2
  have h2:=(hF v hv).2
  rw [←e] at h2
  exact one_ring hO.nd hu hv h1 h2) fun p hp=>by
  obtain ⟨v,hv,rfl⟩:=List.mem_map.1 hp
  exact List.mem_range.2 (hF v hv).1
 rw [List.length_map,List.length_range] at this
 exact this
end
section
variable {s : Nat} {w : List Int} (hw : ∀ x ∈ w, x ≠ 0 ∧ -(s : Int) < x ∧ x < s)
theorem unt_step {k p:Nat} (h:(stC w (k+1)).lst p<0):(stC w k).lst p<0∧p≠(w.getD k 0).natAbs-1∧p≠(w.getD k 0).natAbs:=by
 rw [lst_step] at h
 unfold upd at h
 by_cases e1:p=(w.getD k 0).natAbs
 · rw [if_pos e1] at h; omega
 ·
  rw [if_neg e1] at h
  by_cases e2:p=(w.getD k 0).natAbs-1
  · rw [if_pos e2] at h; omega
  ·
   rw [if_neg e2] at h
   exact ⟨h,e2,e1⟩
theorem unt_back {j p:Nat}: ∀{k:Nat},j≤k→(stC w k).lst p<0→(stC w j).lst p<0
 | 0,h,h0=>by
  have:j=0:=by omega
  rw [this]; exact h0
 | k+1,h,h0=>by
  rcases Nat.lt_or_ge j (k+1) with q | q
  · exact unt_back (by omega) (unt_step h0).1
  ·
   have:j=k+1:=by omega
   rw [this]; exact h0
theorem ne_en {v:Int} {p:Nat} (h1:p≠v.natAbs-1) (h2:p≠v.natAbs):p≠enP v∧p≠beP v:=by
 unfold enP beP
 constructor<;>split<;>assumption
include hw
theorem unt_col {p:Nat} (hp:p<s): ∀k,k≤w.length→(stC w k).lst p<0→(prS s w k)[p]? =some p
 | 0,_,_=>List.getElem?_range hp
 | k+1,hk,h=>by
  obtain ⟨h1,h2,h3⟩:=unt_step h
  obtain ⟨n1,n2⟩:=ne_en h2 h3
  rw [prS_at hw (by omega),if_neg n2,if_neg n1]
  exact unt_col hp k (by omega) h1
omit hw in
theorem touch {p:Nat}: ∀k,0≤(stC w k).lst p→∃j,j<k∧(stC w j).lst p<0∧0≤(stC w (j+1)).lst p
 | 0,h=>by
  have:(stC w 0).lst p=-1:=rfl
  omega
 | k+1,h=>by
  by_cases q:(stC w k).lst p<0
  · exact ⟨k,by omega,q,h⟩
  ·
   obtain ⟨j,h1,h2⟩:=touch k (Int.not_lt.1 q)
   exact ⟨j,by omega,h2⟩
end
section
variable {s : Nat} {w : List Int} {tp : Nat → Nat} {od pr : List Nat} {E B x o cx co : Nat → Nat} (hw : ∀ x ∈ w, x ≠ 0 ∧ -(s : Int) < x ∧ x < s) (b : Bg s w tp od pr E B x o cx co) (H : Hs s w w.length pr E B) {ss : List Bool} {vs : List (List Nat)} (hO : OrbI (2 * s + w.length) (fun c => cx (o c)) (2 * s + w.length) ss vs)
include hw b H hO
theorem unt_ring {p:Nat} (hp:p<s) (h:(stC w w.length).lst p<0) {v:List Nat} (hv:v∈vs) (hm:cx p∈v):(∀i∈v,i=cx p∨i=s+w.length+(s-1-p))∧∀i∈v,part (2*s+w.length) x o cx co i=[]:=by
 obtain ⟨hst,hlt⟩:=b.start hp
 have hpr:pr[p]? =some p:=by rw [H.1]; exact unt_col hw hp _ (Nat.le_refl _) h
 have htop:=b.bi.top2 hpr
 have hnx1:cx (o (cx p))=s+w.length+(s-1-p):=by
  rw [(b.st _ p hst).2,htop,show 2*s+w.length-1-p=s+w.length+(s-1-p) by omega,b.cx_cl (by omega)]
 have hnx2:cx (o (s+w.length+(s-1-p)))=cx p:=by
  rw [b.nx_cl (by omega),show s-1-(s-1-p)=p by omega]
 have hring: ∀i∈v,i=cx p∨i=s+w.length+(s-1-p):=by
  refine cyc_closed (hO.cyc v hv) (S:=fun i=>i=cx p∨i=s+w.length+(s-1-p)) (fun c hc=>?_) hm (.inl rfl)
  rcases hc with rfl | rfl
  · exact .inr hnx1
  · exact .inl hnx2
 refine ⟨hring,fun i hi=>?_⟩
 rcases hring i hi with rfl | rfl
 ·
  have hf:(List.range w.length).filter (fun j=>decide (B j=p))=[]:=by
   rw [List.filter_eq_nil_iff]
   intro j hj
   have hj:=List.mem_range.1 hj
   simp only [decide_eq_true_eq]
   intro e
   have h1:=unt_back (j:=j+1) (by omega) h
   obtain ⟨h2,h3,h4⟩:=unt_step h1
   obtain ⟨n1,n2⟩:=ne_en h3 h4
   have hb:=(H.2 j hj).2
   rw [e] at hb
   exact n2 (at_eq (prS_nodup hw j (by omega)) (unt_col hw hp j (by omega) h2) hb)
  unfold part
  rw [b.crl_col' hst,hf,(b.st _ p hst).2,htop,b.row_none (by omega) (.inr (by omega))]; rfl
 ·
  unfold part
  rw [b.col_none (by omega) (by omega),(b.cl _ (by omega)).2,b.row_none (by omega) (.inl (by omega))]; rfl
omit hO in
theorem ring_unt {p:Nat} (hp:p<s) (h:part (2*s+w.length) x o cx co (cx p)=[]):(stC w w.length).lst p<0:=by
 obtain ⟨hst,hlt⟩:=b.start hp
 rcases Int.lt_or_le ((stC w w.length).lst p) 0 with q | q
 · exact q
 ·
  exfalso
  obtain ⟨k,hk,h1,h2⟩:=touch _ q
  have hat:=unt_col hw hp k (by omega) h1
  obtain ⟨he,hb⟩:=H.2 k hk
  unfold part at h
  rw [List.append_eq_nil_iff] at h
  have ht:p=enP (w.getD k 0)∨p=beP (w.getD k 0):=by
   rw [lst_step] at h2
   unfold upd at h2
   unfold enP beP
   by_cases e1:p=(w.getD k 0).natAbs
   · split<;>omega
   ·
    rw [if_neg e1] at h2
    by_cases e2:p=(w.getD k 0).natAbs-1
    · split<;>omega
    · rw [if_neg e2] at h2; omega
  rcases ht with e | e
  ·
   rw [←e,hat] at he
   have hE:=Option.some.inj he
   have htop:=b.bi.top1 hk
   rw [←hE] at htop
   obtain ⟨_,_,r,_,_,hr,_⟩:=b.letter hk
   have:=h.2
   rw [(b.st _ p hst).2,htop,b.row_letter hk hr] at this
   cases this
  ·
   rw [←e,hat] at hb
   have hB:=Option.some.inj hb
   have:=h.1
   rw [b.crl_col' hst,List.map_eq_nil_iff,List.filter_eq_nil_iff] at this
   exact this k (List.mem_range.2 hk) (dT hB.symm)
theorem loops_eq:loOf (2*s+w.length) x o cx co vs=((lpz (stC w w.length) s).length:Int):=by
 rw [lo_conv]
 have hvn:=rings_nodup hO.nd hO.cyc
 have ex: ∀v,∃p,v∈vs→p<s∧cx p∈v:=fun v=>by
  by_cases hv:v∈vs
  ·
   obtain ⟨p,h1,h2⟩:=ring_start b hO hv
   exact ⟨p,fun _=>⟨h1,h2⟩⟩
  · exact ⟨0,fun h=>absurd h hv⟩
 obtain ⟨F,hF⟩:=Classical.skolem.1 ex
 have le1:=qea (l1:=(vs.filter fun v=>(v.flatMap (part (2*s+w.length) x o cx co)).isEmpty).map F) (l2:=lpz (stC w w.length) s) (qcg (List.Nodup.sublist List.filter_sublist hvn) fun u hu v hv e=>by
  have hu:=(List.mem_filter.1 hu).1
  have hv:=(List.mem_filter.1 hv).1
  have h1:=(hF u hu).2
  have h2:=(hF v hv).2
  rw [←e] at h2
  exact one_ring hO.nd hu hv h1 h2) fun p hp=>by
  obtain ⟨v,hv,rfl⟩:=List.mem_map.1 hp
  obtain ⟨hv,hem⟩:=List.mem_filter.1 hv
  rw [List.isEmpty_iff,List.flatMap_eq_nil_iff] at hem
  obtain ⟨h1,h2⟩:=hF v hv
  exact List.mem_filter.2 ⟨List.mem_range.2 h1,dT (ring_unt hw b H h1 (hem _ h2))⟩
 have ex2: ∀p,∃v,p<s→v∈vs∧cx p∈v:=fun p=>by
  by_cases hp:p<s
  ·
   obtain ⟨hst,hlt⟩:=b.start hp
   obtain ⟨v,hv,hm⟩:=List.mem_flatten.1 (hO.cov (cx p) (by omega))
   exact ⟨v,fun _=>⟨hv,hm⟩⟩
  · exact ⟨[],fun h=>absurd h hp⟩
 obtain ⟨G,hG⟩:=Classical.skolem.1 ex2
 have lz: ∀p∈lpz (stC w w.length) s,p<s∧(stC w w.length).lst p<0:=fun p hp=>by
  obtain ⟨h1,h2⟩:=List.mem_filter.1 hp
  exact ⟨List.mem_range.1 h1,of_decide_eq_true h2⟩
 have le2:=qea (l1:=(lpz (stC w w.length) s).map G) (l2:=vs.filter fun v=>(v.flatMap (part (2*s+w.length) x o cx co)).isEmpty) (qcg (List.Nodup.sublist List.filter_sublist List.nodup_range) fun p hp q hq e=>by
  obtain ⟨p1,p2⟩:=lz p hp
  obtain ⟨q1,q2⟩:=lz q hq
  obtain ⟨v1,v2⟩:=hG p p1
  obtain ⟨u1,u2⟩:=hG q q1
  rw [←e] at u2
  rcases (unt_ring hw b H hO p1 p2 v1 v2).1 _ u2 with k | k
  · exact (b.gd.px.symm.inj k).symm
  ·
   have:=(b.start q1).2
   omega) fun v hv=>by
  obtain ⟨p,hp,rfl⟩:=List.mem_map.1 hv
  obtain ⟨p1,p2⟩:=lz p hp
  obtain ⟨v1,v2⟩:=hG p p1
  refine List.mem_filter.2 ⟨v1,?_⟩
  rw [List.isEmpty_iff,List.flatMap_eq_nil_iff]
  exact (unt_ring hw b H hO p1 p2 v1 v2).2
 rw [List.length_map] at le1 le2
 omega
end
open Gar Pg
theorem braid_big {s:Nat} {w:List Int} (hok:okB (s:Int) w=true) (hs:40<2*s+w.length) (hb:s≤1000) (hl:w.length≤1000) (n:Nat) (hn:2000<n):F.qec n s w=some ([],[],5):=by
 unfold F.qec
 rw [braidValid n (by omega),bB,hok,Bool.not_true,kF,qak (z:=2*(s:Int)) (by omega) (by omega),bB,qak (z:=2*(s:Int)+(w.length:Int)) (by omega) (by omega),bB,dT (by omega),kT]
theorem same_clo {s:Nat} {w:List Int} {tp:Nat→Nat} {od pr:List Nat} {E B x o cx co:Nat→Nat} (hw: ∀x∈w,x≠0∧-(s:Int)<x∧x<s) (h40:2*s+w.length≤40) (b:Bg s w tp od pr E B x o cx co) (H:Hs s w w.length pr E B) {ss:List Bool} {vs:List (List Nat)} (hO:OrbI (2*s+w.length) (fun c=>cx (o c)) (2*s+w.length) ss vs) (m:Nat) (hm:200000<m):
  F.qgf m (sgl (2*s+w.length) x o cx co) (mtS (sgl (2*s+w.length) x o cx co) (csOf (2*s+w.length) x o cx co vs)) (loOf (2*s+w.length) x o cx co vs) (w.map sgv) (clM s w) ((lpz (stC w w.length) s).length:Int)=some true:=by
 have hcl:=b.crl_len
 have hsl:(sgl (2*s+w.length) x o cx co).length=w.length:=by rw [b.gd.sgl_len,hcl]
 have D:=b.gd.dv (by omega) hO
 have hlp:=loops_eq hw b H hO
 have hll:=lpz_len (stC w w.length) s
 have D':=clo_dv hw (by omega) D hsl (lo:=loOf (2*s+w.length) x o cx co vs) (by omega) (by omega) (fun c h=>b.ltr_lt h) (fun a d ha hd e=>b.ltr_inj ha hd e) (mates_clo hw b H (by omega) hO)
 have I:Iso (sgl (2*s+w.length) x o cx co).length (sgl (2*s+w.length) x o cx co) (muS (sgl (2*s+w.length) x o cx co) (csOf (2*s+w.length) x o cx co vs)) (w.map sgv) (clm s w) (ltr s (crl (2*s+w.length) x o cx co)):=
  iso_of (n:=(sgl (2*s+w.length) x o cx co).length) (μ:=muS (sgl (2*s+w.length) x o cx co) (csOf (2*s+w.length) x o cx co vs)) (μ':=clm s w) id_tau (fun c h=>by rw [hsl] at h⊢; exact b.ltr_lt h) (fun a d ha hd e=>by rw [hsl] at ha hd; exact b.ltr_inj ha hd e) (fun c h=>by rw [hsl] at h; exact b.sgn_at h) (fun h hh=>by
   rw [hsl] at hh
   exact mates_clo hw b H (by omega) hO h hh)
 have hK:cls (sgl (2*s+w.length) x o cx co).length (adjP (sgl (2*s+w.length) x o cx co).length (muS (sgl (2*s+w.length) x o cx co) (csOf (2*s+w.length) x o cx co vs)))<20:=by
  have h1:=b.gd.cls_le (by omega) hO
  have h2:=rings_le b hO
  have h3:=Pg.cls_le (sgl (2*s+w.length) x o cx co).length (adjP (sgl (2*s+w.length) x o cx co).length (muS (sgl (2*s+w.length) x o cx co) (csOf (2*s+w.length) x o cx co vs)))
  omega
 rw [←hlp]
 exact (same_of_iso D D' (by rw [List.length_map,hsl]) I hK m hm).1
end Gl
open Ev Gl Gar Pg in
theorem law44_GridlinkCloses_true (z0:Int) (x1:List Int) (o0:Ev.Sh.ok (.int .i64) z0) (o1:Ev.Sh.ok (.sl (.int .i64)) x1): ∃n,F.law44_GridlinkCloses n z0 x1=some true:=by
 refine ⟨200000000,?_⟩
 unfold F.law44_GridlinkCloses
 rw [awake44,bB,Bool.not_true,kF]
 by_cases hl:(40:Int)<(x1.length:Int)
 · rw [dT hl,kT]
 rw [dF hl,kF,braidValid 200000000 (by omega)]
 cases hok:okB z0 x1 with
 | false=>rw [bB,Bool.not_false,kT]
 | true=>
  obtain ⟨h1,h2,_,hw⟩:=okB_iff.1 hok
  obtain ⟨s,rfl⟩: ∃s:Nat,z0=(s:Int):=⟨z0.toNat,by omega⟩
  rw [bB,Bool.not_true,kF]
  by_cases h40:2*s+x1.length≤40
  ·
   obtain ⟨tp,od,pr,E,B,⟨hB,hH⟩,eb⟩:=braid_valH hok h40 200000000 (by omega)
   obtain ⟨x,o,cx,co,b,e1,e2⟩:=hB.bg h40 (by omega)
   have hlen:=b.crl_len
   obtain ⟨st,vs,hO,hd⟩:=b.gd.diag1 (by omega) 200000000 (by omega)
   obtain ⟨r,v1,v2⟩:=gridValid (li (2*s+x1.length) x) (li (2*s+x1.length) o) 200000000 (by omega)
   have hr:=v2.2 b.gd.vg
   subst hr
   have hc:=closure_run hok (by omega) (by omega) 200000000 (by omega)
   have hs:=same_clo hw h40 b hH hO 200000000 (by omega)
   unfold clM clP at hs
   rw [eb,bB]
   dsimp only
   rw [e1,e2,dT (show (0:Int)=0 from rfl),Bool.not_true,kF,hd,bB,hc,bB,v1,bB,kT]
   dsimp only
   rw [dT (show (0:Int)=0 from rfl),kT,kT,hs,bB]
  ·
   rw [braid_big hok (by omega) (by omega) (by omega) 200000000 (by omega),bB]
   dsimp only
   rw [dF (show¬(5:Int)=0 by decide),Bool.not_false,kT,qak (z:=2*(s:Int)) (by omega) (by omega),bB,qak (z:=2*(s:Int)+(x1.length:Int)) (by omega) (by omega),bB,dT (by omega)]
