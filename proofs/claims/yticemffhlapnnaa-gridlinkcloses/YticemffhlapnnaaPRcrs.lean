import Derived.Test.YticemffhlapnnaaPLoop
set_option linter.all false
namespace Go.Proofs.Yticemffhlapnnaa
open Ev
namespace Gar
structure Pm (N:Nat) (f g:Nat→Nat):Prop where
 fix: ∀k,N≤k→f k=k
 gf: ∀k,g (f k)=k
 fg: ∀k,f (g k)=k
section
variable {N : Nat} {f g : Nat → Nat}
theorem Pm.symm (h:Pm N f g):Pm N g f:=⟨fun k hk=>by have:=h.gf k; rwa [h.fix k hk] at this,h.fg,h.gf⟩
theorem Pm.inj (h:Pm N f g) {a b:Nat} (e:f a=f b):a=b:=by rw [←h.gf a,←h.gf b,e]
theorem Pm.lt (h:Pm N f g) {k:Nat} (hk:k<N):f k<N:=by
 rcases Nat.lt_or_ge (f k) N with h1 | h1
 · exact h1
 · have:=h.inj (h.fix _ h1); omega
/-! Inversions. -/
end
def li (N:Nat) (f:Nat→Nat):List Int:=(List.range N).map fun k=>(f k:Int)
section
variable {N : Nat} {f g : Nat → Nat}
@[simp] theorem li_len:(li N f).length=N:=by simp [li]
theorem li_at {k:Nat} (h:k<N):(li N f)[k]? =some (f k:Int):=by simp [li,h]
theorem li_none {k:Nat} (h:N≤k):(li N f)[k]? =none:=by simp [li]; omega
theorem qeg {z:Int} (h0:0≤z) (h1:z<N):Ev.get (li N f) z=some (f z.toNat:Int):=by
 unfold Ev.get; rw [if_pos h0,li_at (by omega)]
theorem li_ext (h: ∀k,k<N→f k=g k):li N f=li N g:=by
 unfold li; apply List.map_congr_left; intro k hk; rw [List.mem_range] at hk; rw [h k hk]
theorem li_set (k v:Nat):(li N f).set k (v:Int)=li N (fun j=>if j=k then v else f j):=by
 apply List.ext_getElem?
 intro j
 rw [List.getElem?_set]
 by_cases h:k=j
 ·
  subst h
  rw [if_pos rfl,li_len]
  by_cases h1:k<N
  · rw [if_pos h1,li_at h1,if_pos rfl]
  · rw [if_neg h1,li_none (by omega)]
 ·
  rw [if_neg h]
  by_cases h1:j<N
  · rw [li_at h1,li_at h1,if_neg (Ne.symm h)]
  · rw [li_none (by omega),li_none (by omega)]
theorem li_rep:List.replicate N (0:Int)=li N (fun _=>0):=by
 apply List.ext_getElem?
 intro j
 by_cases h:j<N
 · rw [li_at h]; simp [h]
 · rw [li_none (by omega)]; simp; omega
theorem pigeon: ∀(N:Nat) (f:Nat→Nat),(∀k,k<N→f k<N)→(∀j k,j<N→k<N→f j=f k→j=k)→∀y,y<N→∃k,k<N∧f k=y
 | 0,_,_,_,y,hy=>absurd hy (Nat.not_lt_zero _)
 | N+1,f,h,inj,y,hy=>by
  have hm:f N<N+1:=h N (by omega)
  have ih:=pigeon N (fun k=>if f k=N then f N else f k) (fun k hk=>by
   by_cases e:f k=N
   ·
    simp only [e,if_true]
    have:f N≠N:=fun e2=>by have:=inj k N (by omega) (by omega) (by omega); omega
    omega
   ·
    simp only [e,if_false]
    have:=h k (by omega); omega) (fun j k hj hk e=>by
   by_cases e1:f j=N<;>by_cases e2:f k=N<;>simp only [e1,e2,if_true,if_false] at e
   · exact inj j k (by omega) (by omega) (by omega)
   · have:=inj N k (by omega) (by omega) e; omega
   · have:=inj j N (by omega) (by omega) e; omega
   · exact inj j k (by omega) (by omega) e)
  by_cases hy1:y=f N
  · exact ⟨N,by omega,hy1.symm⟩
  by_cases hy2:y=N
  ·
   obtain ⟨k,hk,e⟩:=ih (f N) (by omega)
   by_cases e1:f k=N
   · exact ⟨k,by omega,by omega⟩
   ·
    simp only [e1,if_false] at e
    have:=inj k N (by omega) (by omega) e; omega
  ·
   obtain ⟨k,hk,e⟩:=ih y (by omega)
   by_cases e1:f k=N
   · simp only [e1,if_true] at e; omega
   ·
    simp only [e1,if_false] at e
    exact ⟨k,by omega,e⟩
def IsP (p:List Int):Prop:= ∃f g,Pm p.length f g∧p=li p.length f
theorem isP_of {p:List Int} (hr: ∀x∈p,0≤x∧x<p.length) (hn:p.Nodup):IsP p:=by
 have hf: ∀k,k<p.length→p[k]? =some (((p.getD k 0).toNat:Nat):Int):=fun k hk=>by
  have h1:p[k]? =some p[k]:=gE hk
  have h2:=hr p[k] (List.getElem_mem hk)
  rw [h1,List.getD_eq_getElem?_getD,h1,Option.getD_some,show ((p[k].toNat:Nat):Int)=p[k] by omega]
 have hlt: ∀k,k<p.length→(p.getD k 0).toNat<p.length:=fun k hk=>by
  have h1:=hf k hk
  have h2:=hr _ (List.mem_of_getElem? h1)
  omega
 have hinj: ∀j k,j<p.length→k<p.length→(p.getD j 0).toNat=(p.getD k 0).toNat→j=k:=fun j k hj hk e=>by
  have h1:=hf j hj; have h2:=hf k hk
  rw [e,←h2] at h1
  exact (List.getElem?_inj hj hn).1 h1
 have hs:=pigeon p.length _ hlt hinj
 have hg: ∀y,∃k,(y<p.length→k<p.length∧(p.getD k 0).toNat=y)∧(¬y<p.length→k=y):=fun y=>by
  by_cases h:y<p.length
  ·
   obtain ⟨k,h1,h2⟩:=hs y h
   exact ⟨k,fun _=>⟨h1,h2⟩,fun h'=>absurd h h'⟩
  · exact ⟨y,fun h'=>absurd h' h,fun _=>rfl⟩
 obtain ⟨g,hg⟩:=Classical.skolem.1 hg
 refine ⟨fun k=>if k<p.length then (p.getD k 0).toNat else k,g,⟨fun k hk=>if_neg (by omega),fun k=>?_,fun y=>?_⟩,?_⟩
 ·
  by_cases h:k<p.length
  ·
   simp only [h,if_true]
   have h2:=(hg (p.getD k 0).toNat).1 (hlt k h)
   exact hinj _ _ h2.1 h h2.2
  ·
   simp only [h,if_false]
   exact (hg k).2 h
 ·
  by_cases h:y<p.length
  ·
   have h2:=(hg y).1 h
   simp only [h2.1,if_true,h2.2]
  ·
   have h2:=(hg y).2 h
   simp only [h2,h,if_false]
 ·
  apply List.ext_getElem?
  intro k
  by_cases h:k<p.length
  · rw [hf k h,li_at h,if_pos h]
  · rw [List.getElem?_eq_none (by omega),li_none (by omega)]
theorem IsP.nodup {p:List Int} (h:IsP p):p.Nodup:=by
 obtain ⟨f,g,hp,e⟩:=h
 rw [e]
 unfold li
 rw [List.Nodup,List.pairwise_map]
 refine List.Pairwise.imp ?_ List.nodup_range
 intro a b hab e
 exact hab (hp.inj (by omega))
theorem IsP.rng {p:List Int} (h:IsP p): ∀x∈p,0≤x∧x<p.length:=by
 obtain ⟨f,g,hp,e⟩:=h
 intro x hx
 rw [e] at hx
 simp only [li,List.mem_map,List.mem_range] at hx
 obtain ⟨k,hk,rfl⟩:=hx
 have:=hp.lt hk; omega
theorem isP_li (h:Pm N f g):IsP (li N f):=⟨f,g,by rw [li_len]; exact h,by rw [li_len]⟩
/-! The program's functions on permutations. -/
end
section
variable {N : Nat}
end
section
variable {N : Nat}
end
section
variable {N : Nat}
/-! The program's functions. -/
end
section
variable {N : Nat}
end
end Gar
end Go.Proofs.Yticemffhlapnnaa

set_option linter.all false
namespace Go.Proofs.Yticemffhlapnnaa
open Ev
namespace Gl
open Gar
theorem gridPerm {p:List Int} (n:Nat) (hn:p.length<n) (hl:p.length≤100000000): ∃r,F.qdc n p=some r∧(r=true↔IsP p):=by
 unfold F.qdc
 rw [pos_ok (by omega) (by omega),bB]
 obtain ⟨r,hr1,hr2⟩:=qdz (body:=F.qeo n p) (fun s=> ∃k:Nat,s.1=(k:Int)∧k≤p.length∧s.2.length=p.length∧(∀x∈p.take k,0≤x∧x<p.length)∧(p.take k).Nodup∧∀x:Nat,x<p.length→(s.2[x]? =some true↔(x:Int)∈p.take k))
  (fun s=>p.length-s.1.toNat) (fun r=>match r with | .inl _=>IsP p | .inr b=>b=false∧¬IsP p) (fun s ⟨k,h1,h2,h3,h4,h5,h6⟩=>by
   obtain ⟨i,seen⟩:=s
   dsimp only at h1 h3 h6
   subst h1
   unfold F.qeo
   dsimp only
   by_cases hlt:(k:Int)<(p.length:Int)
   ·
    rw [dT hlt,kT,qdb,gE (by omega:k<p.length),bB]
    have hmem:p[k]'(by omega)∈p:=List.getElem_mem _
    by_cases c1:p[k]'(by omega)<0
    · rw [dT c1,kT]; right; exact ⟨_,rfl,rfl,fun hp=>by have:=(hp.rng _ hmem).1; omega⟩
    rw [dF c1,kF]
    by_cases c2:(p.length:Int)≤p[k]'(by omega)
    · rw [dT c2,kT]; right; exact ⟨_,rfl,rfl,fun hp=>by have:=(hp.rng _ hmem).2; omega⟩
    rw [dF c2,kF]
    have hk3:(p[k]'(by omega)).toNat<seen.length:=by omega
    rw [get_ok (by omega) hk3,bB]
    have h7:=h6 (p[k]'(by omega)).toNat (by omega)
    rw [gE hk3,show (((p[k]'(by omega)).toNat:Nat):Int)=p[k]'(by omega) by omega] at h7
    have ht:p.take (k+1)=p.take k++[p[k]'(by omega)]:=by rw [List.take_add_one,gE (by omega:k<p.length)]; rfl
    by_cases c3:seen[(p[k]'(by omega)).toNat]=true
    ·
     rw [c3,kT]; right
     refine ⟨_,rfl,rfl,fun hp=>?_⟩
     have h8:=h7.1 (by rw [c3])
     have h9:=hp.nodup
     have h10:(p.take (k+1)).Nodup:=(List.take_sublist _ _).nodup h9
     rw [ht,List.nodup_append] at h10
     exact h10.2.2 _ h8 _ (by simp) rfl
    ·
     rw [Bool.not_eq_true] at c3
     rw [c3,kF,bB,qak (by omega) (by omega),bB]
     left
     have h8:p[k]'(by omega)∉p.take k:=fun hm=>by have:=h7.2 hm; rw [c3] at this; cases this
     refine ⟨_,rfl,⟨k+1,by simp,by omega,by simpa using h3,?_,?_,?_⟩,by dsimp only; omega⟩
     ·
      intro x hx
      rw [ht] at hx
      rcases List.mem_append.1 hx with h9 | h9
      · exact h4 x h9
      · simp only [List.mem_singleton] at h9; subst h9; omega
     ·
      rw [ht,List.nodup_append]
      exact ⟨h5,by simp,fun a ha b hb e=>by simp only [List.mem_singleton] at hb; subst hb; subst e; exact h8 ha⟩
     ·
      intro x hx
      dsimp only
      rw [ht,List.mem_append,List.mem_singleton,List.getElem?_set]
      by_cases e:(p[k]'(by omega)).toNat=x
      ·
       rw [if_pos e,if_pos hk3]
       exact ⟨fun _=>.inr (by omega),fun _=>rfl⟩
      ·
       rw [if_neg e,h6 x hx]
       exact ⟨fun h=>.inl h,fun h=>h.resolve_right (by omega)⟩
   ·
    rw [dF hlt,kF]; right
    obtain rfl:k=p.length:=by omega
    rw [List.take_length] at h4 h5
    exact ⟨_,rfl,isP_of h4 h5⟩) n (0,List.replicate (p.length:Int).toNat false) ⟨0,rfl,by omega,by simp,by simp,by simp,fun x hx=>by simp [List.getElem?_replicate,hx]⟩ (by dsimp only; omega)
 rw [hr1,bB]
 rcases r with s | b
 · exact ⟨true,rfl,⟨fun _=>hr2,fun _=>rfl⟩⟩
 ·
  obtain ⟨rfl,h⟩:=hr2
  exact ⟨false,rfl,⟨fun h'=>absurd h' (by decide),fun h'=>absurd h' h⟩⟩
structure VG (X O:List Int):Prop where
 lo:2≤X.length
 hi:X.length≤40
 ol:O.length=X.length
 px:IsP X
 po:IsP O
 ne: ∀k:Nat,k<X.length→X[k]?≠O[k]?
theorem ne_loop {X O:List Int} (hO:O.length=X.length) (hX:X.length≤40) (n:Nat) (hn:100<n) (body:Int→Option (Int⊕(Int⊕Bool)))
  (hb: ∀v:Int,body v=cond (decide (v<(X.length:Int))) ((Ev.get X v).bind fun x34=>(Ev.get O v).bind fun x41=>cond (decide (x34=x41)) (some (.inr (.inr false))) ((chk (v+1)).bind fun z50=>some (.inl z50))) (some (.inr (.inl v)))):
  ∃r,loopN n body 0=some r∧match r with | .inl _=> ∀k:Nat,k<X.length→X[k]?≠O[k]? | .inr b=>b=false∧¬∀k:Nat,k<X.length→X[k]?≠O[k]? :=by
 refine qdz (body:=body) (fun s=> ∃k:Nat,s=(k:Int)∧k≤X.length∧∀j:Nat,j<k→X[j]?≠O[j]?) (fun s=>X.length-s.toNat)
  (fun r=>match r with | .inl _=> ∀k:Nat,k<X.length→X[k]?≠O[k]? | .inr b=>b=false∧¬∀k:Nat,k<X.length→X[k]?≠O[k]?) (fun s ⟨k,h1,h2,h3⟩=>?_) n 0 ⟨0,rfl,Nat.zero_le _,fun j hj=>by omega⟩ (by simp; omega)
 subst h1
 rw [hb]
 by_cases hk:k<X.length
 ·
  have ka:=gE hk
  have kb:=gE (show k<O.length by omega)
  rw [dT (show (k:Int)<(X.length:Int) by omega),kT,get_at rfl ka,bB,get_at rfl kb,bB]
  by_cases e:X[k]=O[k]
  ·
   rw [dT e,kT]
   exact .inr ⟨_,rfl,rfl,fun h=>h k hk (by rw [ka,kb,e])⟩
  ·
   rw [dF e,kF,qak (by omega) (by omega),bB]
   refine .inl ⟨_,rfl,⟨k+1,rfl,by omega,fun j hj=>?_⟩,by omega⟩
   rcases Nat.lt_or_ge j k with h | h
   · exact h3 j h
   ·
    have:j=k:=by omega
    subst this
    rw [ka,kb]
    exact fun h=>e (Option.some.inj h)
 ·
  rw [dF (by omega),kF]
  have:k=X.length:=by omega
  subst this
  exact .inr ⟨_,rfl,h3⟩
theorem gridValid (X O:List Int) (n:Nat) (hn:100<n): ∃r,F.qge n X O=some r∧(r=true↔VG X O):=by
 unfold F.qge
 by_cases h1:(X.length:Int)<2
 ·
  rw [dT h1,kT]
  exact ⟨false,rfl,fun h=>absurd h (by decide),fun h=>by have:=h.lo; omega⟩
 rw [dF h1,kF]
 by_cases h2:(40:Int)<(X.length:Int)
 ·
  rw [dT h2,kT]
  exact ⟨false,rfl,fun h=>absurd h (by decide),fun h=>by have:=h.hi; omega⟩
 rw [dF h2,kF]
 by_cases h3:(O.length:Int)=(X.length:Int)
 ·
  rw [dT h3,Bool.not_true,kF]
  obtain ⟨r,e1,e2⟩:=ne_loop (X:=X) (O:=O) (by omega) (by omega) n hn (F.grid_Valid_b0 n X O) (fun v=>rfl)
  rw [e1,bB]
  rcases r with v | b
  ·
   obtain ⟨r1,q1,q2⟩:=gridPerm (p:=X) n (by omega) (by omega)
   obtain ⟨r2,q3,q4⟩:=gridPerm (p:=O) n (by omega) (by omega)
   dsimp only
   rw [q1,bB]
   cases r1 with
   | false=>exact ⟨false,rfl,fun h=>absurd h (by decide),fun h=>q2.2 h.px⟩
   | true=>
    rw [kT,q3,bB]
    refine ⟨r2,rfl,fun h=>⟨by omega,by omega,by omega,q2.1 rfl,q4.1 h,e2⟩,fun h=>q4.2 h.po⟩
  ·
   obtain ⟨rfl,e3⟩:=e2
   exact ⟨false,rfl,fun h=>absurd h (by decide),fun h=>absurd h.ne e3⟩
 ·
  rw [dF h3,Bool.not_false,kT]
  exact ⟨false,rfl,fun h=>absurd h (by decide),fun h=>by have:=h.ol; omega⟩
structure Gd (n:Nat) (x o cx co:Nat→Nat):Prop where
 lo:2≤n
 hi:n≤40
 px:Pm n x cx
 po:Pm n o co
 ne: ∀k,k<n→x k≠o k
theorem VG.gd {X O:List Int} (h:VG X O): ∃n x o cx co,Gd n x o cx co∧X=li n x∧O=li n o:=by
 obtain ⟨x,cx,hx,ex⟩:=h.px
 obtain ⟨o,co,ho,eo⟩:=h.po
 rw [h.ol] at ho eo
 refine ⟨X.length,x,o,cx,co,⟨h.lo,h.hi,hx,ho,fun k hk e=>h.ne k hk ?_⟩,ex,eo⟩
 rw [ex,eo,li_at hk,li_at hk,e]
theorem Gd.vg {n:Nat} {x o cx co:Nat→Nat} (g:Gd n x o cx co):VG (li n x) (li n o):=by
 refine ⟨by rw [li_len]; exact g.lo,by rw [li_len]; exact g.hi,by rw [li_len,li_len],isP_li g.px,isP_li g.po,fun k hk=>?_⟩
 rw [li_len] at hk
 rw [li_at hk,li_at hk]
 intro e
 have:=Option.some.inj e
 exact g.ne k hk (by omega)
section
variable {n : Nat} {x o cx co : Nat → Nat} (g : Gd n x o cx co)
include g
theorem Gd.xl {k:Nat} (h:k<n):x k<n:=g.px.lt h
theorem Gd.ol {k:Nat} (h:k<n):o k<n:=g.po.lt h
theorem Gd.cxl {k:Nat} (h:k<n):cx k<n:=g.px.symm.lt h
theorem Gd.col {k:Nat} (h:k<n):co k<n:=g.po.symm.lt h
theorem Gd.cne {k:Nat} (h:k<n):cx k≠co k:=fun e=>g.ne (cx k) (g.cxl h) (by rw [g.px.fg]; rw [e,g.po.fg])
end
open Gar
def cr (x o cx co:Nat→Nat) (i j:Nat):Bool:=decide (min (x i) (o i)<j)&&decide (j<max (x i) (o i))&&(decide (min (cx j) (co j)<i)&&decide (i<max (cx j) (co j)))
def crl (n:Nat) (x o cx co:Nat→Nat):List (Nat×Nat):=(List.range n).flatMap fun i=>((List.range n).filter (cr x o cx co i)).map fun j=>(i,j)
def ip (p:Nat×Nat):Int×Int:=((p.1:Int),(p.2:Int))
theorem qfu {P:Nat→Bool} {a:Nat} (h: ∀j,j<a→P j=false):(List.range a).filter P=[]:=by
 rw [List.filter_eq_nil_iff]
 intro j hj
 rw [h j (List.mem_range.1 hj)]
 decide
theorem qgk {P:Nat→Bool} {a:Nat}: ∀{b:Nat},a≤b→(∀j,a≤j→j<b→P j=false)→(List.range b).filter P=(List.range a).filter P
 | 0,h,_=>by
  have:a=0:=by omega
  subst this; rfl
 | b+1,h,hP=>by
  rcases Nat.lt_or_ge a (b+1) with hl | hl
  ·
   rw [List.range_succ,List.filter_append,qgk (b:=b) (by omega) (fun j h1 h2=>hP j h1 (by omega))]
   simp [hP b (by omega) (by omega)]
  ·
   have:a=b+1:=by omega
   subst this; rfl
theorem range_step {P:Nat→Bool} (k:Nat):(List.range (k+1)).filter P=(List.range k).filter P++(if P k=true then [k] else []):=by
 rw [List.range_succ,List.filter_append]
 by_cases h:P k=true
 · rw [if_pos h]; simp [h]
 · rw [if_neg h]; simp [h]
section
variable {N : Nat} {f g : Nat → Nat}
theorem inv_loop (h:Pm N f g) (hl:N≤1000) (n:Nat) (hn:N<n) (body:Int×List Int→Option ((Int×List Int)⊕(Int×List Int)))
  (hb: ∀v q,body (v,q)=cond (decide (v<((li N f).length:Int))) ((Ev.get (li N f) v).bind fun x26=>(Ev.get q x26).bind fun x32=>(chk (v+1)).bind fun z39=>some (.inl (z39,(q.set x26.toNat v)))) (some (.inr (v,q)))):
  loopN n body (0,List.replicate N (0:Int))=some ((N:Int),li N g):=by
 have:=qbp (body:=body) (fun k=>((k:Int),li N (fun y=>if g y<k then g y else 0))) N (r:=((N:Int),li N g)) (fun k hk=>by
  rw [hb]
  have hfk:=h.lt hk
  rw [li_len,dT (by omega),kT,qeg (by omega) (by omega),bB,show (k:Int).toNat=k by omega,qeg (by omega) (by omega),bB,qak (by omega) (by omega),bB,show ((f k:Nat):Int).toNat=f k by omega,li_set]
  congr 3
  apply li_ext
  intro y hy
  by_cases e:y=f k
  · subst e; rw [if_pos rfl,h.gf,if_pos (by omega)]
  ·
   rw [if_neg e]
   have:g y≠k:=fun e2=>e (by rw [←e2,h.fg])
   by_cases e3:g y<k
   · rw [if_pos e3,if_pos (by omega)]
   · rw [if_neg e3,if_neg (by omega)]) (by
  rw [hb,li_len,dF (by omega),kF]
  congr 3
  apply li_ext
  intro y hy
  rw [if_pos (h.symm.lt hy)]) n hn
 have e0:List.replicate N (0:Int)=li N (fun y=>if g y<0 then g y else 0):=by
  rw [li_rep]; exact li_ext fun y _=>(if_neg (by omega)).symm
 rw [e0]
 exact this
theorem gridColumns (h:Pm N f g) (hl:N≤1000) (n:Nat) (hn:N<n):F.qgb n (li N f)=some (li N g):=by
 unfold F.qgb
 rw [li_len,pos_ok (by omega) (by omega),bB,show ((N:Int)).toNat=N by omega,inv_loop h hl n hn _ (fun v q=>rfl),bB]
theorem linkInverse (h:Pm N f g) (hl:N≤1000) (n:Nat) (hn:N<n):F.qdw n (li N f)=some (li N g):=by
 unfold F.qdw
 rw [li_len,pos_ok (by omega) (by omega),bB,show ((N:Int)).toNat=N by omega,inv_loop h hl n hn _ (fun v q=>rfl),bB]
theorem columnsAt {v:Int} (h0:0≤v) (h1:v<N) (n:Nat):F.qfa n v (li N g)=some (g v.toNat:Int):=by
 unfold F.qfa
 rw [qeg h0 h1,bB]
end
section
variable {n : Nat} {x o cx co : Nat → Nat} (g : Gd n x o cx co)
include g
omit g in
theorem Gd.row_len (g:Gd n x o cx co) (i k:Nat):((List.range k).filter (cr x o cx co i)).length≤k:=by
 have:=List.length_filter_le (cr x o cx co i) (List.range k)
 simpa using this
theorem Gd.crl_take (i:Nat):((List.range i).flatMap fun i=>((List.range n).filter (cr x o cx co i)).map fun j=>(i,j)).length≤40*i:=by
 induction i with
 | zero=>simp
 | succ i ih=>
  have h1:=g.row_len i n
  have h2:=g.hi
  rw [List.range_succ,List.flatMap_append,List.length_append]
  simp only [List.flatMap_cons,List.flatMap_nil,List.append_nil,List.length_map]
  omega
theorem Gd.crl_len:(crl n x o cx co).length≤1600:=by
 have:=g.crl_take n
 have:=g.hi
 unfold crl; omega
theorem Gd.gridCrossings (m:Nat) (hm:2000<m):F.qfy m (li n x) (li n o)=some ((crl n x o cx co).map ip):=by
 obtain ⟨r,e1,e2⟩:=gridValid (li n x) (li n o) m (by omega)
 have hv:=e2.2 g.vg
 have hn:=g.hi
 unfold F.qfy
 rw [e1,bB,hv,Bool.not_true,kF,gridColumns g.px (by omega) m (by omega),bB,gridColumns g.po (by omega) m (by omega),bB]
 have key:=qbp (body:=F.qem m (li n x) (li n o) (li n cx) (li n co)) (fun k=>(((List.range k).flatMap fun i=>((List.range n).filter (cr x o cx co i)).map fun j=>(i,j)).map ip,(k:Int))) n
  (r:=((crl n x o cx co).map ip,(n:Int))) (fun i hi=>?_) ?_ m (by omega)
 · rw [show ((([]:List (Int×Int))),(0:Int))=(((List.range 0).flatMap fun i=>((List.range n).filter (cr x o cx co i)).map fun j=>(i,j)).map ip,((0:Nat):Int)) from rfl,key,bB]
 ·
  have h1:=g.xl hi
  have h2:=g.ol hi
  have h3:=g.ne i hi
  have hT:=g.crl_take i
  generalize hTT:(((List.range i).flatMap fun i=>((List.range n).filter (cr x o cx co i)).map fun j=>(i,j)).map ip)=T
  have hTl:T.length≤1600:=by rw [←hTT,List.length_map]; omega
  unfold F.qem
  dsimp only
  rw [li_len,dT (show (i:Int)<(n:Int) by omega),kT,qeg (by omega) (by omega),bB,qeg (by omega) (by omega),bB,show (i:Int).toNat=i by omega,qak (by omega) (by omega),bB]
  have inner:=qbp (body:=F.qel m (li n x) (li n o) (li n cx) (li n co) (i:Int)) (fun k=>(T++((List.range (min (x i) (o i)+1+k)).filter (cr x o cx co i)).map fun j=>ip (i,j),((min (x i) (o i)+1+k:Nat):Int))) (max (x i) (o i)-(min (x i) (o i)+1))
   (r:=(T++((List.range n).filter (cr x o cx co i)).map fun j=>ip (i,j),((max (x i) (o i):Nat):Int))) (fun k hk=>?_) ?_ m (by omega)
  ·
   have e0:(List.range (min (x i) (o i)+1)).filter (cr x o cx co i)=[]:=qfu fun j hj=>by
    unfold cr; rw [dF (by omega)]; rfl
   rw [Nat.add_zero,e0,List.map_nil,List.append_nil] at inner
   rw [show min ((x i:Nat):Int) ((o i:Nat):Int)+1=((min (x i) (o i)+1:Nat):Int) by omega,inner,bB]
   dsimp only
   rw [qak (by omega) (by omega),bB,List.range_succ,List.flatMap_append,List.map_append,hTT]
   simp only [List.flatMap_cons,List.flatMap_nil,List.append_nil,List.map_map]
   rfl
  ·
   generalize hj:min (x i) (o i)+1+k=j
   have hjn:j<n:=by omega
   have h4:=g.row_len i j
   have h5:=g.cxl hjn
   have h6:=g.col hjn
   unfold F.qel
   dsimp only
   rw [qeg (by omega) (by omega),bB,qeg (by omega) (by omega),bB,show (i:Int).toNat=i by omega,dT (show ((j:Nat):Int)<max ((x i:Nat):Int) ((o i:Nat):Int) by omega),kT,
    columnsAt (by omega) (by omega),bB,columnsAt (by omega) (by omega),bB,show (j:Int).toNat=j by omega,show min (x i) (o i)+1+(k+1)=j+1 by omega,range_step]
   by_cases c1:min (cx j) (co j)<i
   ·
    rw [dT (show min ((cx j:Nat):Int) ((co j:Nat):Int)<(i:Int) by omega),kT]
    by_cases c2:i<max (cx j) (co j)
    ·
     have hc:cr x o cx co i j=true:=by
      unfold cr; rw [dT (by omega),dT (by omega),dT c1,dT c2]; rfl
     rw [dT (show (i:Int)<max ((cx j:Nat):Int) ((co j:Nat):Int) by omega),kT,qct (by simp only [List.length_append,List.length_map,List.length_cons,List.length_nil]; omega),bB,qak (by omega) (by omega),bB,if_pos hc,List.map_append,List.append_assoc]
     rfl
    ·
     have hc: ¬cr x o cx co i j=true:=by
      unfold cr; rw [dF c2,Bool.and_false,Bool.and_false]; decide
     rw [dF (show¬(i:Int)<max ((cx j:Nat):Int) ((co j:Nat):Int) by omega),kF,qak (by omega) (by omega),bB,if_neg hc,List.append_nil]
     rfl
   ·
    have hc: ¬cr x o cx co i j=true:=by
     unfold cr; rw [dF c1,Bool.false_and,Bool.and_false]; decide
    rw [dF (show¬min ((cx j:Nat):Int) ((co j:Nat):Int)<(i:Int) by omega),kF,qak (by omega) (by omega),bB,if_neg hc,List.append_nil]
    rfl
  ·
   have em:min (x i) (o i)+1+(max (x i) (o i)-(min (x i) (o i)+1))=max (x i) (o i):=by omega
   unfold F.qel
   dsimp only
   rw [em,qeg (by omega) (by omega),bB,qeg (by omega) (by omega),bB,show (i:Int).toNat=i by omega,dF (show¬((max (x i) (o i):Nat):Int)<max ((x i:Nat):Int) ((o i:Nat):Int) by omega),kF]
   rw [qgk (show max (x i) (o i)≤n by omega) (fun j h1 h2=>by unfold cr; rw [dF (show¬j<max (x i) (o i) by omega),Bool.and_false,Bool.false_and])]
 ·
  unfold F.qem
  dsimp only
  rw [li_len,dF (by omega),kF]
  rfl
