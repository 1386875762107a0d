import Derived.Test.YtlkmcbgkohpmiaaPEq
set_option linter.all false
namespace Go.Proofs.Ytlkmcbgkohpmiaa
open Ev
namespace Gar
def li (N:Nat) (f:Nat→Nat):List Int:=(List.range N).map fun k=>(f k:Int)
section
variable {N : Nat} {f g : Nat → Nat}
@[simp] theorem li_len:(li N f).length=N:=by simp [li]
theorem li_at {k:Nat} (h:k<N):(li N f)[k]? =some (f k:Int):=by simp [li,h]
theorem li_none {k:Nat} (h:N≤k):(li N f)[k]? =none:=by simp [li]; omega
theorem get_li {z:Int} (h0:0≤z) (h1:z<N):Ev.get (li N f) z=some (f z.toNat:Int):=by
 unfold Ev.get; rw [if_pos h0,li_at (by omega)]
theorem qez (h: ∀k,k<N→f k=g k):li N f=li N g:=by
 unfold li; apply List.map_congr_left; intro k hk; rw [List.mem_range] at hk; rw [h k hk]
theorem li_eq (hf: ∀k,N≤k→f k=k) (hg: ∀k,N≤k→g k=k) (h:li N f=li N g):f=g:=by
 funext k
 rcases Nat.lt_or_ge k N with hk | hk
 ·
  have:=congrArg (·[k]?) h
  simp only [li_at hk] at this
  injection this with this; omega
 · rw [hf k hk,hg k hk]
theorem li_set (k v:Nat):(li N f).set k (v:Int)=li N (fun j=>if j=k then v else f j):=by
 apply List.ext_getElem?
 intro j
 rw [List.getElem?_set]
 by_cases h:k=j
 ·
  subst h
  rw [if_pos rfl,li_len]
  by_cases h1:k<N
  · rw [if_pos h1,li_at h1,if_pos rfl]
  · rw [if_neg h1,li_none (by omega)]
 ·
  rw [if_neg h]
  by_cases h1:j<N
  · rw [li_at h1,li_at h1,if_neg (Ne.symm h)]
  · rw [li_none (by omega),li_none (by omega)]
theorem li_sw {i:Nat} (h1:1≤i) (h2:i<N):((li N f).set (i-1) (f i:Int)).set i (f (i-1):Int)=li N (fun k=>f (tr i k)):=by
 rw [li_set,li_set]
 apply qez
 intro k hk
 by_cases e1:k=i
 · subst e1; rw [if_pos rfl,tr_r h1]
 ·
  rw [if_neg e1]
  by_cases e2:k=i-1
  · subst e2; rw [if_pos rfl,tr_l h1]
  · rw [if_neg e2,tr_o (by omega) e1]
theorem li_rep:List.replicate N (0:Int)=li N (fun _=>0):=by
 apply List.ext_getElem?
 intro j
 by_cases h:j<N
 · rw [li_at h]; simp [h]
 · rw [li_none (by omega)]; simp; omega
def fill (f:Nat→Nat) (k j:Nat):Nat:=if j<k then f j else 0
theorem li_fill {k:Nat}:(li N (fill f k)).set k (f k:Int)=li N (fill f (k+1)):=by
 rw [li_set]
 apply qez
 intro j hj
 unfold fill
 by_cases h:j=k
 · subst h; rw [if_pos rfl,if_pos (by omega)]
 ·
  rw [if_neg h]
  by_cases h1:j<k
  · rw [if_pos h1,if_pos (by omega)]
  · rw [if_neg h1,if_neg (by omega)]
theorem li_full:li N (fill f N)=li N f:=qez fun k hk=>if_pos hk
theorem li_empty:List.replicate N (0:Int)=li N (fill f 0):=by
 rw [li_rep]; exact qez fun k _=>(if_neg (by omega)).symm
theorem pigeon: ∀(N:Nat) (f:Nat→Nat),(∀k,k<N→f k<N)→(∀j k,j<N→k<N→f j=f k→j=k)→∀y,y<N→∃k,k<N∧f k=y
 | 0,_,_,_,y,hy=>absurd hy (Nat.not_lt_zero _)
 | N+1,f,h,inj,y,hy=>by
  have hm:f N<N+1:=h N (by omega)
  have ih:=pigeon N (fun k=>if f k=N then f N else f k) (fun k hk=>by
   by_cases e:f k=N
   ·
    simp only [e,if_true]
    have:f N≠N:=fun e2=>by have:=inj k N (by omega) (by omega) (by omega); omega
    omega
   ·
    simp only [e,if_false]
    have:=h k (by omega); omega) (fun j k hj hk e=>by
   by_cases e1:f j=N<;>by_cases e2:f k=N<;>simp only [e1,e2,if_true,if_false] at e
   · exact inj j k (by omega) (by omega) (by omega)
   · have:=inj N k (by omega) (by omega) e; omega
   · have:=inj j N (by omega) (by omega) e; omega
   · exact inj j k (by omega) (by omega) e)
  by_cases hy1:y=f N
  · exact ⟨N,by omega,hy1.symm⟩
  by_cases hy2:y=N
  ·
   obtain ⟨k,hk,e⟩:=ih (f N) (by omega)
   by_cases e1:f k=N
   · exact ⟨k,by omega,by omega⟩
   ·
    simp only [e1,if_false] at e
    have:=inj k N (by omega) (by omega) e; omega
  ·
   obtain ⟨k,hk,e⟩:=ih y (by omega)
   by_cases e1:f k=N
   · simp only [e1,if_true] at e; omega
   ·
    simp only [e1,if_false] at e
    exact ⟨k,by omega,e⟩
def IsP (p:List Int):Prop:= ∃f g,Pm p.length f g∧p=li p.length f
theorem isP_of {p:List Int} (hr: ∀x∈p,0≤x∧x<p.length) (hn:p.Nodup):IsP p:=by
 have hf: ∀k,k<p.length→p[k]? =some (((p.getD k 0).toNat:Nat):Int):=fun k hk=>by
  have h1:p[k]? =some p[k]:=gE hk
  have h2:=hr p[k] (List.getElem_mem hk)
  rw [h1,List.getD_eq_getElem?_getD,h1,Option.getD_some,show ((p[k].toNat:Nat):Int)=p[k] by omega]
 have hlt: ∀k,k<p.length→(p.getD k 0).toNat<p.length:=fun k hk=>by
  have h1:=hf k hk
  have h2:=hr _ (List.mem_of_getElem? h1)
  omega
 have hinj: ∀j k,j<p.length→k<p.length→(p.getD j 0).toNat=(p.getD k 0).toNat→j=k:=fun j k hj hk e=>by
  have h1:=hf j hj; have h2:=hf k hk
  rw [e,←h2] at h1
  exact (List.getElem?_inj hj hn).1 h1
 have hs:=pigeon p.length _ hlt hinj
 have hg: ∀y,∃k,(y<p.length→k<p.length∧(p.getD k 0).toNat=y)∧(¬y<p.length→k=y):=fun y=>by
  by_cases h:y<p.length
  ·
   obtain ⟨k,h1,h2⟩:=hs y h
   exact ⟨k,fun _=>⟨h1,h2⟩,fun h'=>absurd h h'⟩
  · exact ⟨y,fun h'=>absurd h' h,fun _=>rfl⟩
 obtain ⟨g,hg⟩:=Classical.skolem.1 hg
 refine ⟨fun k=>if k<p.length then (p.getD k 0).toNat else k,g,⟨fun k hk=>if_neg (by omega),fun k=>?_,fun y=>?_⟩,?_⟩
 ·
  by_cases h:k<p.length
  ·
   simp only [h,if_true]
   have h2:=(hg (p.getD k 0).toNat).1 (hlt k h)
   exact hinj _ _ h2.1 h h2.2
  ·
   simp only [h,if_false]
   exact (hg k).2 h
 ·
  by_cases h:y<p.length
  ·
   have h2:=(hg y).1 h
   simp only [h2.1,if_true,h2.2]
  ·
   have h2:=(hg y).2 h
   simp only [h2,h,if_false]
 ·
  apply List.ext_getElem?
  intro k
  by_cases h:k<p.length
  · rw [hf k h,li_at h,if_pos h]
  · rw [List.getElem?_eq_none (by omega),li_none (by omega)]
theorem IsP.nodup {p:List Int} (h:IsP p):p.Nodup:=by
 obtain ⟨f,g,hp,e⟩:=h
 rw [e]
 unfold li
 rw [List.Nodup,List.pairwise_map]
 refine List.Pairwise.imp ?_ List.nodup_range
 intro a b hab e
 exact hab (hp.inj (by omega))
theorem IsP.rng {p:List Int} (h:IsP p): ∀x∈p,0≤x∧x<p.length:=by
 obtain ⟨f,g,hp,e⟩:=h
 intro x hx
 rw [e] at hx
 simp only [li,List.mem_map,List.mem_range] at hx
 obtain ⟨k,hk,rfl⟩:=hx
 have:=hp.lt hk; omega
theorem isP_li (h:Pm N f g):IsP (li N f):=⟨f,g,by rw [li_len]; exact h,by rw [li_len]⟩
/-! The program's functions on permutations. -/
theorem permValid {p:List Int} (n:Nat) (hn:p.length<n) (hl:p.length≤100000000): ∃r,F.qgs n p=some r∧(r=true↔IsP p):=by
 unfold F.qgs
 rw [qep (by omega) (by omega),bB]
 obtain ⟨r,hr1,hr2⟩:=qby (body:=F.qgv n p) (fun s=> ∃k:Nat,s.1=(k:Int)∧k≤p.length∧s.2.length=p.length∧(∀x∈p.take k,0≤x∧x<p.length)∧(p.take k).Nodup∧∀x:Nat,x<p.length→(s.2[x]? =some true↔(x:Int)∈p.take k))
  (fun s=>p.length-s.1.toNat) (fun r=>match r with | .inl _=>IsP p | .inr b=>b=false∧¬IsP p) (fun s ⟨k,h1,h2,h3,h4,h5,h6⟩=>by
   obtain ⟨i,seen⟩:=s
   dsimp only at h1 h3 h6
   subst h1
   unfold F.qgv
   dsimp only
   by_cases hlt:(k:Int)<(p.length:Int)
   ·
    rw [dT hlt,kT,qbe,gE (by omega:k<p.length),bB]
    have hmem:p[k]'(by omega)∈p:=List.getElem_mem _
    by_cases c1:p[k]'(by omega)<0
    · rw [dT c1,kT]; right; exact ⟨_,rfl,rfl,fun hp=>by have:=(hp.rng _ hmem).1; omega⟩
    rw [dF c1,kF]
    by_cases c2:(p.length:Int)≤p[k]'(by omega)
    · rw [dT c2,kT]; right; exact ⟨_,rfl,rfl,fun hp=>by have:=(hp.rng _ hmem).2; omega⟩
    rw [dF c2,kF]
    have hk3:(p[k]'(by omega)).toNat<seen.length:=by omega
    rw [get_ok (by omega) hk3,bB]
    have h7:=h6 (p[k]'(by omega)).toNat (by omega)
    rw [gE hk3,show (((p[k]'(by omega)).toNat:Nat):Int)=p[k]'(by omega) by omega] at h7
    have ht:p.take (k+1)=p.take k++[p[k]'(by omega)]:=by rw [List.take_add_one,gE (by omega:k<p.length)]; rfl
    by_cases c3:seen[(p[k]'(by omega)).toNat]=true
    ·
     rw [c3,kT]; right
     refine ⟨_,rfl,rfl,fun hp=>?_⟩
     have h8:=h7.1 (by rw [c3])
     have h9:=hp.nodup
     have h10:(p.take (k+1)).Nodup:=(List.take_sublist _ _).nodup h9
     rw [ht,List.nodup_append] at h10
     exact h10.2.2 _ h8 _ (by simp) rfl
    ·
     rw [Bool.not_eq_true] at c3
     rw [c3,kF,bB,qaj (by omega) (by omega),bB]
     left
     have h8:p[k]'(by omega)∉p.take k:=fun hm=>by have:=h7.2 hm; rw [c3] at this; cases this
     refine ⟨_,rfl,⟨k+1,by simp,by omega,by simpa using h3,?_,?_,?_⟩,by dsimp only; omega⟩
     ·
      intro x hx
      rw [ht] at hx
      rcases List.mem_append.1 hx with h9 | h9
      · exact h4 x h9
      · simp only [List.mem_singleton] at h9; subst h9; omega
     ·
      rw [ht,List.nodup_append]
      exact ⟨h5,by simp,fun a ha b hb e=>by simp only [List.mem_singleton] at hb; subst hb; subst e; exact h8 ha⟩
     ·
      intro x hx
      dsimp only
      rw [ht,List.mem_append,List.mem_singleton,List.getElem?_set]
      by_cases e:(p[k]'(by omega)).toNat=x
      ·
       rw [if_pos e,if_pos hk3]
       exact ⟨fun _=>.inr (by omega),fun _=>rfl⟩
      ·
       rw [if_neg e,h6 x hx]
       exact ⟨fun h=>.inl h,fun h=>h.resolve_right (by omega)⟩
   ·
    rw [dF hlt,kF]; right
    obtain rfl:k=p.length:=by omega
    rw [List.take_length] at h4 h5
    exact ⟨_,rfl,isP_of h4 h5⟩) n (0,List.replicate (p.length:Int).toNat false) ⟨0,rfl,by omega,by simp,by simp,by simp,fun x hx=>by simp [List.getElem?_replicate,hx]⟩ (by dsimp only; omega)
 rw [hr1,bB]
 rcases r with s | b
 · exact ⟨true,rfl,⟨fun _=>hr2,fun _=>rfl⟩⟩
 ·
  obtain ⟨rfl,h⟩:=hr2
  exact ⟨false,rfl,⟨fun h'=>absurd h' (by decide),fun h'=>absurd h' h⟩⟩
theorem permValid_li (h:Pm N f g) (n:Nat) (hn:N<n) (hl:N≤1000):F.qgs n (li N f)=some true:=by
 obtain ⟨r,h1,h2⟩:=permValid (p:=li N f) n (by rw [li_len]; exact hn) (by rw [li_len]; omega)
 rw [h1,h2.2 (isP_li h)]
theorem permInverse (h:Pm N f g) (n:Nat) (hn:N<n) (hl:N≤1000):F.qgj n (li N f)=some (li N g):=by
 unfold F.qgj
 rw [permValid_li h n hn hl,bB,Bool.not_true,kF,qep (by rw [li_len]; omega) (by rw [li_len]; omega),bB,li_len,show ((N:Int)).toNat=N by omega]
 have:=qax (body:=F.qet n (li N f)) (fun k=>((k:Int),li N (fun y=>if g y<k then g y else 0))) N (r:=((N:Int),li N g)) (fun k hk=>by
  unfold F.qet
  dsimp only
  have hfk:=h.lt hk
  rw [li_len,dT (by omega),kT,get_li (by omega) (by omega),bB,show (k:Int).toNat=k by omega,get_li (by omega) (by omega),bB,qaj (by omega) (by omega),bB,show ((f k:Nat):Int).toNat=f k by omega,li_set]
  congr 3
  apply qez
  intro y hy
  by_cases e:y=f k
  · subst e; rw [if_pos rfl,h.gf,if_pos (by omega)]
  ·
   rw [if_neg e]
   have:g y≠k:=fun e2=>e (by rw [←e2,h.fg])
   by_cases e3:g y<k
   · rw [if_pos e3,if_pos (by omega)]
   · rw [if_neg e3,if_neg (by omega)]) (by
  unfold F.qet
  dsimp only
  rw [li_len,dF (by omega),kF]
  congr 3
  apply qez
  intro y hy
  rw [if_pos (h.symm.lt hy)]) n hn
 have e0:List.replicate N (0:Int)=li N (fun y=>if g y<0 then g y else 0):=by
  rw [li_rep]; exact qez fun y _=>(if_neg (by omega)).symm
 rw [e0]
 rw [show ((0:Int),li N (fun y=>if g y<0 then g y else 0))=((((0:Nat)):Int),li N (fun y=>if g y<0 then g y else 0)) from rfl,this,bB]
end
theorem equalP {a b:List Int} (n:Nat) (hn:a.length<n) (hl:a.length≤1000): ∃r,F.qcb n a b=some r∧(r=true↔a=b):=by
 unfold F.qcb
 by_cases h:(a.length:Int)=(b.length:Int)
 ·
  rw [dT h,Bool.not_true,kF]
  have hab:a.length=b.length:=by omega
  obtain ⟨r,hr1,hr2⟩:=qby (body:=F.qcg n a b) (fun s=> ∃k:Nat,s=(k:Int)∧k≤a.length∧a.take k=b.take k) (fun s=>a.length-s.toNat)
   (fun r=>match r with | .inl _=>a=b | .inr q=>q=false∧a≠b) (fun s ⟨k,h1,h2,h3⟩=>by
    subst h1
    unfold F.qcg
    dsimp only
    by_cases hlt:(k:Int)<(a.length:Int)
    ·
     have k1:k<a.length:=by omega
     have k2:k<b.length:=by omega
     rw [dT hlt,kT,qbe,gE k1,bB,qbe,gE k2,bB]
     by_cases e:a[k]=b[k]
     ·
      rw [dT e,Bool.not_true,kF,qaj (by omega) (by omega),bB]
      left
      refine ⟨_,rfl,⟨k+1,by simp,by omega,?_⟩,by omega⟩
      rw [List.take_add_one,List.take_add_one,h3,gE k1,gE k2,e]
     ·
      rw [dF e,Bool.not_false,kT]
      right
      refine ⟨_,rfl,rfl,fun hab=>?_⟩
      have h4:a[k]? =b[k]? :=by rw [hab]
      rw [gE k1,gE k2] at h4
      injection h4 with h4
      exact e h4
    ·
     rw [dF hlt,kF]
     right
     obtain rfl:k=a.length:=by omega
     rw [List.take_length,hab,List.take_length] at h3
     exact ⟨_,rfl,h3⟩) n 0 ⟨0,rfl,by omega,by simp⟩ (by simpa using hn)
  rw [hr1,bB]
  rcases r with s | q
  · exact ⟨true,rfl,⟨fun _=>hr2,fun _=>rfl⟩⟩
  ·
   obtain ⟨rfl,h5⟩:=hr2
   exact ⟨false,rfl,⟨fun h'=>absurd h' (by decide),fun h'=>absurd h' h5⟩⟩
 ·
  rw [dF h,Bool.not_false,kT]
  exact ⟨false,rfl,⟨fun h'=>absurd h' (by decide),fun h'=>absurd (by rw [h']) h⟩⟩
section
variable {N : Nat}
end
section
variable {N : Nat}
end
section
variable {N : Nat}
/-! The program's functions. -/
end
section
variable {N : Nat}
end
end Gar
end Go.Proofs.Ytlkmcbgkohpmiaa

set_option linter.all false
namespace Go.Proofs.Ytlkmcbgkohpmiaa
namespace Gar
inductive BE (N:Nat):List Int→List Int→Prop
 | refl (w):BE N w w
 | symm {u v}:BE N u v→BE N v u
 | trans {u v w}:BE N u v→BE N v w→BE N u w
 | far (a b) {i j:Nat}:1≤i→i<N→1≤j→j<N→i+1<j→BE N (a++(i:Int)::(j:Int)::b) (a++(j:Int)::(i:Int)::b)
 | braid (a b) {i:Nat}:1≤i→i+1<N→BE N (a++(i:Int)::((i+1:Nat):Int)::(i:Int)::b) (a++((i+1:Nat):Int)::(i:Int)::((i+1:Nat):Int)::b)
 | pn (a b) {i:Nat}:1≤i→i<N→BE N (a++(i:Int)::(-(i:Int))::b) (a++b)
 | np (a b) {i:Nat}:1≤i→i<N→BE N (a++(-(i:Int))::(i:Int)::b) (a++b)
def pos (w:List Nat):List Int:=w.map fun (i:Nat)=>(i:Int)
section
variable {N : Nat}
def neg (w:List Int):List Int:=(w.map fun x=>-x).reverse
theorem neg_app (u v:List Int):neg (u++v)=neg v++neg u:=by simp [neg]
theorem neg_neg (u:List Int):neg (neg u)=u:=by
 simp only [neg,List.map_reverse,List.reverse_reverse,List.map_map]
 conv=>rhs; rw [←List.map_id' u]
 apply List.map_congr_left
 intro x _
 show- -x=x
 omega
def Rg (N:Nat) (w:List Int):Prop:= ∀x∈w,x≠0∧-(N:Int)<x∧x<N
/-! The half twist. -/
def dl (N k:Nat):Nat:=if k<N then N-1-k else k
variable {H : List Nat} (hH : Wd N (dl N) H)
include hH
omit hH
include hH
omit hH
/-! The words of lists of permutations. -/
inductive Wl (N:Nat):List (Nat→Nat)→List Nat→Prop
 | nil:Wl N [] []
 | cons {f fs w v}:Wd N f w→Wl N fs v→Wl N (f::fs) (w++v)
end
end Gar
end Go.Proofs.Ytlkmcbgkohpmiaa

set_option linter.all false
namespace Go.Proofs.Ytlkmcbgkohpmiaa
namespace Gar
/-! Words of gaps,up to neighbours that cancel. -/
def pushG (a:Nat):List Nat→List Nat
 | []=>[a]
 | b::t=>if a=b then t else a::b::t
theorem pushG_eq (a:Nat) (t:List Nat):pushG a (a::t)=t:=if_pos rfl
theorem qfy {a b:Nat} (h:a≠b) (t:List Nat):pushG a (b::t)=a::b::t:=if_neg h
def rd:List Nat→List Nat
 | []=>[]
 | a::l=>pushG a (rd l)
def Rdc:List Nat→Prop
 | []=>True
 | [_]=>True
 | a::b::t=>a≠b∧Rdc (b::t)
theorem Rdc.tail {a:Nat} {l:List Nat} (h:Rdc (a::l)):Rdc l:=by
 cases l with
 | nil=>trivial
 | cons b t=>exact h.2
theorem Rdc.push {l:List Nat} (h:Rdc l) (a:Nat):Rdc (pushG a l):=by
 cases l with
 | nil=>trivial
 | cons b t=>
  by_cases e:a=b
  · subst e; rw [pushG_eq]; exact h.tail
  · rw [qfy e]; exact ⟨e,h⟩
theorem rd_rdc (l:List Nat):Rdc (rd l):=by
 induction l with
 | nil=>trivial
 | cons a l ih=>exact ih.push a
theorem rd_of {l:List Nat} (h:Rdc l):rd l=l:=by
 induction l with
 | nil=>rfl
 | cons a l ih=>
  rw [rd,ih h.tail]
  cases l with
  | nil=>rfl
  | cons b t=>rw [qfy h.1]
theorem push_push {l:List Nat} (h:Rdc l) (a:Nat):pushG a (pushG a l)=l:=by
 cases l with
 | nil=>simp [pushG]
 | cons b t=>
  by_cases e:a=b
  ·
   subst e
   rw [pushG_eq]
   cases t with
   | nil=>rfl
   | cons c t=>rw [qfy h.1]
  · rw [qfy e,pushG_eq]
theorem rd_app (u v:List Nat):rd (u++v)=rd (u++rd v):=by
 induction u with
 | nil=>simp [rd_of (rd_rdc v)]
 | cons a u ih=>simp only [List.cons_append,rd,ih]
theorem rd_cancel (u v:List Nat) (a:Nat):rd (u++a::a::v)=rd (u++v):=by
 rw [rd_app u (a::a::v),rd_app u v]
 congr 2
 exact push_push (rd_rdc v) a
def GE (u v:List Nat):Prop:=rd u=rd v
theorem GE.refl (u):GE u u:=rfl
theorem GE.symm {u v} (h:GE u v):GE v u:=Eq.symm h
theorem GE.trans {u v w} (h:GE u v) (k:GE v w):GE u w:=Eq.trans h k
theorem GE.left {u v} (h:GE u v) (a:List Nat):GE (a++u) (a++v):=by unfold GE at *; rw [rd_app a u,rd_app a v,h]
theorem rd_rdapp (u v:List Nat):rd (rd u++v)=rd (u++v):=by
 induction u with
 | nil=>rfl
 | cons a u ih=>
  simp only [rd,List.cons_append]
  rw [←ih]
  have hu:=rd_rdc u
  generalize rd u=w at hu
  cases w with
  | nil=>rfl
  | cons b t=>
   by_cases e:a=b
   ·
    subst e
    rw [pushG_eq]
    simp only [List.cons_append,rd]
    exact (push_push (rd_rdc _) a).symm
   · rw [qfy e]; rfl
theorem GE.right {u v} (h:GE u v) (a:List Nat):GE (u++a) (v++a):=by unfold GE at *; rw [←rd_rdapp u a,←rd_rdapp v a,h]
theorem GE.rd (u):GE (rd u) u:=rd_of (rd_rdc u)
theorem GE.cancel (u v:List Nat) (a:Nat):GE (u++a::a::v) (u++v):=rd_cancel u v a
theorem GE.app {u v u' v'} (h:GE u v) (k:GE u' v'):GE (u++u') (v++v'):=(h.right u').trans (k.left v)

/-! How letters turn gaps; e tells whether the gap is crossed downwards. -/
def img (x:Int) (e:Bool) (h:Nat):List Nat:=
 if h=x.natAbs then (if (decide (0<x) == e)=true then [h-1,h,h+1] else [h+1,h,h-1]) else [h]
def sub (x:Int):Bool→List Nat→List Nat
 | _,[]=>[]
 | e,h::t=>img x e h++sub x (!e) t
def par (e:Bool) (n:Nat):Bool:=if n%2=0 then e else !e
theorem par_succ (e:Bool) (n:Nat):par e (n+1)=par (!e) n:=by
 unfold par
 by_cases h:n%2=0
 · rw [if_pos h,if_neg (by omega)]
 · rw [if_neg h,if_pos (by omega),Bool.not_not]
theorem sub_app (x:Int) (e:Bool) (u v:List Nat):sub x e (u++v)=sub x e u++sub x (par e u.length) v:=by
 induction u generalizing e with
 | nil=>simp [sub,par]
 | cons h t ih=>simp only [List.cons_append,sub,ih,List.length_cons,par_succ,List.append_assoc]
theorem img_len (x:Int) (e:Bool) (h:Nat):(img x e h).length%2=1:=by
 unfold img; split
 · split<;>simp
 · simp
theorem sub_len (x:Int) (e:Bool) (u:List Nat):(sub x e u).length%2=u.length%2:=by
 induction u generalizing e with
 | nil=>rfl
 | cons h t ih=>simp only [sub,List.length_append,List.length_cons]; have:=ih (!e); have:=img_len x e h; omega
theorem img_cancel (x:Int) (e:Bool) (h:Nat) (v:List Nat):GE (img x e h++(img x (!e) h++v)) v:=by
 unfold img
 by_cases hx:h=x.natAbs
 ·
  simp only [hx,if_true]
  generalize decide (0<x)=d
  generalize x.natAbs=i
  have key: ∀a b c:Nat,GE ([a,b,c]++([c,b,a]++v)) v:=fun a b c=>by
   have h1:=GE.cancel [a,b] ([b,a]++v) c
   have h2:=GE.cancel [a] ([a]++v) b
   have h3:=GE.cancel [] v a
   exact h1.trans (h2.trans h3)
  cases d<;>cases e<;>exact key _ _ _
 ·
  simp only [hx,if_false]
  exact GE.cancel [] v h
theorem sub_cancel (x:Int) (e:Bool) (u v:List Nat) (a:Nat):GE (sub x e (u++a::a::v)) (sub x e (u++v)):=by
 rw [sub_app,sub_app]
 refine GE.left ?_ _
 simp only [sub,Bool.not_not]
 exact img_cancel x _ a _
theorem sub_push (x:Int) (e:Bool) (a:Nat) (l:List Nat):GE (sub x e (pushG a l)) (sub x e (a::l)):=by
 cases l with
 | nil=>exact .refl _
 | cons b t=>
  by_cases h:a=b
  · subst h; rw [pushG_eq]; exact (sub_cancel x e [] t a).symm
  · rw [qfy h]; exact .refl _
theorem sub_rd (x:Int) (e:Bool) (u:List Nat):GE (sub x e (rd u)) (sub x e u):=by
 induction u generalizing e with
 | nil=>exact .refl _
 | cons a u ih=>
  rw [rd]
  refine (sub_push x e a (rd u)).trans ?_
  simp only [sub]
  exact (ih (!e)).left _
theorem sub_ge (x:Int) (e:Bool) {u v:List Nat} (h:GE u v):GE (sub x e u) (sub x e v):=by
 have h1:=sub_rd x e u; have h2:=sub_rd x e v
 unfold GE at h; rw [h] at h1
 exact h1.symm.trans h2
theorem img_o {x:Int} {e:Bool} {h:Nat} (hh:h≠x.natAbs):img x e h=[h]:=if_neg hh
theorem img_p {i:Nat} (hi:1≤i) (e:Bool):img (i:Int) e i=if e=true then [i-1,i,i+1] else [i+1,i,i-1]:=by
 unfold img
 rw [if_pos (by omega),decide_eq_true (by omega:(0:Int)<i)]
 cases e<;>rfl
theorem img_po {i h:Nat} (hh:h≠i) (e:Bool):img (i:Int) e h=[h]:=img_o (by omega)
end Gar
end Go.Proofs.Ytlkmcbgkohpmiaa

set_option linter.all false
namespace Go.Proofs.Ytlkmcbgkohpmiaa
namespace Gar
/-! Words up to neighbours that cancel. -/
def ipush (a:Int):List Int→List Int
 | []=>[a]
 | b::t=>if a=-b then t else a::b::t
theorem qfk (a b:Int) (t:List Int) (h:a=-b):ipush a (b::t)=t:=if_pos h
theorem qev {a b:Int} (h:a≠-b) (t:List Int):ipush a (b::t)=a::b::t:=if_neg h
def ird:List Int→List Int
 | []=>[]
 | a::l=>ipush a (ird l)
def Irdc:List Int→Prop
 | []=>True
 | [_]=>True
 | a::b::t=>a≠-b∧Irdc (b::t)
theorem Irdc.tail {a:Int} {l:List Int} (h:Irdc (a::l)):Irdc l:=by
 cases l with
 | nil=>trivial
 | cons b t=>exact h.2
theorem Irdc.push {l:List Int} (h:Irdc l) (a:Int):Irdc (ipush a l):=by
 cases l with
 | nil=>trivial
 | cons b t=>
  by_cases e:a=-b
  · rw [qfk _ _ _ e]; exact h.tail
  · rw [qev e]; exact ⟨e,h⟩
theorem ird_rdc (l:List Int):Irdc (ird l):=by
 induction l with
 | nil=>trivial
 | cons a l ih=>exact ih.push a
theorem ird_of {l:List Int} (h:Irdc l):ird l=l:=by
 induction l with
 | nil=>rfl
 | cons a l ih=>
  rw [ird,ih h.tail]
  cases l with
  | nil=>rfl
  | cons b t=>rw [qev h.1]
theorem ipush_push {l:List Int} (h:Irdc l) (a b:Int) (hab:a=-b):ipush a (ipush b l)=l:=by
 cases l with
 | nil=>show (if a=-b then _ else _)=_; rw [if_pos hab]
 | cons c t=>
  by_cases e:b=-c
  ·
   rw [qfk _ _ _ e]
   have hac:a=c:=by omega
   subst hac
   cases t with
   | nil=>rfl
   | cons d t=>rw [qev h.1]
  · rw [qev e,qfk _ _ _ hab]
theorem ird_app (u v:List Int):ird (u++v)=ird (u++ird v):=by
 induction u with
 | nil=>simp [ird_of (ird_rdc v)]
 | cons a u ih=>simp only [List.cons_append,ird,ih]
theorem ird_cancel (u v:List Int) (a b:Int) (hab:a=-b):ird (u++a::b::v)=ird (u++v):=by
 rw [ird_app u (a::b::v),ird_app u v]
 congr 2
 exact ipush_push (ird_rdc v) a b hab
def IE (u v:List Int):Prop:=ird u=ird v
theorem IE.refl (u):IE u u:=rfl
theorem IE.symm {u v} (h:IE u v):IE v u:=Eq.symm h
theorem IE.trans {u v w} (h:IE u v) (k:IE v w):IE u w:=Eq.trans h k
theorem IE.left {u v} (h:IE u v) (a:List Int):IE (a++u) (a++v):=by unfold IE at *; rw [ird_app a u,ird_app a v,h]
theorem ird_rdapp (u v:List Int):ird (ird u++v)=ird (u++v):=by
 induction u with
 | nil=>rfl
 | cons a u ih=>
  simp only [ird,List.cons_append]
  rw [←ih]
  generalize ird u=w
  cases w with
  | nil=>rfl
  | cons b t=>
   by_cases e:a=-b
   ·
    rw [qfk _ _ _ e]
    simp only [List.cons_append,ird]
    exact (ipush_push (ird_rdc _) a b e).symm
   · rw [qev e]; rfl
theorem IE.right {u v} (h:IE u v) (a:List Int):IE (u++a) (v++a):=by unfold IE at *; rw [←ird_rdapp u a,←ird_rdapp v a,h]
theorem IE.app {u v u' v'} (h:IE u v) (k:IE u' v'):IE (u++u') (v++v'):=(h.right u').trans (k.left v)
theorem ird_mem {l:List Int}: ∀y∈ird l,y∈l:=by
 induction l with
 | nil=>exact fun y hy=>hy
 | cons a l ih=>
  intro y hy
  rw [ird] at hy
  generalize ird l=w at hy ih
  cases w with
  | nil=>rw [ipush,List.mem_singleton] at hy; subst hy; simp
  | cons b t=>
   by_cases e:a=-b
   · rw [qfk _ _ _ e] at hy; exact List.mem_cons_of_mem _ (ih y (List.mem_cons_of_mem _ hy))
   ·
    rw [qev e] at hy
    rcases List.mem_cons.1 hy with h | h
    · subst h; simp
    · exact List.mem_cons_of_mem _ (ih y h)
theorem ird_le (l:List Int):(ird l).length≤l.length:=by
 induction l with
 | nil=>simp [ird]
 | cons a l ih=>
  rw [ird,List.length_cons]
  generalize ird l=w at ih
  cases w with
  | nil=>simp [ipush]
  | cons b t=>
   by_cases e:a=-b
   · rw [qfk _ _ _ e]; simp at ih; omega
   · rw [qev e]; simp at ih⊢; omega
theorem IE.inv (u:List Int):IE (neg u++u) []:=by
 induction u with
 | nil=>exact .refl _
 | cons a u ih=>
  have e:neg (a::u)++(a::u)=neg u++(-a)::a::u:=by simp [neg]
  rw [e]
  exact (ird_cancel (neg u) u (-a) a rfl:IE _ _).trans ih
theorem IE.inv' (u:List Int):IE (u++neg u) []:=by
 have:=IE.inv (neg u)
 rwa [neg_neg] at this
/-! The images of the generators. -/
def gimg (x:Int) (k:Nat):List Int:=
 if k=x.natAbs then (if 0<x then [(k:Int),(k:Int)+1,-(k:Int)] else [(k:Int)+1])
 else if k=x.natAbs+1 then (if 0<x then [(k:Int)-1] else [-(k:Int),(k:Int)-1,(k:Int)]) else [(k:Int)]
def iimg (x y:Int):List Int:=if 0<y then gimg x y.toNat else neg (gimg x (-y).toNat)
def isub (x:Int) (w:List Int):List Int:=w.flatMap (iimg x)
def iact:List Int→Nat→List Int
 | [],j=>[(j:Int)]
 | x::w,j=>ird (isub x (iact w j))
def Lr (N:Nat) (y:Int):Prop:=y≠0∧-(N:Int)≤y∧y≤N
theorem gimg_lr {N:Nat} {x:Int} (hx:x≠0∧-(N:Int)<x∧x<N) {k:Nat} (h1:1≤k) (h2:k≤N): ∀y∈gimg x k,Lr N y:=by
 intro y hy
 unfold gimg at hy
 unfold Lr
 split at hy
 · split at hy<;>simp at hy<;>omega
 ·
  split at hy
  · split at hy<;>simp at hy<;>omega
  · simp at hy; omega
theorem iimg_lr {N:Nat} {x y:Int} (hx:x≠0∧-(N:Int)<x∧x<N) (hy:Lr N y): ∀z∈iimg x y,Lr N z:=by
 intro z hz
 unfold Lr at hy
 unfold iimg at hz
 split at hz
 · exact gimg_lr hx (by omega) (by omega) z hz
 ·
  unfold neg at hz
  rw [List.mem_reverse,List.mem_map] at hz
  obtain ⟨z',h1,rfl⟩:=hz
  have:=gimg_lr hx (by omega) (by omega) z' h1
  unfold Lr at this⊢
  omega
theorem isub_lr {N:Nat} {x:Int} (hx:x≠0∧-(N:Int)<x∧x<N) {w:List Int} (hw: ∀y∈w,Lr N y): ∀z∈isub x w,Lr N z:=by
 intro z hz
 unfold isub at hz
 rw [List.mem_flatMap] at hz
 obtain ⟨y,h1,h2⟩:=hz
 exact iimg_lr hx (hw y h1) z h2
theorem iact_lr {N:Nat} {w:List Int} (hw:Rg N w) {j:Nat} (h1:1≤j) (h2:j≤N): ∀y∈iact w j,Lr N y:=by
 induction w with
 | nil=>intro y hy; rw [iact,List.mem_singleton] at hy; subst hy; unfold Lr; omega
 | cons x w ih=>
  intro y hy
  exact isub_lr (hw x (by simp)) (ih fun z hz=>hw z (by simp [hz])) y (ird_mem y hy)
theorem iact_rdc (w:List Int) (j:Nat):Irdc (iact w j):=by
 cases w with
 | nil=>trivial
 | cons x w=>exact ird_rdc _
/-! Generators as pairs of gapw. -/
def gap (y:Int):List Nat:=if 0<y then [y.toNat-1,y.toNat] else [(-y).toNat,(-y).toNat-1]
def gapw (w:List Int):List Nat:=w.flatMap gap
theorem qdo (y:Int) (w:List Int):gapw (y::w)=gap y++gapw w:=rfl
theorem gapw_app (u v:List Int):gapw (u++v)=gapw u++gapw v:=List.flatMap_append
theorem gap_cancel (y:Int) (v:List Nat):GE (gap y++(gap (-y)++v)) v:=by
 unfold gap
 by_cases h:0<y
 ·
  rw [if_pos h,if_neg (by omega),Int.neg_neg]
  exact (GE.cancel [y.toNat-1] ((y.toNat-1)::v) y.toNat).trans (GE.cancel [] v (y.toNat-1))
 ·
  rw [if_neg h]
  by_cases h0:y=0
  ·
   subst h0
   exact (GE.cancel [] (0::0::v) 0).trans (GE.cancel [] v 0)
  ·
   rw [if_pos (by omega)]
   exact (GE.cancel [(-y).toNat] ((-y).toNat::v) ((-y).toNat-1)).trans (GE.cancel [] v _)
theorem gapw_push (a:Int) (l:List Int):GE (gapw (ipush a l)) (gap a++gapw l):=by
 cases l with
 | nil=>exact .refl _
 | cons b t=>
  by_cases e:a=-b
  ·
   rw [qfk _ _ _ e,qdo]
   have:=gap_cancel a (gapw t)
   rw [show -a=b by omega] at this
   exact this.symm
  · rw [qev e]; exact .refl _
theorem gapw_ird (w:List Int):GE (gapw (ird w)) (gapw w):=by
 induction w with
 | nil=>exact .refl _
 | cons a w ih=>exact (gapw_push a _).trans (ih.left _)
/-! Paths that are turned round. -/
theorem GE.rev {u v:List Nat} (h:GE u v):GE u.reverse v.reverse:=by
 have key: ∀u:List Nat,GE u.reverse (Gar.rd u).reverse:=by
  intro u
  induction u with
  | nil=>exact .refl _
  | cons a u ih=>
   rw [List.reverse_cons]
   refine (ih.right [a]).trans ?_
   show GE _ (pushG a (Gar.rd u)).reverse
   generalize Gar.rd u=w
   cases w with
   | nil=>exact .refl _
   | cons b t=>
    by_cases e:a=b
    ·
     subst e
     rw [pushG_eq,List.reverse_cons,List.append_assoc]
     have:=GE.cancel t.reverse [] a
     rw [List.append_nil] at this
     exact this
    · rw [qfy e,List.reverse_cons (a:=a)]; exact .refl _
 have h':Gar.rd u=Gar.rd v:=h
 have k:=key u
 rw [h'] at k
 exact k.trans (key v).symm
theorem img_rev (x:Int) (e:Bool) (h:Nat):(img x e h).reverse=img x (!e) h:=by
 unfold img
 split
 · cases e<;>cases decide (0<x)<;>rfl
 · rfl
theorem par_par (e:Bool) (n:Nat):par (par (!e) n) n=!e:=by
 unfold par
 by_cases h:n%2=0
 · rw [if_pos h,if_pos h]
 · rw [if_neg h,if_neg h,Bool.not_not]
theorem sub_rev (x:Int) (e:Bool) (u:List Nat):(sub x e u).reverse=sub x (par e u.length) u.reverse:=by
 induction u generalizing e with
 | nil=>rfl
 | cons a t ih=>
  rw [sub,List.reverse_append,ih,img_rev,List.reverse_cons,sub_app,List.length_cons,par_succ,List.length_reverse,par_par]
  simp [sub]
theorem gap_neg {y:Int} (h:y≠0):gap (-y)=(gap y).reverse:=by
 unfold gap
 by_cases h1:0<y
 · rw [if_pos h1,if_neg (by omega),Int.neg_neg]; rfl
 · rw [if_neg h1,if_pos (by omega)]; rfl
theorem gapw_neg {w:List Int} (h: ∀y∈w,y≠0):gapw (neg w)=(gapw w).reverse:=by
 induction w with
 | nil=>rfl
 | cons y w ih=>
  have e:neg (y::w)=neg w++[-y]:=by simp [neg]
  rw [e,gapw_app,ih fun z hz=>h z (by simp [hz]),qdo y w,List.reverse_append,←gap_neg (h y (by simp))]
  congr 1
  show gap (-y)++[]=_
  rw [List.append_nil]
theorem gimg_gapw {x:Int} (hx:x≠0) {k:Nat} (hk:1≤k):GE (gapw (gimg x k)) (sub x true (gap (k:Int))):=by
 have eg: ∀j:Nat,1≤j→gap (j:Int)=[j-1,j]:=fun j hj=>by unfold gap; rw [if_pos (by omega),Int.toNat_natCast]
 have en: ∀j:Nat,1≤j→gap (-(j:Int))=[j,j-1]:=fun j hj=>by unfold gap; rw [if_neg (by omega),Int.neg_neg,Int.toNat_natCast]
 rw [eg k hk]
 simp only [sub,List.append_nil,Bool.not_true]
 unfold gimg
 by_cases h1:k=x.natAbs
 ·
  rw [if_pos h1]
  by_cases h2:0<x
  ·
   obtain rfl:x=(k:Int):=by omega
   rw [if_pos h2,img_po (show k-1≠k by omega),img_p hk]
   have e:gapw [(k:Int),(k:Int)+1,-(k:Int)]=[k-1,k,k,k+1,k,k-1]:=by
    rw [qdo,qdo,qdo,eg k hk,show (k:Int)+1=((k+1:Nat):Int) by omega,eg (k+1) (by omega),en k hk]; rfl
   rw [e]
   exact GE.cancel [k-1] [k+1,k,k-1] k
  ·
   obtain rfl:x=-(k:Int):=by omega
   rw [if_neg h2,img_o (show k-1≠(-(k:Int)).natAbs by omega)]
   have e1:img (-(k:Int)) false k=[k-1,k,k+1]:=by
    unfold img; rw [if_pos (by omega),decide_eq_false (by omega)]; rfl
   have e:gapw [(k:Int)+1]=[k,k+1]:=by
    rw [qdo,show (k:Int)+1=((k+1:Nat):Int) by omega,eg (k+1) (by omega)]; rfl
   rw [e1,e]
   exact (GE.cancel [] [k,k+1] (k-1)).symm
 ·
  rw [if_neg h1]
  by_cases h2:k=x.natAbs+1
  ·
   rw [if_pos h2]
   obtain ⟨i,rfl⟩: ∃i,k=i+1:=⟨k-1,by omega⟩
   have hi:1≤i:=by omega
   rw [Nat.add_sub_cancel,show ((i+1:Nat):Int)-1=(i:Int) by omega]
   by_cases h3:0<x
   ·
    obtain rfl:x=(i:Int):=by omega
    rw [if_pos h3,img_p hi,img_po (show i+1≠i by omega)]
    have e:gapw [(i:Int)]=[i-1,i]:=by rw [qdo,eg i hi]; rfl
    rw [e]
    exact (GE.cancel [i-1,i] [] (i+1)).symm
   ·
    obtain rfl:x=-(i:Int):=by omega
    rw [if_neg h3,img_o (show i+1≠(-(i:Int)).natAbs by omega)]
    have e1:img (-(i:Int)) true i=[i+1,i,i-1]:=by
     unfold img; rw [if_pos (by omega),decide_eq_false (by omega)]; rfl
    have e:gapw [-((i+1:Nat):Int),(i:Int),((i+1:Nat):Int)]=[i+1,i,i-1,i,i,i+1]:=by
     rw [qdo,qdo,qdo,en (i+1) (by omega),eg i hi,eg (i+1) (by omega)]; rfl
    rw [e1,e]
    exact GE.cancel [i+1,i,i-1] [i+1] i
  ·
   rw [if_neg h2,img_o (show k-1≠x.natAbs by omega),img_o (show k≠x.natAbs from h1)]
   have e:gapw [(k:Int)]=[k-1,k]:=by rw [qdo,eg k hk]; rfl
   rw [e]; exact .refl _
theorem gimg_nz {x:Int} (hx:x≠0) {k:Nat} (hk:1≤k): ∀y∈gimg x k,y≠0:=by
 intro y hy
 unfold gimg at hy
 split at hy
 · split at hy<;>simp at hy<;>omega
 ·
  split at hy
  · split at hy<;>simp at hy<;>omega
  · simp at hy; omega
theorem gap_len (y:Int):(gap y).length=2:=by unfold gap; split<;>rfl
theorem iimg_gapw {x y:Int} (hx:x≠0) (hy:y≠0):GE (gapw (iimg x y)) (sub x true (gap y)):=by
 unfold iimg
 by_cases h:0<y
 ·
  rw [if_pos h]
  have:=gimg_gapw hx (k:=y.toNat) (by omega)
  rwa [show ((y.toNat:Nat):Int)=y by omega] at this
 ·
  rw [if_neg h,gapw_neg (gimg_nz hx (by omega))]
  have:=(gimg_gapw hx (k:=(-y).toNat) (by omega)).rev
  rw [show (((-y).toNat:Nat):Int)=-y by omega,sub_rev,gap_len,←gap_neg (by omega),Int.neg_neg] at this
  exact this
theorem isub_gapw {x:Int} (hx:x≠0) {w:List Int} (hw: ∀y∈w,y≠0):GE (gapw (isub x w)) (sub x true (gapw w)):=by
 induction w with
 | nil=>exact .refl _
 | cons y w ih=>
  have e:isub x (y::w)=iimg x y++isub x w:=rfl
  rw [e,gapw_app,qdo,sub_app,gap_len]
  exact (iimg_gapw hx (hw y (by simp))).app (ih fun z hz=>hw z (by simp [hz]))
/-! Back from gapw to generators. -/
def xs:Nat→List Int
 | 0=>[]
 | h+1=>xs h++[((h+1:Nat):Int)]
def kap:Bool→List Nat→List Int
 | _,[]=>[]
 | e,h::t=>(if e=true then neg (xs h) else xs h)++kap (!e) t
theorem kap_rd (e:Bool) (u:List Nat):IE (kap e (rd u)) (kap e u):=by
 induction u generalizing e with
 | nil=>exact .refl _
 | cons a u ih=>
  have h:=(ih (!e)).left (if e=true then neg (xs a) else xs a)
  refine IE.trans ?_ h
  show IE (kap e (pushG a (rd u))) _
  generalize rd u=w
  cases w with
  | nil=>exact .refl _
  | cons b t=>
   by_cases c:a=b
   ·
    subst c
    rw [pushG_eq]
    simp only [kap]
    rw [←List.append_assoc,Bool.not_not]
    have:IE ((if e=true then neg (xs a) else xs a)++if (!e)=true then neg (xs a) else xs a) []:=by
     cases e
     · exact IE.inv' _
     · exact IE.inv _
    exact (this.right (kap e t)).symm
   · rw [qfy c]; exact .refl _
theorem kap_ge (e:Bool) {u v:List Nat} (h:GE u v):IE (kap e u) (kap e v):=by
 have h':rd u=rd v:=h
 have k:=kap_rd e u
 rw [h'] at k
 exact k.symm.trans (kap_rd e v)
theorem kap_gap {y:Int} (hy:y≠0) (v:List Nat):IE (kap true (gap y++v)) (y::kap true v):=by
 unfold gap
 by_cases h:0<y
 ·
  rw [if_pos h]
  obtain ⟨k,rfl⟩: ∃k:Nat,y=((k+1:Nat):Int):=⟨y.toNat-1,by omega⟩
  rw [Int.toNat_natCast,Nat.add_sub_cancel]
  show IE (neg (xs k)++(xs k++[((k+1:Nat):Int)]++kap true v)) _
  rw [List.append_assoc,←List.append_assoc]
  exact (IE.inv (xs k)).right _
 ·
  rw [if_neg h]
  obtain ⟨k,rfl⟩: ∃k:Nat,y=-((k+1:Nat):Int):=⟨(-y).toNat-1,by omega⟩
  rw [Int.neg_neg,Int.toNat_natCast,Nat.add_sub_cancel]
  show IE (neg (xs k++[((k+1:Nat):Int)])++(xs k++kap true v)) _
  rw [neg_app,List.append_assoc,←List.append_assoc (neg (xs k))]
  exact ((IE.inv (xs k)).right (kap true v)).left [-((k+1:Nat):Int)]
theorem kap_gapw {w:List Int} (hw: ∀y∈w,y≠0):IE (kap true (gapw w)) w:=by
 induction w with
 | nil=>exact .refl _
 | cons y w ih=>exact (kap_gap (hw y (by simp)) _).trans ((ih fun z hz=>hw z (by simp [hz])).left [y])
section
variable {N : Nat}
