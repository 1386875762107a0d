import Derived.Test.YtlkmcbgkohpmiaaPGint
import Derived.Test.YtlkmcbgkohpmiaaPEq
set_option linter.all false
namespace Go.Proofs.Ytlkmcbgkohpmiaa
open Ev
namespace Gar
def Sm (w:List Int):Prop:= ∀y∈w,-1000≤y∧y≤1000
theorem neg_len (w:List Int):(neg w).length=w.length:=by simp [neg]
/-! The substitution of one letter. -/
def imgs (s:Nat) (x:Int):List (List Int):=(List.range s).map fun k=>gimg x (k+1)
theorem imgs_at {s:Nat} {x:Int} {k:Nat} (h:k<s):(imgs s x)[k]? =some (gimg x (k+1)):=by simp [imgs,h]
theorem gimg_len (x:Int) (k:Nat):(gimg x k).length≤3:=by
 unfold gimg
 split
 · split<;>simp
 ·
  split
  · split<;>simp
  · simp
theorem iimg_len (x y:Int):(iimg x y).length≤3:=by
 unfold iimg
 split
 · exact gimg_len _ _
 · rw [neg_len]; exact gimg_len _ _
theorem isub_len (x:Int) (w:List Int):(isub x w).length≤3*w.length:=by
 unfold isub
 induction w with
 | nil=>simp
 | cons y w ih=>
  rw [List.flatMap_cons,List.length_append,List.length_cons]
  have:=iimg_len x y; omega
/-! The action. -/
def acts (s:Nat) (w:List Int):List (List Int):=(List.range s).map fun j=>iact w (j+1)
theorem qfl (s:Nat) (w:List Int):(acts s w).length=s:=by simp [acts]
theorem acts_at {s:Nat} {w:List Int} {k:Nat} (h:k<s):(acts s w)[k]? =some (iact w (k+1)):=by simp [acts,h]
theorem set_imgs {s:Nat} {x:Int} (hx:x≠0∧-(s:Int)<x∧x<s) {i:Nat} (hi:i=x.natAbs) (A B:List Int) (hA:A=gimg x i) (hB:B=gimg x (i+1)):((acts s []).set (i-1) A).set i B=imgs s x:=by
 subst hA; subst hB
 apply List.ext_getElem?
 intro k
 by_cases hk:k<s
 ·
  rw [imgs_at hk,List.getElem?_set]
  by_cases h1:i=k
  ·
   subst h1
   rw [if_pos rfl,if_pos (by rw [List.length_set,qfl]; exact hk)]
  ·
   rw [if_neg h1,List.getElem?_set]
   by_cases h2:i-1=k
   · rw [if_pos h2,if_pos (by rw [qfl]; omega),show k+1=i by omega]
   ·
    rw [if_neg h2,acts_at hk]
    unfold gimg
    rw [if_neg (by omega),if_neg (by omega)]
    rfl
 · rw [List.getElem?_eq_none (by rw [List.length_set,List.length_set,qfl]; omega),List.getElem?_eq_none (by simp [imgs]; omega)]
end Gar
end Go.Proofs.Ytlkmcbgkohpmiaa

set_option linter.all false
namespace Go.Proofs.Ytlkmcbgkohpmiaa
open Ev
namespace Gar
def okW (s:Int) (w:List Int):Bool:=w.all fun x=>decide (x≠0)&&(decide (-s<x)&&decide (x<s))
def okB (s:Int) (w:List Int):Bool:=decide (1≤s)&&(decide (s≤10)&&(decide (w.length≤200)&&okW s w))
theorem okB_iff {s:Int} {w:List Int}:okB s w=true↔(1≤s∧s≤10∧w.length≤200∧∀x∈w,x≠0∧-s<x∧x<s):=by
 simp only [okB,okW,Bool.and_eq_true,decide_eq_true_eq,List.all_eq_true]
theorem drop_step {w:List Int} {k:Nat} (hk:k<w.length):w.drop k=w[k]::w.drop (k+1):=(List.getElem_cons_drop hk).symm
theorem braidValid {s:Int} {w:List Int} (n:Nat) (hn:w.length<n):F.qfc n s w=some (okB s w):=by
 unfold F.qfc
 by_cases h1:s<1
 · rw [dT h1]; simp [okB]; omega
 rw [dF h1]
 by_cases h2:10<s
 · rw [dT h2]; simp [okB]; omega
 rw [dF h2]
 by_cases h3:(200:Int)<(w.length:Int)
 · rw [dT h3]; simp [okB]; omega
 rw [dF h3]
 simp only [kF]
 have hok:okB s w=okW s w:=by
  unfold okB; rw [dT (show 1≤s by omega),dT (show s≤10 by omega),dT (show w.length≤200 by omega)]; simp
 obtain ⟨r,hr,hq⟩:=qby (body:=F.qgl n s w) (fun v=> ∃k:Nat,v=(k:Int)∧k≤w.length∧okW s w=okW s (w.drop k)) (fun v=>w.length-v.toNat)
  (fun r=>match r with | .inl _=>okW s w=true | .inr b=>b=okW s w) (fun v ⟨k,hv,hk,hI⟩=>by
   subst hv
   unfold F.qgl
   dsimp only
   by_cases hlt:(k:Int)<(w.length:Int)
   ·
    rw [dT hlt]
    have hk':k<w.length:=by omega
    have hs:okW s (w.drop k)=(decide (w[k]≠0)&&(decide (-s<w[k])&&decide (w[k]<s))&&okW s (w.drop (k+1))):=by
     unfold okW; rw [drop_step hk',List.all_cons]
    simp only [kT,qbe,gE hk',bB]
    rw [qaj (by omega) (by omega),qaj (by omega) (by omega)]
    simp only [bB]
    by_cases c1:w[k]=0
    · rw [dT c1]; right; exact ⟨_,rfl,by rw [hI,hs]; simp [c1]⟩
    rw [dF c1]
    by_cases c2:w[k]≤-s
    · rw [dT c2]; right; exact ⟨_,rfl,by rw [hI,hs,dF (show¬(-s<w[k]) by omega)]; simp⟩
    rw [dF c2]
    by_cases c3:s≤w[k]
    · rw [dT c3]; right; exact ⟨_,rfl,by rw [hI,hs,dF (show¬(w[k]<s) by omega)]; simp⟩
    rw [dF c3]
    left
    refine ⟨_,rfl,⟨k+1,by simp,by omega,?_⟩,by omega⟩
    rw [hI,hs,dT (show w[k]≠0 from c1),dT (show -s<w[k] by omega),dT (show w[k]<s by omega)]; simp
   ·
    rw [dF hlt]
    right
    have:k=w.length:=by omega
    subst this
    exact ⟨_,rfl,by show okW s w=true; rw [hI]; simp [okW]⟩) n 0 ⟨0,rfl,Nat.zero_le _,by simp⟩ (by simpa using hn)
 rw [hr]
 simp only [bB]
 cases r with
 | inl v=>simp only at hq⊢; rw [hok,hq]
 | inr b=>simp only at hq⊢; rw [hok,hq]
end Gar
end Go.Proofs.Ytlkmcbgkohpmiaa

set_option linter.all false
namespace Go.Proofs.Ytlkmcbgkohpmiaa
open Ev
namespace Gar
/-! Valid words. -/
def wV (w:List Int) (r:Int):Bool:=w.all fun x=>decide (1≤r)&&(decide (x≠0)&&(decide (x≤r)&&decide (-r≤x)))
theorem wV_iff {w:List Int} {r:Int}:wV w r=true↔∀x∈w,1≤r∧x≠0∧x≤r∧-r≤x:=by
 simp only [wV,List.all_eq_true,Bool.and_eq_true,decide_eq_true_eq]
theorem wV_drop {w:List Int} {r:Int} {k:Nat} {x:Int} (h:w[k]? =some x):wV (w.drop k) r=(decide (1≤r)&&(decide (x≠0)&&(decide (x≤r)&&decide (-r≤x)))&&wV (w.drop (k+1)) r):=by
 obtain ⟨hk,rfl⟩:=List.getElem?_eq_some_iff.1 h
 unfold wV
 rw [drop_step hk,List.all_cons]
theorem allLoop {body:Int→Option (Int⊕(Int⊕Bool))} {w:List Int} {q:List Int→Bool} (h0:q []=true) (n:Nat) (hn:w.length<n)
  (step: ∀(k:Nat) (x:Int),w[k]? =some x→(q (w.drop k)=q (w.drop (k+1))∧body (k:Int)=some (.inl ((k+1:Nat):Int)))∨(q (w.drop k)=false∧body (k:Int)=some (.inr (.inr false))))
  (last:body (w.length:Int)=some (.inr (.inl (w.length:Int)))):
  ((loopN n body 0).bind fun o=>match o with | .inl _=>some true | .inr b=>some b)=some (q w):=by
 obtain ⟨r,hr,hq⟩:=qby (body:=body) (fun v=> ∃k:Nat,v=(k:Int)∧k≤w.length∧q w=q (w.drop k)) (fun v=>w.length-v.toNat)
  (fun r=>match r with | .inl _=>q w=true | .inr b=>b=q w) (fun v ⟨k,hv,hk,hI⟩=>by
   subst hv
   by_cases hlt:k<w.length
   ·
    rcases step k _ (gE hlt) with ⟨h1,h2⟩ | ⟨h1,h2⟩
    · exact .inl ⟨_,h2,⟨k+1,rfl,by omega,by rw [hI,h1]⟩,by omega⟩
    · exact .inr ⟨_,h2,by show false=_; rw [hI,h1]⟩
   ·
    obtain rfl:k=w.length:=by omega
    exact .inr ⟨_,last,by show q w=true; rw [hI,List.drop_length,h0]⟩) n 0 ⟨0,rfl,Nat.zero_le _,by rw [List.drop_zero]⟩ (by simpa using hn)
 rw [hr,bB]
 cases r with
 | inl v=>simp only at hq⊢; rw [hq]
 | inr b=>simp only at hq⊢; rw [hq]
theorem wordValid {w:List Int} {r:Int} (hr: -1000000≤r∧r≤1000000) (hl:w.length≤100000000) (n:Nat) (hn:w.length<n):F.qgo n w r=some (wV w r):=by
 unfold F.qgo
 refine allLoop (q:=fun v=>wV v r) (by rfl) n hn (fun k x hx=>?_) ?_
 ·
  have hk:=(List.getElem?_eq_some_iff.1 hx).1
  rw [wV_drop hx]
  unfold F.qgu
  dsimp only
  rw [dT (show (k:Int)<(w.length:Int) by omega),kT,get_at rfl hx,bB]
  by_cases c0:r<1
  · right; rw [dT c0,kT,dF (show¬1≤r by omega)]; exact ⟨rfl,rfl⟩
  rw [dF c0,kF,dT (show 1≤r by omega)]
  by_cases c1:x=0
  · right; rw [dT c1,kT,dF (show¬x≠0 from fun h=>h c1)]; exact ⟨rfl,rfl⟩
  rw [dF c1,kF,dT (show x≠0 from c1)]
  by_cases c2:r<x
  · right; rw [dT c2,kT,dF (show¬x≤r by omega)]; exact ⟨rfl,rfl⟩
  rw [dF c2,kF,dT (show x≤r by omega),qaj (by omega) (by omega),bB]
  by_cases c3:x< -r
  · right; rw [dT c3,kT,dF (show¬-r≤x by omega)]; exact ⟨rfl,rfl⟩
  left
  rw [dF c3,kF,dT (show -r≤x by omega),qaj (by omega) (by omega)]
  exact ⟨by simp,rfl⟩
 ·
  unfold F.qgu
  dsimp only
  rw [dF (by omega)]; rfl
/-! A reduced word as a stack. -/
theorem Irdc.pre {u v:List Int} (h:Irdc (u++v)):Irdc u:=by
 induction u with
 | nil=>trivial
 | cons a u ih=>
  cases u with
  | nil=>trivial
  | cons b t=>exact ⟨h.1,ih h.2⟩
theorem Irdc.snoc {u:List Int} {a x:Int} (h:Irdc (u++[a])) (hx:a≠-x):Irdc (u++[a]++[x]):=by
 induction u with
 | nil=>exact ⟨hx,trivial⟩
 | cons b u ih=>
  cases u with
  | nil=>exact ⟨h.1,hx,trivial⟩
  | cons c t=>exact ⟨h.1,ih h.2⟩
theorem push1 {st:List Int} (h:Irdc st) (x:Int):(st=[]∧ird (st++[x])=[x])∨∃u a,st=u++[a]∧((a=-x∧ird (st++[x])=u)∨(a≠-x∧ird (st++[x])=st++[x])):=by
 rcases List.eq_nil_or_concat st with rfl | ⟨u,a,rfl⟩
 · exact .inl ⟨rfl,rfl⟩
 ·
  right
  rw [List.concat_eq_append] at h⊢
  refine ⟨u,a,rfl,?_⟩
  by_cases e:a=-x
  ·
   left
   refine ⟨e,?_⟩
   have:=ird_cancel u [] a x e
   rw [List.append_assoc]
   rw [List.append_nil] at this
   rw [show [a]++[x]=a::x::[] from rfl,this,ird_of h.pre]
  · exact .inr ⟨e,ird_of (h.snoc e)⟩
theorem wordPush {st w:List Int} (hst:Irdc st) (hs:Sm w) (hl:st.length+w.length≤100000000) (n:Nat) (hn:w.length<n):F.qfb n st w=some (ird (st++w)):=by
 unfold F.qfb
 have:=qax (body:=F.qfg n w) (fun k=>(ird (st++w.take k),(k:Int))) w.length (r:=(ird (st++w),(w.length:Int))) (fun k hk=>by
  have hx:w[k]? =some (w[k]'hk):=gE _
  have hb:=hs _ (List.getElem_mem hk)
  generalize w[k]'hk=x at hx hb
  have hS:=ird_rdc (st++w.take k)
  have hlen:=ird_le (st++w.take k)
  rw [List.length_append,List.length_take] at hlen
  have hnext:ird (st++w.take (k+1))=ird (ird (st++w.take k)++[x]):=by
   rw [ird_rdapp,List.take_add_one,hx,←List.append_assoc]; rfl
  rw [hnext]
  generalize ird (st++w.take k)=S at hS hlen
  unfold F.qfg
  dsimp only
  rw [dT (by omega),kT,get_at rfl hx,bB,qaj (by omega) (by omega),bB]
  rcases push1 hS x with ⟨rfl,e⟩ | ⟨u,a,rfl,h⟩
  ·
   rw [dF (by simp),kF,lim_ok (by simp),bB,qaj (by omega) (by omega),e]
   rfl
  ·
   rw [List.length_append,List.length_singleton] at hlen
   rw [List.length_append,List.length_singleton,dT (by omega),kT,get_at (k:=u.length) (x:=a) (by omega) (by simp),bB,qaj (by omega) (by omega),bB]
   rcases h with ⟨e,e2⟩ | ⟨e,e2⟩
   ·
    rw [dT e,kT,cut_ok (by omega) (by omega) (by omega),bB,qaj (by omega) (by omega),e2]
    have:(((u.length+1:Nat):Int)-1).toNat=u.length:=by omega
    rw [this,List.take_left]
    rfl
   ·
    rw [dF e,kF,lim_ok (by simp; omega),bB,qaj (by omega) (by omega),e2]
    rfl) (by
  unfold F.qfg
  dsimp only
  rw [dF (by omega),kF,List.take_length]) n hn
 have e:loopN n (F.qfg n w) (st,0)=some (ird (st++w),(w.length:Int)):=by
  have e0:(ird (st++w.take 0),((0:Nat):Int))=(st,0):=by rw [List.take_zero,List.append_nil,ird_of hst]; rfl
  rw [←e0]; exact this
 rw [e]; rfl
theorem wordReduce {w:List Int} (hs:Sm w) (hl:w.length≤1000000) (n:Nat) (hn:w.length<n):F.qfx n w=some (ird w):=by
 unfold F.qfx
 rw [qep (by omega) (by omega),bB,wordPush (st:=[]) trivial hs (by simp; omega) n hn]
 rfl
/-! The images for a letter. -/
theorem actC1 {s:Nat} {x:Int} (hs:1≤s∧s≤10) (hx:x≠0∧-(s:Int)<x∧x<s) (w:List Int) (n:Nat) (hn:1000<n):F.qha n x (s:Int) w=some (imgs s x):=by
 unfold F.qha
 rw [qep (by omega) (by omega),bB]
 have:=qax (body:=F.qdw n (s:Int)) (fun k=>((k:Int),(acts s []).take k++List.replicate (s-k) ([]:List Int))) s (r:=((s:Int),acts s [])) (fun k hk=>by
  unfold F.qdw
  dsimp only
  have hlen:((acts s []).take k++List.replicate (s-k) ([]:List Int)).length=s:=by rw [List.length_append,List.length_take,qfl,List.length_replicate]; omega
  rw [Int.toNat_natCast,List.length_replicate,dT (by omega),kT,qaj (by omega) (by omega),bB,get_ok (by omega) (by rw [hlen]; omega),bB,bB,Int.toNat_natCast]
  have h1:(acts s []).take (k+1)=(acts s []).take k++[[((k:Int)+1)]]:=by
   rw [List.take_add_one,acts_at hk]; rfl
  rw [h1,show s-k=(s-(k+1))+1 by omega,List.replicate_succ,List.set_append_right _ _ (by rw [List.length_take,qfl]; omega),List.length_take,qfl,show k-min k s=0 by omega,List.set_cons_zero,List.append_assoc]
  rfl) (by
  unfold F.qdw
  dsimp only
  rw [Int.toNat_natCast,List.length_replicate,dF (by omega),kF,Nat.sub_self,List.replicate_zero,List.append_nil,List.take_of_length_le (by rw [qfl]; omega)]) n (by omega)
 have e:loopN n (F.qdw n (s:Int)) (0,List.replicate (s:Int).toNat ([]:List Int))=some ((s:Int),acts s []):=by
  rw [Int.toNat_natCast]
  exact this
 rw [e,bB]
 dsimp only
 by_cases hp:0<x
 ·
  obtain ⟨i,rfl⟩: ∃i:Nat,x=(i:Int):=⟨x.toNat,by omega⟩
  rw [dT hp,kT,qaj (by omega) (by omega),bB,qaj (by omega) (by omega),bB,qaj (by omega) (by omega),bB,get_ok (by omega) (by rw [qfl]; omega),bB,get_ok (by omega) (by rw [List.length_set,qfl]; omega),bB,Int.toNat_natCast,show ((i:Int)-1).toNat=i-1 by omega]
  rw [set_imgs (x:=(i:Int)) hx (i:=i) (by omega) _ _ ?_ ?_]
  · unfold gimg; rw [if_pos (by omega),if_pos hp]
  · unfold gimg; rw [if_neg (by omega),if_pos (by omega),if_pos hp,show ((i+1:Nat):Int)-1=(i:Int) by omega]
 ·
  obtain ⟨i,rfl⟩: ∃i:Nat,x=-(i:Int):=⟨(-x).toNat,by omega⟩
  rw [dF hp,kF,qaj (by omega) (by omega),bB,Int.neg_neg,qaj (by omega) (by omega),bB,qaj (by omega) (by omega),bB,bB,qaj (by omega) (by omega),bB,bB,get_ok (by omega) (by rw [qfl]; omega),bB,get_ok (by omega) (by rw [List.length_set,qfl]; omega),bB,Int.toNat_natCast,show ((i:Int)-1).toNat=i-1 by omega]
  rw [set_imgs (x:=-(i:Int)) hx (i:=i) (by omega) _ _ ?_ ?_]
  · unfold gimg; rw [if_pos (by omega),if_neg hp]
  · unfold gimg; rw [if_neg (by omega),if_pos (by omega),if_neg hp,show ((i+1:Nat):Int)-1=(i:Int) by omega,show ((i+1:Nat):Int)=(i:Int)+1 by omega]
/-! The substitution of one letter,with a stack. -/
theorem wordSubst {s:Nat} {x:Int} (hs:1≤s∧s≤10) (hx:x≠0∧-(s:Int)<x∧x<s) {w:List Int} (hw: ∀y∈w,Lr s y) (hl:w.length≤20000) (n:Nat) (hn:1000000≤n):F.qfv n w (imgs s x)=some (ird (isub x w),0):=by
 have hil:(imgs s x).length=s:=by simp [imgs]
 have hsm: ∀{k:Nat},1≤k→k≤s→Sm (gimg x k):=fun {k} h1 h2 y hy=>by
  have:=gimg_lr hx h1 h2 y hy
  unfold Lr at this; omega
 unfold F.qfv
 have h0:=qax (body:=F.qci n w (imgs s x)) (fun k=>(k:Int)) w.length (r:=.inl (w.length:Int)) (fun k hk=>by
  have ka:w[k]? =some (w[k]'hk):=gE _
  have hb:=hw _ (List.getElem_mem hk)
  generalize w[k]'hk=y at ka hb
  unfold Lr at hb
  unfold F.qci
  dsimp only
  rw [dT (by omega),kT,get_at rfl ka,bB,hil,wordValid (by omega) (by simp) n (by simp; omega),bB,wV_iff.2 (fun z hz=>by rw [List.mem_singleton] at hz; subst hz; omega),Bool.not_true,kF,qaj (by omega) (by omega)]
  rfl) (by
  unfold F.qci
  dsimp only
  rw [dF (by omega),kF]) n (by omega)
 have e0:loopN n (F.qci n w (imgs s x)) 0=some (.inl (w.length:Int)):=h0
 rw [e0,bB]
 have:=qax (body:=F.qbs n w (imgs s x)) (fun k=>((k:Int),ird (isub x (w.take k)))) w.length (r:=((w.length:Int),ird (isub x w))) (fun k hk=>by
  have ka:w[k]? =some (w[k]'hk):=gE _
  have hb:=hw _ (List.getElem_mem hk)
  generalize w[k]'hk=y at ka hb
  have ht:ird (isub x (w.take (k+1)))=ird (ird (isub x (w.take k))++iimg x y):=by
   rw [ird_rdapp,List.take_add_one,ka]
   unfold isub
   rw [List.flatMap_append]
   simp
  have hl1:=isub_len x (w.take k)
  have hl2:=gimg_len x y.toNat
  have hl3:=gimg_len x (-y).toNat
  have hl4:=ird_le (isub x (w.take k))
  have hS:=ird_rdc (isub x (w.take k))
  rw [List.length_take] at hl1
  unfold Lr at hb
  rw [ht]
  generalize ird (isub x (w.take k))=S at hl4 hS
  unfold F.qbs
  dsimp only
  rw [dT (by omega),kT,get_at rfl ka,bB]
  by_cases hp:0<y
  ·
   rw [dT hp,kT,qaj (by omega) (by omega),bB,get_at (k:=y.toNat-1) (by omega) (imgs_at (by omega)),bB,Nat.sub_add_cancel (by omega),wordPush hS (hsm (by omega) (by omega)) (by omega) n (by omega),bB,qaj (by omega) (by omega)]
   unfold iimg
   rw [if_pos hp]
   rfl
  ·
   rw [dF hp,kF,qaj (by omega) (by omega),bB,qaj (by omega) (by omega),bB,get_at (k:=(-y).toNat-1) (by omega) (imgs_at (by omega)),bB,Nat.sub_add_cancel (by omega)]
   have hi:iimg x y=neg (gimg x (-y).toNat):=by unfold iimg; rw [if_neg hp]
   rw [hi]
   have hG:=hsm (k:=(-y).toNat) (by omega) (by omega)
   generalize gimg x (-y).toNat=G at hl3 hG
   have inner:=qax (body:=F.qbt n G) (fun k=>(k,ird (S++(neg G).take k))) G.length (r:=ird (S++neg G)) (fun k hk=>by
    have hr:G.reverse[k]? =some (G.reverse[k]'(by simpa using hk)):=gE _
    have hz:=hG _ (List.mem_reverse.1 (List.getElem_mem (show k<G.reverse.length by simpa using hk)))
    have hz2:(neg G)[k]? =some (-(G.reverse[k]'(by simpa using hk))):=by
     unfold neg
     rw [←List.map_reverse,List.getElem?_map,hr]; rfl
    generalize G.reverse[k]'(by simpa using hk)=z at hr hz hz2
    unfold F.qbt
    dsimp only
    have hle:=ird_le (S++(neg G).take k)
    rw [List.length_append,List.length_take,neg_len] at hle
    rw [dT hk,kT,hr,bB,qaj (by omega) (by omega),bB,wordPush (ird_rdc _) (fun q hq=>by rw [List.mem_singleton] at hq; subst hq; omega) (by simp only [List.length_singleton]; omega) n (by simp only [List.length_singleton]; omega),bB,ird_rdapp,List.take_add_one,hz2,←List.append_assoc]
    rfl) (by
    unfold F.qbt
    dsimp only
    rw [dF (Nat.lt_irrefl _),kF,List.take_of_length_le (by rw [neg_len]; omega)]) n (by omega)
   have e:loopN n (F.qbt n G) (0,S)=some (ird (S++neg G)):=by
    have e1:(0,ird (S++(neg G).take 0))=(0,S):=by rw [List.take_zero,List.append_nil,ird_of hS]
    rw [←e1]; exact inner
   rw [e,bB]
   rw [qaj (by omega) (by omega)]
   rfl) (by
  unfold F.qbs
  dsimp only
  rw [dF (by omega),kF,List.take_length]) n (by omega)
 have e:loopN n (F.qbs n w (imgs s x)) (0,([]:List Int))=some ((w.length:Int),ird (isub x w)):=this
 rw [e]; rfl
/-! The action of a word of letters. -/
def fact:List Int→List Int→List Int
 | [],u=>u
 | x::w,u=>fact w (ird (isub x u))
def afull:List Int→List Int→Bool
 | [],u=>decide (20000<u.length)
 | x::w,u=>decide (20000<u.length) || afull w (ird (isub x u))
theorem loop_inl {S R:Type} {m:Nat} {body:S→Option (S⊕R)} {s s':S} (h:body s=some (.inl s')):loopN (m+1) body s=loopN m body s':=by simp only [loopN,h,bB]
theorem loop_inr {S R:Type} {m:Nat} {body:S→Option (S⊕R)} {s:S} {r:R} (h:body s=some (.inr r)):loopN (m+1) body s=some r:=by simp only [loopN,h,bB]
theorem afull_true {w u:List Int} (h:20000<u.length):afull w u=true:=by
 cases w with
 | nil=>exact dT h
 | cons x w=>show (decide _ || _)=true; rw [dT h]; rfl
theorem afull_cons {x:Int} {w u:List Int} (h: ¬20000<u.length):afull (x::w) u=afull w (ird (isub x u)):=by
 show (decide (20000<u.length) || _)=_
 rw [dF h,Bool.false_or]
theorem isub_ird_lr {s:Nat} {x:Int} (hx:x≠0∧-(s:Int)<x∧x<s) {u:List Int} (hu: ∀y∈u,Lr s y): ∀y∈ird (isub x u),Lr s y:=fun y hy=>isub_lr hx hu y (ird_mem y hy)
theorem actLoop {s:Nat} (hs:1≤s∧s≤10) {w:List Int} (hw:Rg s w) (hl:w.length≤1000) (n:Nat) (hn:1000000≤n): ∀(v:List Int) (k:Nat) (u:List Int) (m:Nat),w.drop k=v→k+v.length=w.length→v.length<m→(∀y∈u,Lr s y)→u.length≤20000→
  loopN m (F.qce n (s:Int) w) (u,(k:Int))=some (if afull v u=true then .inr ([],5) else .inl (fact v u,(w.length:Int)))
 | [],k,u,m,hd,hk,hm,hu,hul=>by
  obtain ⟨m,rfl⟩: ∃m',m=m'+1:=⟨m-1,by omega⟩
  simp only [List.length_nil,Nat.add_zero] at hk
  subst hk
  have hb:F.qce n (s:Int) w (u,(w.length:Int))=some (.inr (.inl (u,(w.length:Int)))):=by
   unfold F.qce
   dsimp only
   rw [dF (by omega),kF]
  rw [loop_inr hb,show afull [] u=false from dF (by omega)]
  rfl
 | x::v,k,u,m,hd,hk,hm,hu,hul=>by
  obtain ⟨m,rfl⟩: ∃m',m=m'+1:=⟨m-1,by omega⟩
  simp only [List.length_cons] at hk hm
  have hx:w[k]? =some x:=by
   have:=congrArg (·[0]?) hd
   simpa using this
  have hd':w.drop (k+1)=v:=by
   rw [←List.drop_drop,hd]; rfl
  have hxr:=hw x (List.mem_of_getElem? hx)
  rw [afull_cons (by omega)]
  by_cases hf:20000<(ird (isub x u)).length
  ·
   have hb:F.qce n (s:Int) w (u,(k:Int))=some (.inr (.inr ([],5))):=by
    unfold F.qce
    dsimp only
    rw [dT (by omega),kT,get_at rfl hx,bB,actC1 hs hxr _ n (by omega),bB,wordSubst hs hxr hu hul n hn,bB]
    dsimp only
    rw [dT rfl,Bool.not_true,kF,dT (by omega),kT]
   rw [loop_inr hb,afull_true hf]; rfl
  ·
   have hb:F.qce n (s:Int) w (u,(k:Int))=some (.inl (ird (isub x u),((k+1:Nat):Int))):=by
    unfold F.qce
    dsimp only
    rw [dT (by omega),kT,get_at rfl hx,bB,actC1 hs hxr _ n (by omega),bB,wordSubst hs hxr hu hul n hn,bB]
    dsimp only
    rw [dT rfl,Bool.not_true,kF,dF (by omega),kF,qaj (by omega) (by omega)]
    rfl
   rw [loop_inl hb,actLoop hs hw hl n hn v (k+1) _ m hd' (by omega) (by omega) (isub_ird_lr hxr hu) (by omega)]
   rfl
theorem ird_sm {u:List Int} {s:Nat} (hu: ∀y∈u,Lr s y): ∀y∈ird u,Lr s y:=fun y hy=>hu y (ird_mem y hy)
theorem lr_sm {u:List Int} {s:Nat} (hs:s≤10) (hu: ∀y∈u,Lr s y):Sm u:=fun y hy=>by have:=hu y hy; unfold Lr at this; omega
theorem artinAct {s:Nat} {w u:List Int} (hv:okB (s:Int) w=true) (hu: ∀y∈u,Lr s y) (hl:u.length≤100000) (n:Nat) (hn:1000000≤n):F.artin_Act n (s:Int) w u=some (if afull w (ird u)=true then ([],5) else (fact w (ird u),0)):=by
 obtain ⟨a1,a2,a3,a4⟩:=okB_iff.1 hv
 have hw:Rg s w:=fun x hx=>a4 x hx
 unfold F.artin_Act
 rw [braidValid n (by omega),hv,bB,Bool.not_true,kF,wordValid (by omega) (by omega) n (by omega),wV_iff.2 (fun y hy=>by have:=hu y hy; unfold Lr at this; omega),bB,Bool.not_true,kF,wordReduce (lr_sm (by omega) hu) (by omega) n (by omega),bB]
 by_cases hf:20000<(ird u).length
 ·
  rw [dT (by omega),kT]
  rw [afull_true hf]; rfl
 ·
  rw [dF (by omega),kF]
  have:=actLoop (by omega) hw (by omega) n hn w 0 (ird u) n rfl (by omega) (by omega) (ird_sm hu) (by omega)
  have e:loopN n (F.qce n (s:Int) w) (ird u,0)=_:=this
  rw [e,bB]
  cases afull w (ird u)<;>rfl
/-! Crossings of a path. -/
theorem rd_count (l:List Nat) (g:Nat):(rd l).count g≤l.count g:=by
 induction l with
 | nil=>exact Nat.le_refl _
 | cons a l ih=>
  rw [rd,List.count_cons]
  generalize rd l=w at ih
  cases w with
  | nil=>simp [pushG,List.count_cons]
  | cons b t=>
   rw [List.count_cons] at ih
   by_cases e:a=b
   · subst e; rw [pushG_eq]; omega
   · rw [qfy e,List.count_cons,List.count_cons]; omega
theorem rd_mem {l:List Nat}: ∀g∈rd l,g∈l:=fun g hg=>by
 have h1:=List.count_pos_iff.2 hg
 have h2:=rd_count l g
 exact List.count_pos_iff.1 (by omega)
theorem rd_par (l:List Nat):(rd l).length%2=l.length%2:=by
 induction l with
 | nil=>rfl
 | cons a l ih=>
  rw [rd,List.length_cons]
  generalize rd l=w at ih
  cases w with
  | nil=>simp [pushG] at ih⊢; omega
  | cons b t=>
   rw [List.length_cons] at ih
   by_cases e:a=b
   · subst e; rw [pushG_eq]; omega
   · rw [qfy e]; simp only [List.length_cons]; omega
theorem img_count {x:Int} (hx:x≠0) (e:Bool) (h g:Nat):(img x e h).count g=(if h=g then 1 else 0)+(if h=x.natAbs∧(g+1=x.natAbs∨g=x.natAbs+1) then 1 else 0):=by
 unfold img
 by_cases h1:h=x.natAbs
 ·
  rw [if_pos h1]
  have: ∀a b c:Nat,[a,b,c].count g=(if a=g then 1 else 0)+(if b=g then 1 else 0)+(if c=g then 1 else 0):=fun a b c=>by
   simp only [List.count_cons,List.count_nil,beq_iff_eq]; omega
  split<;>rw [this]<;>repeat' split
  all_goals omega
 ·
  rw [if_neg h1,if_neg (c:=h=x.natAbs∧_) (fun k=>h1 k.1)]
  simp [List.count_cons]
theorem sub_count {x:Int} (hx:x≠0) (g:Nat) (G:List Nat): ∀e:Bool,(sub x e G).count g=G.count g+(if g+1=x.natAbs∨g=x.natAbs+1 then G.count x.natAbs else 0):=by
 induction G with
 | nil=>intro e; simp [sub]
 | cons h t ih=>
  intro e
  rw [sub,List.count_append,ih,img_count hx,List.count_cons,List.count_cons]
  simp only [beq_iff_eq]
  generalize x.natAbs=i
  generalize List.count g t=a
  generalize List.count i t=b
  by_cases hc:g+1=i∨g=i+1
  ·
   by_cases h2:h=i
   ·
    subst h2
    simp only [hc,and_self,if_true]; omega
   · simp only [hc,h2,false_and,if_true,if_false]; omega
  · simp only [hc,and_false,if_false]; omega
def fibn:Nat→Nat
 | 0=>0
 | 1=>1
 | n+2=>fibn n+fibn (n+1)
theorem fibn_le (n:Nat):fibn n≤fibn (n+1):=by
 cases n with
 | zero=>decide
 | succ n=>show _≤fibn n+fibn (n+1); omega
theorem fibn_mono {m n:Nat} (h:m≤n):fibn m≤fibn n:=by
 induction h with
 | refl=>exact Nat.le_refl _
 | step _ ih=>exact Nat.le_trans ih (fibn_le _)
def cG (w:List Int) (j g:Nat):Nat:=(rd (gapw (iact w j))).count g
section
variable {N : Nat}
theorem cG_step {x:Int} {w:List Int} (hw:Rg N (x::w)) {j:Nat} (h1:1≤j) (h2:j≤N) (g:Nat):cG (x::w) j g≤cG w j g+(if g+1=x.natAbs∨g=x.natAbs+1 then cG w j x.natAbs else 0):=by
 have hw':Rg N w:=fun z hz=>hw z (by simp [hz])
 have hx:=(hw x (by simp)).1
 have e:GE (gapw (iact (x::w) j)) (sub x true (rd (gapw (iact w j)))):=by
  refine (gapw_ird _).trans ((isub_gapw hx fun y hy=>(iact_lr hw' h1 h2 y hy).1).trans ?_)
  exact sub_ge x true (GE.rd _).symm
 have e':rd (gapw (iact (x::w) j))=rd (sub x true (rd (gapw (iact w j)))):=e
 unfold cG
 rw [e',←sub_count hx]
 exact rd_count _ _
theorem cG_bound: ∀{w:List Int},Rg N w→∀{j:Nat},1≤j→j≤N→∀g,cG w j g≤fibn (w.length+2)∧cG w j g+cG w j (g+1)≤fibn (w.length+3)
 | [],_,j,h1,h2,g=>by
  have e:rd (gapw (iact [] j))=[j-1,j]:=by
   show rd (gap (j:Int)++[])=_
   unfold gap
   rw [if_pos (by omega),Int.toNat_natCast,List.append_nil]
   exact rd_of ⟨by omega,trivial⟩
  have hc: ∀g,cG [] j g=(if j-1=g then 1 else 0)+(if j=g then 1 else 0):=fun g=>by
   unfold cG; rw [e]; simp only [List.count_cons,List.count_nil,beq_iff_eq]; omega
  rw [hc,hc]
  show _≤1∧_≤2
  repeat' split
  all_goals omega
 | x::w,hw,j,h1,h2,g=>by
  have hw':Rg N w:=fun z hz=>hw z (by simp [hz])
  have ih:=cG_bound hw' h1 h2
  have s1:=cG_step hw h1 h2 g
  have s2:=cG_step hw h1 h2 (g+1)
  have hx:=hw x (by simp)
  have f3:fibn (w.length+4)=fibn (w.length+2)+fibn (w.length+3):=rfl
  have f2:=fibn_le (w.length+2)
  rw [List.length_cons]
  show _≤fibn (w.length+3)∧_≤fibn (w.length+4)
  generalize hi:x.natAbs=i at s1 s2
  have hi1:1≤i:=by omega
  have a0:=ih g
  have a1:=ih (g+1)
  have ai:=ih i
  have am:=ih (i-1)
  rw [show i-1+1=i by omega] at am
  by_cases c1:g+1=i
  ·
   subst c1
   rw [if_pos (.inl rfl)] at s1
   rw [if_neg (by omega)] at s2
   have a2:=ih (g+1+1)
   omega
  ·
   by_cases c2:g=i+1
   ·
    subst c2
    rw [if_pos (.inr rfl)] at s1
    rw [if_neg (by omega)] at s2
    have a2:=ih (i+1+1)
    omega
   ·
    rw [if_neg (by omega)] at s1
    by_cases c3:g+1+1=i
    ·
     subst c3
     rw [if_pos (.inl rfl)] at s2
     omega
    ·
     by_cases c4:g=i
     ·
      subst c4
      rw [if_pos (.inr rfl)] at s2
      omega
     ·
      rw [if_neg (by omega)] at s2
      omega
end
/-! From the crossings to the letters. -/
def arc (a b:Nat):List Int:=if a≤b then (List.range (b-a)).map (fun t=>((a+1+t:Nat):Int)) else (List.range (a-b)).map (fun t=>-((a-t:Nat):Int))
def arcs:List Nat→List Int
 | a::b::t=>arc a b++arcs t
 | _=>[]
theorem xs_add (a k:Nat):xs (a+k)=xs a++(List.range k).map (fun t=>((a+1+t:Nat):Int)):=by
 induction k with
 | zero=>simp
 | succ k ih=>
  rw [←Nat.add_assoc,xs,ih,List.range_succ,List.map_append,List.append_assoc]
  congr 3
  show ((a+k+1:Nat):Int)=((a+1+k:Nat):Int)
  rw [show a+k+1=a+1+k by omega]
theorem neg_range (b k:Nat):neg ((List.range k).map (fun t=>((b+1+t:Nat):Int)))=(List.range k).map (fun t=>-((b+k-t:Nat):Int)):=by
 unfold neg
 rw [List.map_map]
 apply List.ext_getElem?
 intro i
 by_cases hi:i<k
 ·
  rw [List.getElem?_reverse (by simpa using hi),List.length_map,List.length_range,List.getElem?_map,List.getElem?_map,List.getElem?_range (by omega),List.getElem?_range hi]
  show some (-((b+1+(k-1-i):Nat):Int))=some _
  rw [show b+1+(k-1-i)=b+k-i by omega]
 · rw [List.getElem?_eq_none (by simp; omega),List.getElem?_eq_none (by simp; omega)]
theorem arc_ie (a b:Nat):IE (neg (xs a)++xs b) (arc a b):=by
 unfold arc
 by_cases h:a≤b
 ·
  rw [if_pos h]
  obtain ⟨k,rfl⟩: ∃k,b=a+k:=⟨b-a,by omega⟩
  rw [xs_add,←List.append_assoc,Nat.add_sub_cancel_left]
  exact (IE.inv (xs a)).right _
 ·
  rw [if_neg h]
  obtain ⟨k,rfl⟩: ∃k,a=b+k:=⟨a-b,by omega⟩
  rw [xs_add,neg_app,neg_range,Nat.add_sub_cancel_left,List.append_assoc]
  have:=(IE.inv (xs b)).left ((List.range k).map (fun t=>-((b+k-t:Nat):Int)))
  rwa [List.append_nil] at this
theorem arcs_ie: ∀(m:Nat) (G:List Nat),G.length=2*m→IE (kap true G) (arcs G)
 | 0,[],_=>.refl _
 | 0,_::_,h=>by simp at h
 | m+1,[],h=>by simp at h
 | m+1,[_],h=>by simp at h; omega
 | m+1,a::b::t,h=>by
  have ih:=arcs_ie m t (by simp at h; omega)
  show IE (neg (xs a)++(xs b++kap true t)) (arc a b++arcs t)
  rw [←List.append_assoc]
  exact (arc_ie a b).app ih
def wtg (g:Nat):Nat:=(2*(g:Int)-5).natAbs
theorem arc_len (a b:Nat):2*(arc a b).length≤wtg a+wtg b:=by
 unfold arc wtg
 split<;>rw [List.length_map,List.length_range]<;>omega
theorem arcs_len: ∀(m:Nat) (G:List Nat),G.length=2*m→2*(arcs G).length≤(G.map wtg).sum
 | 0,[],_=>Nat.le_refl _
 | 0,_::_,h=>by simp at h
 | m+1,[],h=>by simp at h
 | m+1,[_],h=>by simp at h; omega
 | m+1,a::b::t,h=>by
  have ih:=arcs_len m t (by simp at h; omega)
  have:=arc_len a b
  show 2*(arc a b++arcs t).length≤_
  rw [List.length_append,List.map_cons,List.map_cons,List.sum_cons,List.sum_cons]
  omega
theorem wt_sum {G:List Nat} (h: ∀g∈G,g≤5):(G.map wtg).sum=5*G.count 0+3*G.count 1+G.count 2+G.count 3+3*G.count 4+5*G.count 5:=by
 induction G with
 | nil=>rfl
 | cons a t ih=>
  have ha:=h a (by simp)
  rw [List.map_cons,List.sum_cons,ih fun g hg=>h g (by simp [hg])]
  simp only [List.count_cons,beq_iff_eq]
  have:a=0∨a=1∨a=2∨a=3∨a=4∨a=5:=by omega
  rcases this with rfl | rfl | rfl | rfl | rfl | rfl<;>simp [wtg]<;>omega
theorem gap_le {N:Nat} {y:Int} (hy:Lr N y): ∀g∈gap y,g≤N:=by
 intro g hg
 unfold Lr at hy
 unfold gap at hg
 split at hg<;>simp at hg<;>omega
theorem iact_small {N:Nat} (hN:N≤5) {w:List Int} (hw:Rg N w) (hl:w.length≤16) {j:Nat} (h1:1≤j) (h2:j≤N):(iact w j).length≤20000:=by
 have hlr:=iact_lr hw h1 h2
 have hG: ∀g∈rd (gapw (iact w j)),g≤5:=fun g hg=>by
  have:=rd_mem g hg
  unfold gapw at this
  rw [List.mem_flatMap] at this
  obtain ⟨y,hy,hg2⟩:=this
  have:=gap_le (hlr y hy) g hg2
  omega
 have hpar:(gapw (iact w j)).length%2=0:=by
  generalize iact w j=u
  induction u with
  | nil=>rfl
  | cons y u ih=>rw [qdo,List.length_append,gap_len]; omega
 have hev:=rd_par (gapw (iact w j))
 obtain ⟨m,hm⟩: ∃m,(rd (gapw (iact w j))).length=2*m:=⟨(rd (gapw (iact w j))).length/ 2,by omega⟩
 have e1:IE (arcs (rd (gapw (iact w j)))) (iact w j):=(arcs_ie m _ hm).symm.trans ((kap_ge true (GE.rd _)).trans (kap_gapw fun y hy=>(hlr y hy).1))
 have e2:iact w j=ird (arcs (rd (gapw (iact w j)))):=by
  have h3:ird (arcs (rd (gapw (iact w j))))=ird (iact w j):=e1
  rw [h3,ird_of (iact_rdc w j)]
 have l1:=ird_le (arcs (rd (gapw (iact w j))))
 rw [←e2] at l1
 have l2:=arcs_len m _ hm
 rw [wt_sum hG] at l2
 have b:=cG_bound hw h1 h2
 have f1:fibn (w.length+2)≤fibn 18:=fibn_mono (by omega)
 have f2:fibn (w.length+3)≤fibn 19:=fibn_mono (by omega)
 have v1:fibn 18=2584:=rfl
 have v2:fibn 19=4181:=rfl
 have b0:=b 0
 have b2:=b 2
 have b4:=b 4
 have b5:=b 5
 unfold cG at b0 b2 b4 b5
 simp only [Nat.zero_add,Nat.reduceAdd] at b0 b2 b4 b5
 omega
/-! The action,from the first letter on. -/
theorem fact_iact: ∀(w v:List Int) (j:Nat),fact w (iact v j)=iact (w.reverse++v) j
 | [],v,j=>rfl
 | x::w,v,j=>by
  show fact w (iact (x::v) j)=_
  rw [fact_iact w (x::v) j,List.reverse_cons,List.append_assoc]; rfl
theorem afull_of {j:Nat}: ∀(w v:List Int),(∀u t,w=u++t→(iact (u.reverse++v) j).length≤20000)→afull w (iact v j)=false
 | [],v,h=>dF (by have:=h [] [] rfl; rw [List.reverse_nil,List.nil_append] at this; omega)
 | x::w,v,h=>by
  have h0:=h [] (x::w) rfl
  rw [List.reverse_nil,List.nil_append] at h0
  rw [afull_cons (by omega)]
  show afull w (iact (x::v) j)=false
  refine afull_of w (x::v) fun u t e=>?_
  have:=h (x::u) t (by rw [e]; rfl)
  rwa [List.reverse_cons,List.append_assoc] at this
theorem Rg.rev {N:Nat} {w:List Int} (h:Rg N w):Rg N w.reverse:=fun x hx=>h x (List.mem_reverse.1 hx)
theorem not_full {N:Nat} (hN:N≤5) {w:List Int} (hw:Rg N w) (hl:w.length≤16) {j:Nat} (h1:1≤j) (h2:j≤N):afull w [(j:Int)]=false:=by
 have:=afull_of (j:=j) w [] fun u t e=>by
  subst e
  rw [List.append_nil]
  have hu:Rg N u:=fun x hx=>hw x (by simp [hx])
  refine iact_small hN hu.rev ?_ h1 h2
  rw [List.length_append] at hl
  rw [List.length_reverse]; omega
 exact this
def rowsA (s:Nat) (w:List Int):List (List Int):=(List.range s).map fun k=>fact w [((k+1:Nat):Int)]
def fullA (s:Nat) (w:List Int):Bool:=(List.range s).any fun k=>afull w [((k+1:Nat):Int)]
theorem rowsA_len (s:Nat) (w:List Int):(rowsA s w).length=s:=by simp [rowsA]
theorem rowsA_at {s:Nat} {w:List Int} {k:Nat} (h:k<s):(rowsA s w)[k]? =some (fact w [((k+1:Nat):Int)]):=by simp [rowsA,h]
theorem rowLoop {R:Type} {body:List (List Int)×Int→Option ((List (List Int)×Int)⊕((List (List Int)×Int)⊕R))} (f:Nat→List Int) (bad:Nat→Bool) (s:Nat) (off:Int) (r0:R)
  (step: ∀k,k<s→body ((List.range k).map f,(k:Int)+off)=if bad k=true then some (.inr (.inr r0)) else some (.inl ((List.range (k+1)).map f,((k+1:Nat):Int)+off)))
  (last:body ((List.range s).map f,(s:Int)+off)=some (.inr (.inl ((List.range s).map f,(s:Int)+off)))) (n:Nat) (hn:s<n):
  loopN n body ([],off)=some (if ((List.range s).any bad)=true then .inr r0 else .inl ((List.range s).map f,(s:Int)+off)):=by
 have key: ∀(j k n:Nat),k+j=s→j<n→((List.range k).any bad)=false→loopN n body ((List.range k).map f,(k:Int)+off)=some (if ((List.range s).any bad)=true then .inr r0 else .inl ((List.range s).map f,(s:Int)+off)):=by
  intro j
  induction j with
  | zero=>
   intro k n hk hn hb
   obtain ⟨n,rfl⟩: ∃n',n=n'+1:=⟨n-1,by omega⟩
   obtain rfl:k=s:=by omega
   rw [loop_inr last,hb]; rfl
  | succ j ih=>
   intro k n hk hn hb
   obtain ⟨n,rfl⟩: ∃n',n=n'+1:=⟨n-1,by omega⟩
   have h:=step k (by omega)
   cases hbk:bad k with
   | true=>
    rw [hbk,if_pos rfl] at h
    rw [loop_inr h,if_pos]
    exact List.any_eq_true.2 ⟨k,List.mem_range.2 (by omega),hbk⟩
   | false=>
    rw [hbk,if_neg (by decide)] at h
    rw [loop_inl h]
    refine ih (k+1) n (by omega) (by omega) ?_
    rw [List.range_succ,List.any_append,hb]
    simp [hbk]
 have:=key s 0 n (by omega) hn (by rfl)
 simpa using this
theorem gen_lr {s k:Nat} (h:k<s): ∀y∈[((k+1:Nat):Int)],Lr s y:=fun y hy=>by
 rw [List.mem_singleton] at hy; subst hy; unfold Lr; omega
theorem ird_one (x:Int):ird [x]=[x]:=rfl
theorem artinImages {s:Nat} {w:List Int} (hv:okB (s:Int) w=true) (n:Nat) (hn:1000000≤n):F.qen n (s:Int) w=some (if fullA s w=true then ([],5) else (rowsA s w,0)):=by
 obtain ⟨a1,a2,a3,a4⟩:=okB_iff.1 hv
 unfold F.qen
 rw [braidValid n (by omega),hv,bB,Bool.not_true,kF]
 have:=rowLoop (body:=F.qes n (s:Int) w) (fun k=>fact w [((k+1:Nat):Int)]) (fun k=>afull w [((k+1:Nat):Int)]) s 0 ([],5) (fun k hk=>by
  unfold F.qes
  dsimp only
  rw [dT (by omega),kT,qaj (by omega) (by omega),bB,show (k:Int)+0+1=((k+1:Nat):Int) by omega,artinAct hv (gen_lr hk) (by simp) n hn,bB,ird_one]
  cases hb:afull w [((k+1:Nat):Int)] with
  | true=>rfl
  | false=>
   rw [if_neg (by decide),if_neg (by decide),List.range_succ,List.map_append]
   dsimp only
   rw [dT rfl,Bool.not_true,kF,lim_ok (by simp; omega),bB]
   rfl) (by
  unfold F.qes
  dsimp only
  rw [dF (by omega),kF]) n (by omega)
 rw [this,bB]
 unfold fullA rowsA
 cases (List.range s).any fun k=>afull w [((k+1:Nat):Int)]<;>rfl
theorem artinImages_bad {s:Int} {w:List Int} (hv:okB s w=false) (n:Nat) (hn:w.length<n):F.qen n s w=some ([],1):=by
 unfold F.qen
 rw [braidValid n hn,hv]; rfl
theorem notFullA {s:Nat} (hs:s≤5) {w:List Int} (hw:Rg s w) (hl:w.length≤16):fullA s w=false:=by
 unfold fullA
 rw [Bool.eq_false_iff]
 intro h
 obtain ⟨k,h1,h2⟩:=List.any_eq_true.1 h
 have hk:=List.mem_range.1 h1
 rw [not_full hs hw hl (by omega) (by omega)] at h2
 cases h2
theorem fact_rev (w:List Int) (j:Nat):fact w [(j:Int)]=iact w.reverse j:=by
 have:=fact_iact w [] j
 rw [List.append_nil] at this
 exact this
