import Derived.Test.YtlkmcbgkohpmiaaPHuf2
import Derived.Test.YtlkmcbgkohpmiaaPHclo4
set_option linter.all false
namespace Go.Proofs.Ytlkmcbgkohpmiaa
open Ev
namespace Ho
open Gar
section
variable {n : Nat}
theorem mu_len (v p:List Int):(mu v p).length=v.length:=by unfold mu; exact List.length_map ..
theorem Pe.rng {p:List Int} (h:Pe n p): ∀k,k<n→∃a:Nat,a<n∧p[k]? =some (a:Int):=fun k hk=>by
 obtain ⟨f,g,h1,rfl⟩:=h
 exact ⟨f k,h1.lt hk,li_at hk⟩
theorem mul2_run {v p:List Int} (hv:Pe n v) (hp:Pe n p) (m:Nat) (hm:n<m) (hb:n≤1000):loopN m (F.qbk m v p) (0,v)=some ((n:Int),mu v p):=by
 have hl:=hv.len
 have hx:=qax (body:=F.qbk m v p) (fun k=>((k:Int),(mu v p).take k++v.drop k)) n (r:=((n:Int),mu v p)) (fun k hk=>?_) ?_ m hm
 · simpa using hx
 ·
  obtain ⟨a,ha,e1⟩:=hv.rng k hk
  obtain ⟨b,hb2,e2⟩:=hp.rng a ha
  have eM:(mu v p)[k]? =some (b:Int):=by
   unfold mu
   rw [List.getElem?_map,e1,Option.map_some,Int.toNat_natCast,List.getD_eq_getElem?_getD,e2,Option.getD_some]
  have hlt:((mu v p).take k).length=k:=by rw [List.length_take,mu_len,hl]; omega
  have eq:((mu v p).take k++v.drop k)[k]? =some (a:Int):=by
   rw [List.getElem?_append_right (by omega),hlt,List.getElem?_drop,Nat.sub_self,Nat.add_zero,e1]
  have hs:((mu v p).take k++v.drop k).set k (b:Int)=(mu v p).take (k+1)++v.drop (k+1):=by
   apply List.ext_getElem?
   intro i
   have hlt1:((mu v p).take (k+1)).length=k+1:=by rw [List.length_take,mu_len,hl]; omega
   rcases Nat.lt_trichotomy i k with h | h | h
   · rw [List.getElem?_set_ne (by omega),List.getElem?_append_left (by omega),List.getElem?_append_left (by omega),List.getElem?_take_of_lt h,List.getElem?_take_of_lt (by omega)]
   ·
    subst h
    rw [List.getElem?_set_self (by rw [List.length_append,hlt,List.length_drop,hl]; omega),List.getElem?_append_left (by omega),List.getElem?_take_of_lt (by omega),eM]
   ·
    rw [List.getElem?_set_ne (by omega),List.getElem?_append_right (by omega),List.getElem?_append_right (by omega),hlt,hlt1,List.getElem?_drop,List.getElem?_drop]
    congr 1; omega
  unfold F.qbk
  dsimp only
  rw [dT (by rw [hl]; omega),kT,get_at rfl eq,bB,get_at rfl e2,bB,bB,qaj (by omega) (by omega),bB,Int.toNat_natCast,hs]
  rfl
 ·
  unfold F.qbk
  dsimp only
  rw [dF (by rw [hl]; omega),kF,List.take_of_length_le (by rw [mu_len,hl]; exact Nat.le_refl _),List.drop_of_length_le (by rw [hl]; exact Nat.le_refl _),List.append_nil]
structure Al (n k:Nat) (x l inv:List (List Int)):Prop where
 tu:Tu n k x
 l1:l.take k=x
 l2:inv.take k=x.map (iv n)
theorem Al.at1 {k:Nat} {x l inv:List (List Int)} (h:Al n k x l inv) {i:Nat} (hi:i<k):l[i]? =some (x.getD i []):=by
 have hx:i<x.length:=by rw [h.tu.len]; exact hi
 have:=List.getElem?_take_of_lt (l:=l) hi
 rw [←this,h.l1,gE hx,List.getD_eq_getElem?_getD,gE hx,Option.getD_some]
theorem Al.at2 {k:Nat} {x l inv:List (List Int)} (h:Al n k x l inv) {i:Nat} (hi:i<k):inv[i]? =some (iv n (x.getD i [])):=by
 have hx:i<x.length:=by rw [h.tu.len]; exact hi
 have:=List.getElem?_take_of_lt (l:=inv) hi
 rw [←this,h.l2,List.getElem?_map,gE hx,List.getD_eq_getElem?_getD,gE hx,Option.getD_some]
 rfl
theorem Al.more {k:Nat} {x l inv:List (List Int)} (h:Al n k x l inv) {p:List Int} (hp:Pe n p) (h1:k<l.length) (h2:k<inv.length):Al n (k+1) (x++[p]) (l.set k p) (inv.set k (iv n p)):=by
 have key: ∀(l:List (List Int)) (q:List Int),k<l.length→(l.set k q).take (k+1)=l.take k++[q]:=fun l q hk=>by
  apply List.ext_getElem?
  intro i
  have hl:(l.take k).length=k:=by rw [List.length_take]; omega
  rcases Nat.lt_trichotomy i k with h | h | h
  · rw [List.getElem?_take_of_lt (by omega),List.getElem?_set_ne (by omega),List.getElem?_append_left (by omega),List.getElem?_take_of_lt h]
  ·
   subst h
   rw [List.getElem?_take_of_lt (by omega),List.getElem?_set_self hk,List.getElem?_append_right (by omega),hl,Nat.sub_self]; rfl
  · rw [List.getElem?_eq_none (by rw [List.length_take,List.length_set]; omega),List.getElem?_eq_none (by rw [List.length_append,hl]; simp; omega)]
 refine ⟨⟨by rw [List.length_append,h.tu.len]; rfl,fun q hq=>?_⟩,by rw [key l p h1,h.l1],by rw [key inv _ h2,h.l2,List.map_append]; rfl⟩
 rcases List.mem_append.1 hq with e | e
 · exact h.tu.pe q e
 · rw [List.mem_singleton] at e; rw [e]; exact hp
theorem mul_run {k:Nat} {x l inv:List (List Int)} (h:Al n k x l inv) (hk:k≤1000) (hn:n≤1000) {w v:List Int} (hv:Pe n v) (hw: ∀y∈w,Lr k y) (hl:w.length≤100000) (m:Nat) (hm:200000≤m):
  F.qfo m v w l inv=some (w.foldl (fun v y=>mu v (lt n x y)) v):=by
 have pe: ∀i,Pe n ((w.take i).foldl (fun v y=>mu v (lt n x y)) v):=fun i=>h.tu.fold _ v hv fun y hy=>hw y (List.mem_of_mem_take hy)
 unfold F.qfo
 have hx:=qax (body:=F.qdd m v w l inv) (fun i=>((i:Int),(w.take i).foldl (fun v y=>mu v (lt n x y)) v)) w.length (r:=((w.length:Int),w.foldl (fun v y=>mu v (lt n x y)) v)) (fun i hi=>?_) ?_ m (by omega)
 · rw [show loopN m (F.qdd m v w l inv) (0,v)=some ((w.length:Int),w.foldl (fun v y=>mu v (lt n x y)) v) by simpa using hx,bB]
 ·
  have hy:=hw w[i] (List.getElem_mem hi)
  have e1:w[i]? =some w[i]:=gE hi
  have e2:w.take (i+1)=w.take i++[w[i]]:=by rw [List.take_succ,e1]; rfl
  have hv1:=(pe i).len
  have hvl:v.length=n:=hv.len
  have st: ∀(p:List Int) (b:Bool),Pe n p→F.qei m v (i:Int) ((w.take i).foldl (fun v y=>mu v (lt n x y)) v) p b=some (.inl ((i:Int)+1,mu ((w.take i).foldl (fun v y=>mu v (lt n x y)) v) p)):=fun p b hp=>by
   unfold F.qei
   have:=mul2_run (pe i) hp m (by omega) hn
   have hb: ∀a,F.qbk m v p a=F.qbk m ((w.take i).foldl (fun v y=>mu v (lt n x y)) v) p a:=fun a=>by
    unfold F.qbk; rw [hv1,hvl]
   rw [show F.qbk m v p=F.qbk m ((w.take i).foldl (fun v y=>mu v (lt n x y)) v) p from funext hb,this,bB]
   dsimp only
   rw [qaj (by omega) (by omega),bB]
  unfold F.qdd
  dsimp only
  unfold Lr at hy
  rw [dT (by omega),kT,get_at rfl e1,bB,e2,List.foldl_append]
  by_cases h0:0<w[i]
  ·
   rw [dT h0,kT,qaj (by omega) (by omega),bB,get_at (k:=w[i].toNat-1) (by omega) (h.at1 (by omega)),bB,st _ _ (h.tu.at_ (by omega))]
   show _=some (Sum.inl (((i+1:Nat):Int),mu _ (lt n x w[i])))
   unfold lt
   rw [if_pos h0]; rfl
  ·
   rw [dF h0,kF,qaj (by omega) (by omega),bB,qaj (by omega) (by omega),bB,get_at (k:=(-w[i]).toNat-1) (by omega) (h.at2 (by omega)),bB,st _ _ (h.tu.at_ (by omega)).iv]
   show _=some (Sum.inl (((i+1:Nat):Int),mu _ (lt n x w[i])))
   unfold lt
   rw [if_neg h0]; rfl
 ·
  unfold F.qdd
  dsimp only
  rw [dF (by omega),kF,List.take_length]
/-! The relators of one generator. -/
theorem rel_run {k:Nat} {x l inv:List (List Int)} {gen:Nat} {p q:List Int} (h:Al n k x (l.set gen p) (inv.set gen q)) (hk:k≤1000) (hn:n≤1000) {rs:List (List Int)} (hr: ∀r∈rs,(∀y∈r,Lr k y)∧r.length≤100000) (hl:rs.length≤1000) {v:List Int} (hv:v.length=n)
  (m:Nat) (hm:200000≤m) (self:Int→Int→List Int→List (List Int)→Int→List (List Int)→List (List Int)→Int→List (List Int)→List (List (List Int))→List Int→List Int→Option (Bool×List (List Int)×List (List Int)×List Int×Int×Int)):
  ∃o,loopN m (F.qfw self m (gen:Int) (un n) l inv p q rs) (0,v)=some o∧(match o with | .inl s=>s.2.length=n∧∀r∈rs,ev n x r=un n | .inr s=>s.2.length=n∧¬∀r∈rs,ev n x r=un n):=by
 refine qby (fun s=> ∃i:Nat,i≤rs.length∧s.1=(i:Int)∧s.2.length=n∧∀r∈rs.take i,ev n x r=un n) (fun s=>rs.length-s.1.toNat) _ ?_ m (0,v) ⟨0,Nat.zero_le _,rfl,hv,by simp⟩ (by show rs.length-(0:Int).toNat<m; omega)
 rintro ⟨s1,s2⟩ ⟨i,hi,e1,hs,ha⟩
 dsimp only at e1 hs
 subst e1
 unfold F.qfw
 dsimp only
 by_cases hlt:i<rs.length
 ·
  have eg:rs[i]? =some rs[i]:=gE hlt
  obtain ⟨r1,r2⟩:=hr rs[i] (List.getElem_mem hlt)
  have hmin:min (un n).length s2.length=n:=by rw [(Pe.un n).len,hs]; exact Nat.min_self n
  have ecp:(un n).take n++s2.drop n=un n:=by rw [List.take_of_length_le (by rw [(Pe.un n).len]; exact Nat.le_refl _),List.drop_of_length_le (by rw [hs]; exact Nat.le_refl _),List.append_nil]
  have pe:=h.tu.ev r1
  obtain ⟨b,q1,q2⟩:=equalP (a:=ev n x rs[i]) (b:=un n) m (by rw [pe.len]; omega) (by rw [pe.len]; omega)
  have ht:rs.take (i+1)=rs.take i++[rs[i]]:=by rw [List.take_succ,eg]; rfl
  have hbody:(cond (decide ((i:Int)<(rs.length:Int))) ((get rs (i:Int)).bind fun x117=>(F.qfo m ((un n).take (min (un n).length s2.length)++s2.drop (min (un n).length s2.length)) x117 (l.set (gen:Int).toNat p) (inv.set (gen:Int).toNat q)).bind fun y131=>(F.qcb m y131 (un n)).bind fun y136=>cond (!y136) (some (Sum.inr (Sum.inr ((i:Int),y131)))) ((chk ((i:Int)+1)).bind fun z142=>some (Sum.inl (z142,y131)))) (some (Sum.inr (Sum.inl ((i:Int),s2)))))=cond (!b) (some (Sum.inr (Sum.inr ((i:Int),ev n x rs[i])))) (some (Sum.inl ((i:Int)+1,ev n x rs[i]))):=by
   rw [dT (by omega),kT,get_at rfl eg,bB,hmin,ecp,Int.toNat_natCast,mul_run h hk hn (Pe.un n) r1 r2 m hm,bB]
   rw [show rs[i].foldl (fun v y=>mu v (lt n x y)) (un n)=ev n x rs[i] from rfl,q1,bB,qaj (by omega) (by omega),bB]
  rw [hbody]
  cases b with
  | true=>
   left
   refine ⟨_,rfl,⟨i+1,hlt,rfl,pe.len,fun r hm2=>?_⟩,by dsimp only; omega⟩
   rw [ht] at hm2
   rcases List.mem_append.1 hm2 with e | e
   · exact ha r e
   · rw [List.mem_singleton] at e; rw [e]; exact q2.1 rfl
  | false=>
   right
   refine ⟨_,rfl,pe.len,fun hall=>?_⟩
   have:=q2.2 (hall _ (List.getElem_mem hlt))
   cases this
 ·
  right
  rw [dF (by omega),kF]
  refine ⟨_,rfl,hs,?_⟩
  rw [List.take_of_length_le (by omega)] at ha
  exact ha
end
end Ho
end Go.Proofs.Ytlkmcbgkohpmiaa

set_option linter.all false
namespace Go.Proofs.Ytlkmcbgkohpmiaa
open Ev
namespace Ho
open Gar
def okr (n:Nat) (rels:List (List (List Int))) (y:List (List Int)):Prop:= ∀r∈rels.getD (y.length-1) [],ev n y r=un n
open Classical in
noncomputable def cT (n:Nat) (C:List (List Int)) (rels:List (List (List Int))):Nat→List (List Int)→Nat
 | 0,_=>1
 | j+1,x=>(C.map fun c=>if okr n rels (x++[c]) then cT n C rels j (x++[c]) else 0).sum
theorem Al.less {n k:Nat} {x l inv:List (List Int)} {p:List Int} (h:Al n (k+1) (x++[p]) l inv) (ht:Tu n k x):Al n k x l inv:=by
 have hx:(x++[p]).take k=x:=by rw [List.take_append_of_le_length (by rw [ht.len]; exact Nat.le_refl _),List.take_of_length_le (by rw [ht.len]; exact Nat.le_refl _)]
 refine ⟨ht,?_,?_⟩
 ·
  have:=congrArg (List.take k) h.l1
  rwa [List.take_take,Nat.min_eq_left (Nat.le_succ k),hx] at this
 ·
  have:=congrArg (List.take k) h.l2
  rw [List.take_take,Nat.min_eq_left (Nat.le_succ k),←List.map_take,hx] at this
  exact this
theorem permIv {n:Nat} {c:List Int} (h:Pe n c) (m:Nat) (hm:n<m) (hn:n≤1000):F.qgj m c=some (iv n c):=by
 obtain ⟨f,g,h1,rfl⟩:=h
 rw [permInverse h1 m hm hn,iv_li h1]
section
variable {n gens : Nat} {C : List (List Int)} {rels : List (List (List Int))}
structure Good (n gens:Nat) (C:List (List Int)) (rels:List (List (List Int))):Prop where
 c: ∀p∈C,Pe n p
 cl:C.length≤1000
 nl:n≤1000
 gl:gens≤999
 rl:rels.length=gens
 r: ∀g,g<gens→(rels.getD g []).length≤1000∧∀r∈rels.getD g [],(∀y∈r,Lr (g+1) y)∧r.length≤100000
structure Aft (n gens gen:Nat) (x:List (List Int)) (l inv:List (List Int)) (v:List Int) (num eff:Int):Prop where
 al:Al n gen x l inv
 l1:l.length=gens
 l2:inv.length=gens
 vl:v.length=n
 n0:0≤num
 ne:num≤eff
 e1:eff≤200001
open Classical in
theorem try_run (G:Good n gens C rels) (g1:List Int) (g2:List (List Int)): ∀(j gen m:Nat) (x l inv:List (List Int)) (v:List Int) (num eff:Int),gen+j=gens→200000+j<m→Aft n gens gen x l inv v num eff→eff≤200000→(j=0→num+1≤eff)→
  ∃ok l' inv' v' num' eff',F.qbr m (gen:Int) (gens:Int) g1 g2 num l C eff inv rels v (un n)=some (ok,l',inv',v',num',eff')∧Aft n gens gen x l' inv' v' num' eff'∧(ok=true→eff'≤200000∧num'=num+cT n C rels j x)∧(ok=false→200000<eff'):=by
 intro j
 induction j with
 | zero=>
  intro gen m x l inv v num eff hg hm A he hj
  obtain ⟨m,rfl⟩: ∃m',m=m'+1:=⟨m-1,by omega⟩
  have h0:=A.n0; have h1:=A.ne
  refine ⟨true,l,inv,v,num+1,eff,?_,⟨A.al,A.l1,A.l2,A.vl,by omega,hj rfl,A.e1⟩,fun _=>⟨he,rfl⟩,fun h=>by cases h⟩
  rw [F.qbr,dT (by omega),kT]
  unfold F.homs_Count_c1
  rw [qaj (by omega) (by omega),bB,bB]
 | succ j ih=>
  intro gen m x l inv v num eff hg hm A he _
  obtain ⟨m,rfl⟩: ∃m',m=m'+1:=⟨m-1,by omega⟩
  rw [F.qbr,dF (by omega),kF]
  have hgl:=G.gl
  obtain ⟨r1,r2⟩:=G.r gen (by omega)
  have erel:rels[gen]? =some (rels.getD gen []):=by
   have hl:gen<rels.length:=by rw [G.rl]; omega
   rw [List.getD_eq_getElem?_getD,gE hl,Option.getD_some]
  obtain ⟨o,q1,q2⟩:=qby (body:=F.qft (F.qbr m) m (gen:Int) (gens:Int) g1 g2 C rels (un n))
   (fun s=> ∃i:Nat,i≤C.length∧s.1=(i:Int)∧Aft n gens gen x s.2.2.1 s.2.2.2.2.1 s.2.2.2.2.2 s.2.1 s.2.2.2.1∧s.2.2.2.1≤200000∧s.2.1=num+(((C.take i).map fun c=>if okr n rels (x++[c]) then cT n C rels j (x++[c]) else 0).sum:Nat))
   (fun s=>C.length-s.1.toNat)
   (fun r=>match r with
    | .inl s=>Aft n gens gen x s.2.2.1 s.2.2.2.2.1 s.2.2.2.2.2 s.2.1 s.2.2.2.1∧s.2.2.2.1≤200000∧s.2.1=num+(cT n C rels (j+1) x:Nat)
    | .inr s=>s.1=false∧Aft n gens gen x s.2.1 s.2.2.1 s.2.2.2.1 s.2.2.2.2.1 s.2.2.2.2.2∧200000<s.2.2.2.2.2) (by
    rintro ⟨s1,snum,sl,seff,sinv,sv⟩ ⟨i,hi,e1,B,be,bn⟩
    dsimp only at e1 B be bn
    subst e1
    unfold F.qft
    dsimp only
    by_cases hlt:i<C.length
    ·
     have eg:C[i]? =some C[i]:=gE hlt
     have hc:=G.c _ (List.getElem_mem hlt)
     have ht:C.take (i+1)=C.take i++[C[i]]:=by rw [List.take_add_one,eg]; rfl
     have b0:=B.n0; have b1:=B.ne; have b2:=G.cl
     rw [dT (by omega),kT,get_at rfl eg,bB,qaj (by omega) (by omega),bB]
     by_cases hbig:200000<seff+1
     ·
      rw [dT hbig,kT]
      exact .inr ⟨_,rfl,rfl,⟨B.al,B.l1,B.l2,B.vl,b0,by dsimp only; omega,by dsimp only; omega⟩,hbig⟩
     ·
      have hl1:gen<sl.length:=by rw [B.l1]; omega
      have hl2:gen<sinv.length:=by rw [B.l2]; omega
      have M:=B.al.more hc hl1 hl2
      obtain ⟨o,q1,q2⟩:=rel_run M (by omega) G.nl r2 r1 B.vl m (by omega) (F.qbr m)
      rw [dF hbig,kF,permIv hc m (by have:=G.nl; omega) G.nl,bB,get_at rfl (gE hl1),bB,get_at rfl (gE hl2),bB,get_at rfl erel,bB,q1,bB,Int.toNat_natCast]
      have hokr:okr n rels (x++[C[i]])↔∀r∈rels.getD gen [],ev n (x++[C[i]]) r=un n:=by
       unfold okr
       rw [List.length_append,B.al.tu.len,List.length_singleton,Nat.add_sub_cancel]
      cases o with
      | inl s=>
       obtain ⟨w1,w2⟩:=q2
       obtain ⟨k1,k2⟩:=s
       dsimp only at w1 w2
       dsimp only
       obtain ⟨ok,l',inv',v',num',eff',c1,c2,c3,c4⟩:=ih (gen+1) m (x++[C[i]]) (sl.set gen C[i]) (sinv.set gen (iv n C[i])) k2 snum (seff+1) (by omega) (by omega) ⟨M,by rw [List.length_set]; exact B.l1,by rw [List.length_set]; exact B.l2,w1,b0,by omega,by omega⟩ (by omega) (fun _=>by omega)
       rw [qaj (by omega) (by omega),bB,show ((gen:Int)+1)=((gen+1:Nat):Int) by omega,c1,bB]
       dsimp only
       have C2:Aft n gens gen x l' inv' v' num' eff':=⟨c2.al.less B.al.tu,c2.l1,c2.l2,c2.vl,c2.n0,c2.ne,c2.e1⟩
       cases ok with
       | false=>exact .inr ⟨_,rfl,rfl,C2,c4 rfl⟩
       | true=>
        obtain ⟨d1,d2⟩:=c3 rfl
        left
        rw [Bool.not_true,kF,qaj (by omega) (by omega),bB]
        refine ⟨_,rfl,⟨i+1,hlt,rfl,C2,d1,?_⟩,by dsimp only; omega⟩
        dsimp only
        rw [ht,List.map_append,List.sum_append,d2,bn,List.map_singleton,List.sum_singleton,if_pos (hokr.2 w2)]
        omega
      | inr s=>
       obtain ⟨w1,w2⟩:=q2
       obtain ⟨k1,k2⟩:=s
       dsimp only at w1 w2
       dsimp only
       left
       rw [qaj (by omega) (by omega),bB]
       refine ⟨_,rfl,⟨i+1,hlt,rfl,⟨M.less B.al.tu,by dsimp only; rw [List.length_set]; exact B.l1,by dsimp only; rw [List.length_set]; exact B.l2,w1,b0,by dsimp only; omega,by dsimp only; omega⟩,by dsimp only; omega,?_⟩,by dsimp only; omega⟩
       dsimp only
       rw [ht,List.map_append,List.sum_append,bn,List.map_singleton,List.sum_singleton,if_neg (fun h=>w2 (hokr.1 h))]
       omega
    ·
     right
     rw [dF (by omega),kF]
     refine ⟨_,rfl,B,be,?_⟩
     rw [List.take_of_length_le (by omega)] at bn
     dsimp only
     rw [bn]; rfl) m (0,num,l,eff,inv,v) ⟨0,Nat.zero_le _,rfl,A,he,by simp⟩ (by have:=G.cl; show C.length-(0:Int).toNat<m; omega)
  rw [q1,bB]
  cases o with
  | inl s=>exact ⟨true,_,_,_,_,_,rfl,q2.1,fun _=>q2.2,fun h=>by cases h⟩
  | inr s=>exact ⟨false,s.2.1,s.2.2.1,s.2.2.2.1,s.2.2.2.2.1,s.2.2.2.2.2,by dsimp only; rw [show s=(s.1,s.2.1,s.2.2.1,s.2.2.2.1,s.2.2.2.2.1,s.2.2.2.2.2) from rfl,q2.1],q2.2.1,(fun h=>by cases h),fun _=>q2.2.2⟩
end
end Ho
end Go.Proofs.Ytlkmcbgkohpmiaa

set_option linter.all false
namespace Go.Proofs.Ytlkmcbgkohpmiaa
open Ev
namespace Ho
open Gar
def gr (w:List Int):Nat:=w.foldl (fun a y=>max a y.natAbs) 0
def rg (gens:Nat) (ws:List (List Int)):List (List (List Int)):=(List.range gens).map fun g=>ws.filter fun w=>decide (gr w=g+1)
theorem gr_fold (w:List Int): ∀a:Nat,(w.foldl (fun a y=>max a y.natAbs) a≤a∨∃y∈w,y.natAbs=w.foldl (fun a y=>max a y.natAbs) a)∧a≤w.foldl (fun a y=>max a y.natAbs) a∧∀y∈w,y.natAbs≤w.foldl (fun a y=>max a y.natAbs) a:=by
 induction w with
 | nil=>intro a; exact ⟨.inl (Nat.le_refl _),Nat.le_refl _,fun y hy=>absurd hy (by simp)⟩
 | cons z w ih=>
  intro a
  obtain ⟨h1,h2,h3⟩:=ih (max a z.natAbs)
  rw [List.foldl_cons]
  refine ⟨?_,by omega,fun y hy=>?_⟩
  ·
   rcases h1 with h1 | ⟨y,h4,h5⟩
   ·
    by_cases h:a≤z.natAbs
    · refine .inr ⟨z,List.mem_cons_self,?_⟩; omega
    · exact .inl (by omega)
   · exact .inr ⟨y,List.mem_cons_of_mem _ h4,h5⟩
  ·
   rcases List.mem_cons.1 hy with e | e
   · rw [e]; omega
   · exact h3 y e
theorem gr_le {w:List Int} {k:Nat} (h: ∀y∈w,Lr k y):gr w≤k:=by
 rcases (gr_fold w 0).1 with h1 | ⟨y,h1,h2⟩
 · unfold gr; omega
 · have:=h y h1; unfold Lr at this; unfold gr; omega
theorem gr_lr {w:List Int} {k:Nat} (h: ∀y∈w,Lr k y): ∀y∈w,Lr (gr w) y:=fun y hy=>by
 have h1:=(gr_fold w 0).2.2 y hy
 have:=h y hy
 unfold Lr at this⊢; unfold gr; omega
theorem gr_zero {w:List Int} {k:Nat} (h: ∀y∈w,Lr k y) (h0:gr w=0):w=[]:=by
 cases w with
 | nil=>rfl
 | cons y w=>
  have h1:=(gr_fold (y::w) 0).2.2 y List.mem_cons_self
  have:=h y List.mem_cons_self
  unfold Lr at this; unfold gr at h0; omega
section
variable {n gens : Nat} {C : List (List Int)} {ws : List (List Int)}
theorem gr_run {w:List Int} {k:Nat} (h: ∀y∈w,Lr k y) (hk:k≤1000) (hl:w.length≤100000) (m:Nat) (hm:200000≤m):loopN m (F.qcj m w) (0,0)=some ((gr w:Int),(w.length:Int)):=by
 have hx:=qax (body:=F.qcj m w) (fun i=>((gr (w.take i):Int),(i:Int))) w.length (r:=((gr w:Int),(w.length:Int))) (fun i hi=>?_) ?_ m (by omega)
 · exact hx
 ·
  have e1:w[i]? =some w[i]:=gE hi
  have hy:=h w[i] (List.getElem_mem hi)
  have e2:gr (w.take (i+1))=max (gr (w.take i)) w[i].natAbs:=by
   rw [List.take_add_one,e1]; unfold gr; rw [List.foldl_append]; rfl
  unfold Lr at hy
  unfold F.qcj
  dsimp only
  rw [dT (by omega),kT,get_at rfl e1,bB,qaj (by omega) (by omega),bB,qaj (by omega) (by omega),bB,e2]
  congr 3
  · omega
 ·
  unfold F.qcj
  dsimp only
  rw [dF (by omega),kF,List.take_length]
theorem rg_at {g:Nat} (hg:g<gens):(rg gens ws)[g]? =some (ws.filter fun w=>decide (gr w=g+1)):=by
 unfold rg; rw [List.getElem?_map,List.getElem?_range hg]; rfl
theorem rg_snoc0 {w:List Int} (h:gr w=0):rg gens (ws++[w])=rg gens ws:=by
 unfold rg
 refine List.map_congr_left fun g _=>?_
 rw [List.filter_append,List.filter_cons,dF (by omega),List.filter_nil]
 simp
theorem rg_snoc {w:List Int} (h1:1≤gr w) (h2:gr w≤gens):(rg gens ws).set (gr w-1) ((ws.filter fun v=>decide (gr v=gr w))++[w])=rg gens (ws++[w]):=by
 apply List.ext_getElem?
 intro i
 by_cases hi:i<gens
 ·
  rw [rg_at hi]
  by_cases e:i=gr w-1
  ·
   subst e
   rw [List.getElem?_set_self (by unfold rg; rw [List.length_map,List.length_range]; exact hi),show gr w-1+1=gr w by omega,List.filter_append,List.filter_cons,dT rfl]
   rfl
  ·
   rw [List.getElem?_set_ne (fun h=>e h.symm),rg_at hi,List.filter_append,List.filter_cons,dF (by omega),List.filter_nil]
   simp
 · rw [List.getElem?_eq_none (by rw [List.length_set]; unfold rg; rw [List.length_map,List.length_range]; omega),List.getElem?_eq_none (by unfold rg; rw [List.length_map,List.length_range]; omega)]
theorem byG_run {comp:List Int} (hw: ∀w∈ws,(∀y∈w,Lr gens y)∧w.length≤100000) (hl:ws.length≤1000) (hg:gens≤999) (m:Nat) (hm:200000≤m):F.qfr m (gens:Int) comp ws=some (rg gens ws):=by
 have h0:List.replicate gens ([]:List (List Int))=rg gens []:=by
  unfold rg
  apply List.ext_getElem?
  intro i
  by_cases hi:i<gens
  · rw [List.getElem?_replicate,if_pos hi,List.getElem?_map,List.getElem?_range hi]; rfl
  · rw [List.getElem?_eq_none (by rw [List.length_replicate]; omega),List.getElem?_eq_none (by rw [List.length_map,List.length_range]; omega)]
 have hx:=qax (body:=F.qcc m ws) (fun i=>((i:Int),rg gens (ws.take i))) ws.length (r:=((ws.length:Int),rg gens ws)) (fun i hi=>?_) ?_ m (by omega)
 ·
  unfold F.qfr
  rw [qep (by omega) (by omega),bB,Int.toNat_natCast,h0]
  have e:loopN m (F.qcc m ws) (0,rg gens [])=some ((ws.length:Int),rg gens ws):=hx
  rw [e,bB]
 ·
  have e1:ws[i]? =some ws[i]:=gE hi
  obtain ⟨h1,h2⟩:=hw _ (List.getElem_mem hi)
  have e2:ws.take (i+1)=ws.take i++[ws[i]]:=by rw [List.take_add_one,e1]; rfl
  have hgr:=gr_le h1
  unfold F.qcc
  dsimp only
  rw [dT (by omega),kT,get_at rfl e1,bB,gr_run h1 (by omega) h2 m hm,bB,e2]
  dsimp only
  by_cases hz:gr ws[i]=0
  · rw [dF (by omega),kF,qaj (by omega) (by omega),bB,rg_snoc0 hz]; rfl
  ·
   have hfl:((ws.take i).filter fun v=>decide (gr v=gr ws[i])).length≤ws.length:=Nat.le_trans (List.length_filter_le _ _) (by rw [List.length_take]; omega)
   have ea:(rg gens (ws.take i))[gr ws[i]-1]? =some ((ws.take i).filter fun v=>decide (gr v=gr ws[i])):=by
    rw [rg_at (by omega),show gr ws[i]-1+1=gr ws[i] by omega]
   rw [dT (by omega),kT,qaj (by omega) (by omega),bB,get_at (k:=gr ws[i]-1) (by omega) ea,bB,lim_ok (by rw [List.length_singleton]; omega),bB,bB,qaj (by omega) (by omega),bB,show ((gr ws[i]:Int)-1).toNat=gr ws[i]-1 by omega,rg_snoc (by omega) hgr]
   rfl
 ·
  unfold F.qcc
  dsimp only
  rw [dF (by omega),kF,List.take_length]
theorem ident_run (hn:n≤1000) (m:Nat) (hm:200000≤m):F.qfp m (n:Int)=some (un n):=by
 have hx:=qax (body:=F.qcz m (n:Int)) (fun k=>((k:Int),li n (fill (fun k=>k) k))) n (r:=((n:Int),un n)) (fun k hk=>?_) ?_ m (by omega)
 ·
  unfold F.qfp
  have e:loopN m (F.qcz m (n:Int)) (0,List.replicate n (0:Int))=some ((n:Int),un n):=by
   rw [li_empty (f:=fun k=>k)]; exact hx
  rw [qep (by omega) (by omega),bB,Int.toNat_natCast,e,bB]
 ·
  have hs:(li n (fill (fun k=>k) k)).set k (k:Int)=li n (fill (fun k=>k) (k+1)):=li_fill (N:=n) (f:=fun k=>k) (k:=k)
  unfold F.qcz
  dsimp only
  rw [List.length_replicate,Int.toNat_natCast,dT (by omega),kT,qbe,li_at hk,bB,qaj (by omega) (by omega),bB,Int.toNat_natCast,hs]
  rfl
 ·
  unfold F.qcz
  dsimp only
  rw [List.length_replicate,Int.toNat_natCast,dF (by omega),kF,li_full]; rfl
/-! The tuples. -/
def tpl (C:List (List Int)):Nat→List (List (List Int))
 | 0=>[[]]
 | j+1=>C.flatMap fun c=>(tpl C j).map (c:: ·)
theorem tpl_mem {j:Nat}: ∀{t:List (List Int)},t∈tpl C j↔t.length=j∧∀c∈t,c∈C:=by
 induction j with
 | zero=>
  intro t
  show t∈[[]]↔_
  rw [List.mem_singleton]
  exact ⟨fun h=>by rw [h]; simp,fun h=>List.eq_nil_of_length_eq_zero h.1⟩
 | succ j ih=>
  intro t
  show t∈C.flatMap _↔_
  rw [List.mem_flatMap]
  constructor
  ·
   rintro ⟨c,hc,ht⟩
   obtain ⟨u,hu,rfl⟩:=List.mem_map.1 ht
   obtain ⟨h1,h2⟩:=ih.1 hu
   refine ⟨by rw [List.length_cons,h1],fun d hd=>?_⟩
   rcases List.mem_cons.1 hd with e | e
   · rw [e]; exact hc
   · exact h2 d e
  ·
   rintro ⟨h1,h2⟩
   cases t with
   | nil=>cases h1
   | cons c u=>exact ⟨c,h2 c List.mem_cons_self,List.mem_map.2 ⟨u,ih.2 ⟨Nat.succ.inj h1,fun d hd=>h2 d (List.mem_cons_of_mem _ hd)⟩,rfl⟩⟩
theorem tpl_nodup (hC:C.Nodup): ∀j,(tpl C j).Nodup
 | 0=>by show ([[]]:List (List (List Int))).Nodup; simp
 | j+1=>by
  show (C.flatMap fun c=>(tpl C j).map (c:: ·)).Nodup
  have ih:=tpl_nodup hC j
  have hm: ∀c:List Int,((tpl C j).map (c:: ·)).Nodup:=fun c=>by
   rw [List.Nodup,List.pairwise_map]
   exact List.Pairwise.imp (fun hab e=>hab (List.cons.inj e).2) ih
  rw [List.Nodup,List.pairwise_flatMap]
  refine ⟨fun c _=>hm c,?_⟩
  refine List.Pairwise.imp ?_ hC
  intro a b hab t ht1 t2 ht2 et
  subst et
  obtain ⟨u,_,rfl⟩:=List.mem_map.1 ht1
  obtain ⟨u',_,e⟩:=List.mem_map.1 ht2
  exact hab (List.cons.inj e).1.symm
theorem lt_pre {x t:List (List Int)} {y:Int} (hy:Lr x.length y):lt n (x++t) y=lt n x y:=by
 unfold Lr at hy
 unfold lt
 have key: ∀k,k<x.length→(x++t).getD k []=x.getD k []:=fun k hk=>by
  rw [List.getD_eq_getElem?_getD,List.getElem?_append_left hk,←List.getD_eq_getElem?_getD]
 split
 · rw [key _ (by omega)]
 · rw [key _ (by omega)]
theorem ev_pre {x t:List (List Int)}: ∀{w:List Int},(∀y∈w,Lr x.length y)→ev n (x++t) w=ev n x w:=by
 intro w hw
 unfold ev
 have key: ∀(w:List Int) (v:List Int),(∀y∈w,Lr x.length y)→w.foldl (fun v y=>mu v (lt n (x++t) y)) v=w.foldl (fun v y=>mu v (lt n x y)) v:=by
  intro w
  induction w with
  | nil=>intro v _; rfl
  | cons y w ih=>
   intro v hw
   rw [List.foldl_cons,List.foldl_cons,lt_pre (hw y List.mem_cons_self)]
   exact ih _ fun z hz=>hw z (List.mem_cons_of_mem _ hz)
 exact key w _ hw
open Classical in
theorem cT_eq {rels:List (List (List Int))} (G:Good n gens C rels): ∀(j:Nat) (x:List (List Int)),x.length+j=gens→cT n C rels j x=((tpl C j).filter fun t=>decide (∀g,x.length≤g→g<gens→∀r∈rels.getD g [],ev n (x++t) r=un n)).length:=by
 intro j
 induction j with
 | zero=>
  intro x hx
  show 1=(([[]]:List (List (List Int))).filter _).length
  rw [List.filter_cons,dT (fun g h1 h2=>by omega)]
  rfl
 | succ j ih=>
  intro x hx
  show (C.map fun c=>if okr n rels (x++[c]) then cT n C rels j (x++[c]) else 0).sum=((C.flatMap fun c=>(tpl C j).map (c:: ·)).filter _).length
  rw [List.filter_flatMap,List.length_flatMap]
  congr 1
  refine List.map_congr_left fun c hc=>?_
  rw [List.filter_map,List.length_map]
  have hlen:(x++[c]).length=x.length+1:=by rw [List.length_append]; rfl
  have hok:okr n rels (x++[c])↔∀r∈rels.getD x.length [],ev n (x++[c]) r=un n:=by
   unfold okr; rw [hlen,Nat.add_sub_cancel]
  have happ: ∀t,x++c::t=(x++[c])++t:=fun t=>by simp
  have hx1: ∀t,∀r∈rels.getD x.length [],ev n (x++c::t) r=ev n (x++[c]) r:=fun t r hr=>by
   rw [happ]
   exact ev_pre fun y hy=>by rw [hlen]; exact ((G.r x.length (by omega)).2 r hr).1 y hy
  by_cases h:okr n rels (x++[c])
  ·
   rw [if_pos h,ih (x++[c]) (by rw [hlen]; omega)]
   congr 1
   refine List.filter_congr fun t _=>?_
   refine decide_eq_decide.2 ⟨fun q g h1 h2 r hr=>?_,fun q g h1 h2 r hr=>?_⟩
   ·
    by_cases e:g=x.length
    · subst e; rw [hx1 t r hr]; exact hok.1 h r hr
    ·
     show ev n (x++c::t) r=_
     rw [happ]; exact q g (by rw [hlen]; omega) h2 r hr
   · rw [←happ]; exact q g (by rw [hlen] at h1; omega) h2 r hr
  ·
   rw [if_neg h]
   symm
   rw [List.length_eq_zero_iff,List.filter_eq_nil_iff]
   intro t _ hq
   have q:=of_decide_eq_true hq
   exact h (hok.2 fun r hr=>by rw [←hx1 t r hr]; exact q x.length (Nat.le_refl _) (by omega) r hr)
theorem good_rg (hC: ∀p∈C,Pe n p) (hCl:C.length≤1000) (hn:n≤1000) (hg:gens≤999) (hw: ∀w∈ws,(∀y∈w,Lr gens y)∧w.length≤100000) (hl:ws.length≤1000):Good n gens C (rg gens ws):=
 ⟨hC,hCl,hn,hg,by unfold rg; rw [List.length_map,List.length_range],fun g hgl=>by
  rw [List.getD_eq_getElem?_getD,rg_at hgl,Option.getD_some]
  refine ⟨Nat.le_trans (List.length_filter_le _ _) hl,fun r hr=>?_⟩
  obtain ⟨h1,h2⟩:=List.mem_filter.1 hr
  obtain ⟨h3,h4⟩:=hw r h1
  refine ⟨fun y hy=>?_,h4⟩
  have:=gr_lr h3 y hy
  rwa [of_decide_eq_true h2] at this⟩
open Classical in
noncomputable def hct (n:Nat) (C:List (List Int)) (gens:Nat) (ws:List (List Int)):Nat:=((tpl C gens).filter fun t=>decide (∀w∈ws,ev n t w=un n)).length
open Classical in
theorem cT_all (G:Good n gens C (rg gens ws)) (hw: ∀w∈ws,(∀y∈w,Lr gens y)∧w.length≤100000):cT n C (rg gens ws) gens []=hct n C gens ws:=by
 rw [cT_eq G gens [] (by simp)]
 unfold hct
 congr 1
 refine List.filter_congr fun t _=>?_
 refine decide_eq_decide.2 ⟨fun q w hwm=>?_,fun q g _ h2 r hr=>?_⟩
 ·
  obtain ⟨h1,_⟩:=hw w hwm
  by_cases hz:gr w=0
  · rw [gr_zero h1 hz]; rfl
  ·
   have hle:=gr_le h1
   refine q (gr w-1) (Nat.zero_le _) (by omega) w ?_
   rw [List.getD_eq_getElem?_getD,rg_at (by omega),Option.getD_some]
   exact List.mem_filter.2 ⟨hwm,dT (by omega)⟩
 ·
  rw [List.getD_eq_getElem?_getD,rg_at h2,Option.getD_some] at hr
  exact q r (List.mem_filter.1 hr).1
theorem count_run {comp cyc:List Int} (h1:1≤n) (h5:n≤5) (hg1:1≤gens) (hC: ∀p∈C,Pe n p) (hCl:C.length≤1000) (hg:gens≤999) (hw: ∀w∈ws,(∀y∈w,Lr gens y)∧w.length≤100000) (hl:ws.length≤1000) (m:Nat) (hm:300000≤m)
  (hv:F.qdv m (gens:Int) comp ws=some true) (hc:F.qfa m (n:Int) cyc=some (C,0)):
  ∃c e,F.qel m (gens:Int) comp ws (n:Int) cyc=some (c,e)∧(e=13∨(e=0∧c=(hct n C gens ws:Int))):=by
 have G:=good_rg hC hCl (by omega) hg hw hl (gens:=gens)
 have A:Aft n gens 0 [] (List.replicate gens ([]:List Int)) (List.replicate gens ([]:List Int)) (un n) 0 0:=
  ⟨⟨⟨rfl,fun p hp=>absurd hp (by simp)⟩,by simp,by simp⟩,by simp,by simp,(Pe.un n).len,by omega,by omega,by omega⟩
 obtain ⟨ok,l',inv',v',num',eff',q1,q2,q3,q4⟩:=try_run G comp ws gens 0 m [] _ _ _ 0 0 (by omega) (by omega) A (by omega) (fun h=>by omega)
 have e0:((0:Nat):Int)=0:=rfl
 rw [e0] at q1
 have key:F.qbp m (gens:Int) comp ws (n:Int) cyc 0=some (if 200000<eff' then 13 else 0,num'):=by
  unfold F.qbp
  rw [hv,bB,Bool.not_true,kF,dF (by omega),kF,dF (by omega),kF,hc,bB,dT rfl,Bool.not_true,kF,byG_run hw hl hg m (by omega),bB,ident_run (by omega) m (by omega),bB,bB,qep (by omega) (by omega),bB,bB,Int.toNat_natCast]
  unfold F.qcw
  dsimp only
  rw [q1,bB]
  dsimp only
  by_cases hb:200000<eff'
  · rw [dT hb,kT,if_pos hb]
  · rw [dF hb,kF,if_neg hb]
 unfold F.qel
 rw [key,bB]
 dsimp only
 by_cases hb:200000<eff'
 ·
  rw [if_pos hb,dF (by decide),Bool.not_false,kT]
  exact ⟨_,_,rfl,.inl rfl⟩
 ·
  rw [if_neg hb,dT rfl,Bool.not_true,kF]
  refine ⟨_,_,rfl,.inr ⟨rfl,?_⟩⟩
  cases ok with
  | false=>exact absurd (q4 rfl) hb
  | true=>
   rw [(q3 rfl).2,cT_all G hw]
   omega
end
end Ho
end Go.Proofs.Ytlkmcbgkohpmiaa

set_option linter.all false
namespace Go.Proofs.Ytlkmcbgkohpmiaa
open Ev
namespace Gl
open Gar Pg
theorem outg_ou {w:List Int} {h:Nat} (hh:h<4*w.length):Outg (w.map sgv) h↔OuW w w.length h:=by
 have e:(w.map sgv).getD (h/ 4) 0=sgv (w.getD (h/ 4) 0):=by
  have hl:h/ 4<w.length:=by omega
  rw [qdr (by rw [List.length_map]; exact hl),List.getElem_map,qdr hl]
 unfold Outg OuW
 rw [e]
 unfold sgv
 by_cases q:0<w.getD (h/ 4) 0
 · rw [if_pos q,if_pos q]; omega
 · rw [if_neg q,if_neg q]; omega
def Tch (w:List Int) (k p:Nat):Prop:=p=(w.getD k 0).natAbs-1∨p=(w.getD k 0).natAbs
section
variable {s : Nat} {w : List Int}
theorem lst_of {p:Nat}: ∀{k:Nat},0≤(stC w k).lst p→∃j,j<k∧Tch w j p
 | 0,h=>by unfold stC at h; exact absurd h (show¬(0:Int)≤-1 by decide)
 | k+1,h=>by
  by_cases q:Tch w k p
  · exact ⟨k,by omega,q⟩
  ·
   unfold Tch at q
   rw [lst_step,upd_ne _ _ (fun e=>q (.inr e)),upd_ne _ _ (fun e=>q (.inl e))] at h
   obtain ⟨j,h1,h2⟩:=lst_of h
   exact ⟨j,by omega,h2⟩
theorem lst_pos {p j:Nat} (hj:Tch w j p): ∀{k:Nat},j<k→0≤(stC w k).lst p
 | k+1,h=>by
  rw [lst_step]
  by_cases e2:p=(w.getD k 0).natAbs
  · rw [e2,qdm]; omega
  ·
   rw [upd_ne _ _ e2]
   by_cases e1:p=(w.getD k 0).natAbs-1
   · rw [e1,qdm]; omega
   ·
    rw [upd_ne _ _ e1]
    rcases Nat.lt_succ_iff_lt_or_eq.1 h with h1 | h1
    · exact lst_pos hj h1
    · subst h1; exact (hj.elim e1 e2).elim
variable (hw : ∀ x ∈ w, x ≠ 0 ∧ -(s : Int) < x ∧ x < s)
include hw
theorem lev_gen {α:Type} (G:Nat→α) (Y:Nat→Nat→α) (hE: ∀p,p<s→Y w.length p=Y 0 p)
  (hI: ∀k,k<w.length→G (4*k+inL (w.getD k 0))=Y k ((w.getD k 0).natAbs-1)∧G (4*k+inR (w.getD k 0))=Y k (w.getD k 0).natAbs)
  (hK: ∀k p,k<w.length→p<s→¬Tch w k p→Y (k+1) p=Y k p) {p:Nat} (hp:p<s) (hl:0≤(stC w w.length).lst p) {k:Nat} (hk:k≤w.length):G (Vv s w k p)=Y k p:=by
 have one: ∀k,k<w.length→Tch w k p→G (Vv s w k p)=Y k p:=fun k hk ht=>by
  obtain ⟨v1,v2⟩:=Vv_in hw hk
  rcases ht with e | e
  · rw [e,v1]; exact (hI k hk).1
  · rw [e,v2]; exact (hI k hk).2
 have down: ∀d k,k+d≤w.length→G (Vv s w (k+d) p)=Y (k+d) p→G (Vv s w k p)=Y k p:=by
  intro d
  induction d with
  | zero=>intro k _ h; exact h
  | succ d ih=>
   intro k hkd h
   by_cases ht:Tch w k p
   · exact one k (by omega) ht
   ·
    have:=ih (k+1) (by omega) (by rw [show k+1+d=k+(d+1) by omega]; exact h)
    rwa [Vv_keep (fun e=>ht (.inl e)) (fun e=>ht (.inr e)),hK k p (by omega) hp ht] at this
 obtain ⟨j,hj,ht⟩:=lst_of hl
 have h0:G (Vv s w 0 p)=Y 0 p:=down j 0 (by omega) (by rw [Nat.zero_add]; exact one j hj ht)
 have hm:G (Vv s w w.length p)=Y w.length p:=by rw [Vv_end hw hp,hE p hp]; exact h0
 exact down (w.length-k) k (by omega) (by rw [show k+(w.length-k)=w.length by omega]; exact hm)
theorem clm_out: ∀h,h<4*w.length→(Outg (w.map sgv) (clm s w h)↔¬Outg (w.map sgv) h):=fun h hh=>by
 have M':=clm_mt hw
 have h2:=(M'.2 h hh).2.1
 rw [outg_ou hh,outg_ou h2]
 obtain ⟨_,_,p3,p4,p5,p6⟩:=clP_ok hw
 rcases ou_or_in (w:=w) hh with q | q
 ·
  obtain ⟨⟨a,b⟩,hmem,rfl⟩:=List.mem_map.1 (p5 h q)
  obtain ⟨_,_,e3,_⟩:=clm_pair hw hmem
  have hb:=p4 b (List.mem_map.2 ⟨_,hmem,rfl⟩)
  dsimp only at q⊢
  rw [e3]
  exact ⟨fun k=>absurd hb (fun hb=>ou_in k hb),fun k=>absurd q k⟩
 ·
  obtain ⟨⟨a,b⟩,hmem,rfl⟩:=List.mem_map.1 (p6 h q)
  obtain ⟨_,_,_,e4,_⟩:=clm_pair hw hmem
  have ha:=p3 a (List.mem_map.2 ⟨_,hmem,rfl⟩)
  dsimp only at q⊢
  rw [e4]
  exact ⟨fun _ k=>ou_in k q,fun _=>ha⟩
omit hw in
theorem four (h:Nat) (hh:h<4*w.length): ∃k,k<w.length∧(h=4*k+inL (w.getD k 0)∨h=4*k+inR (w.getD k 0)∨h=4*k+ouL (w.getD k 0)∨h=4*k+ouR (w.getD k 0)):=by
 refine ⟨h/ 4,by omega,?_⟩
 unfold inL inR ouL ouR
 by_cases q:0<w.getD (h/ 4) 0
 · rw [if_pos q,if_pos q,if_pos q,if_pos q]; omega
 · rw [if_neg q,if_neg q,if_neg q,if_neg q]; omega
end
def xsm (b:Nat→Bool):Nat→Bool
 | 0=>false
 | j+1=>xsm b j^^b j
theorem xsm_two {b b':Nat→Bool} {i:Nat} (hi:1≤i) (hk: ∀p,p≠i-1→p≠i→b' p=b p) (he:(b' (i-1)^^b' i)=(b (i-1)^^b i)): ∀j,j≠i→xsm b' j=xsm b j:=by
 have low: ∀j,j≤i-1→xsm b' j=xsm b j:=by
  intro j
  induction j with
  | zero=>intro _; rfl
  | succ j ih=>intro h; unfold xsm; rw [ih (by omega),hk j (by omega) (by omega)]
 have mid:xsm b' (i+1)=xsm b (i+1):=by
  obtain ⟨j,rfl⟩: ∃j,i=j+1:=⟨i-1,by omega⟩
  rw [show xsm b' (j+1+1)=((xsm b' j^^b' j)^^b' (j+1)) from rfl,show xsm b (j+1+1)=((xsm b j^^b j)^^b (j+1)) from rfl,low j (by omega),Bool.xor_assoc,Bool.xor_assoc]
  rw [Nat.add_sub_cancel] at he
  rw [he]
 intro j hj
 by_cases h:j≤i-1
 · exact low j h
 ·
  have: ∀d,xsm b' (i+1+d)=xsm b (i+1+d):=by
   intro d
   induction d with
   | zero=>exact mid
   | succ d ih=>
    rw [show i+1+(d+1)=(i+1+d)+1 by omega]
    unfold xsm
    rw [ih,hk _ (by omega) (by omega)]
  have:=this (j-(i+1))
  rwa [show i+1+(j-(i+1))=j by omega] at this
def kap (X:Nat→Nat→Bool) (w:List Int) (x:Nat):Bool:=
 let v:=w.getD (x/ 4) 0
 if x%4=inL v then X (x/ 4) v.natAbs else if x%4=inR v then X (x/ 4) (v.natAbs+1) else if x%4=ouR v then X (x/ 4+1) v.natAbs else X (x/ 4) (v.natAbs-1)
theorem kap_at (X:Nat→Nat→Bool) (w:List Int) (k:Nat):kap X w (4*k+inL (w.getD k 0))=X k (w.getD k 0).natAbs∧kap X w (4*k+inR (w.getD k 0))=X k ((w.getD k 0).natAbs+1)∧kap X w (4*k+ouR (w.getD k 0))=X (k+1) (w.getD k 0).natAbs∧kap X w (4*k+ouL (w.getD k 0))=X k ((w.getD k 0).natAbs-1):=by
 have key: ∀r,r<4→(4*k+r)/ 4=k∧(4*k+r)%4=r:=fun r hr=>by omega
 have h4:inL (w.getD k 0)<4∧inR (w.getD k 0)<4∧ouR (w.getD k 0)<4∧ouL (w.getD k 0)<4:=by
  unfold inL inR ouL ouR; repeat' split
  all_goals decide
 have hd:inR (w.getD k 0)≠inL (w.getD k 0)∧ouR (w.getD k 0)≠inL (w.getD k 0)∧ouR (w.getD k 0)≠inR (w.getD k 0)∧ouL (w.getD k 0)≠inL (w.getD k 0)∧ouL (w.getD k 0)≠inR (w.getD k 0)∧ouL (w.getD k 0)≠ouR (w.getD k 0):=by
  unfold inL inR ouL ouR
  by_cases q:0<w.getD k 0
  · simp only [if_pos q]; decide
  · simp only [if_neg q]; decide
 obtain ⟨d1,d2,d3,d4,d5,d6⟩:=hd
 refine ⟨?_,?_,?_,?_⟩
 · unfold kap; rw [(key _ h4.1).1,(key _ h4.1).2,if_pos rfl]
 · unfold kap; rw [(key _ h4.2.1).1,(key _ h4.2.1).2,if_neg d1,if_pos rfl]
 · unfold kap; rw [(key _ h4.2.2.1).1,(key _ h4.2.2.1).2,if_neg d2,if_neg d3,if_pos rfl]
 · unfold kap; rw [(key _ h4.2.2.2).1,(key _ h4.2.2.2).2,if_neg d4,if_neg d5,if_neg d6]
theorem turn_at (k:Nat) (v:Int):turnN (4*k+inL v) 3=4*k+ouL v∧turnN (4*k+inR v) 3=4*k+inL v∧turnN (4*k+ouR v) 3=4*k+inR v∧turnN (4*k+ouL v) 3=4*k+ouR v:=by
 unfold turnN inL inR ouL ouR
 by_cases q:0<v
 · rw [if_pos q,if_pos q,if_pos q,if_pos q]; omega
 · rw [if_neg q,if_neg q,if_neg q,if_neg q]; omega
section
variable {s : Nat} {w : List Int} (hw : ∀ x ∈ w, x ≠ 0 ∧ -(s : Int) < x ∧ x < s)
include hw
theorem clo_parts:Parts w.length (clm s w):=by
 intro S hS hP
 have M':=clm_mt hw
 have hb: ∀k,k<w.length→S (Vv s w k ((w.getD k 0).natAbs-1))=S (4*k+inL (w.getD k 0))∧S (Vv s w k (w.getD k 0).natAbs)=S (4*k+inR (w.getD k 0))∧S (Vv s w (k+1) ((w.getD k 0).natAbs-1))=S (4*k+ouL (w.getD k 0))∧S (Vv s w (k+1) (w.getD k 0).natAbs)=S (4*k+ouR (w.getD k 0)):=fun k hk=>by
  obtain ⟨v1,v2⟩:=Vv_in hw hk
  obtain ⟨u1,u2⟩:=Vv_out hw hk
  have h4:ouR (w.getD k 0)<4∧ouL (w.getD k 0)<4:=by
   unfold ouL ouR; repeat' split
   all_goals decide
  exact ⟨by rw [v1],by rw [v2],by rw [u1]; exact hS _ (by omega),by rw [u2]; exact hS _ (by omega)⟩
 have heven: ∀k,k<w.length→(S (Vv s w (k+1) ((w.getD k 0).natAbs-1))^^S (Vv s w (k+1) (w.getD k 0).natAbs))=(S (Vv s w k ((w.getD k 0).natAbs-1))^^S (Vv s w k (w.getD k 0).natAbs)):=fun k hk=>by
  obtain ⟨a,b,c,d⟩:=hb k hk
  rw [a,b,c,d]
  have:=hP k hk
  unfold Pg.par at this
  unfold inL inR ouL ouR
  by_cases q:0<w.getD k 0
  ·
   simp only [if_pos q]
   rw [Nat.add_zero]
   revert this
   cases S (4*k)<;>cases S (4*k+1)<;>cases S (4*k+2)<;>cases S (4*k+3)<;>decide
  ·
   simp only [if_neg q]
   rw [Nat.add_zero]
   revert this
   cases S (4*k)<;>cases S (4*k+1)<;>cases S (4*k+2)<;>cases S (4*k+3)<;>decide
 let X:Nat→Nat→Bool:=fun k j=>xsm (fun p=>S (Vv s w k p)) j
 have hXk: ∀k,k<w.length→∀j,j≠(w.getD k 0).natAbs→X (k+1) j=X k j:=fun k hk=>
  xsm_two (qfe hw hk).2.1 (fun p h1 h2=>by rw [Vv_keep h1 h2]) (heven k hk)
 have hXe: ∀j,j≤s→X w.length j=X 0 j:=by
  intro j
  induction j with
  | zero=>intro _; rfl
  | succ j ih=>
   intro h
   show (X w.length j^^S (Vv s w w.length j))=(X 0 j^^S (Vv s w 0 j))
   rw [ih (by omega),Vv_end hw (by omega)]
 have hX1: ∀k j,X k (j+1)=(X k j^^S (Vv s w k j)):=fun k j=>rfl
 have left: ∀{p k:Nat},p<s→0≤(stC w w.length).lst p→k≤w.length→kap X w (turnN (Vv s w k p) 3)=X k p:=fun {p k} hp hl hk=>
  lev_gen hw (fun y=>kap X w (turnN y 3)) X (fun p hp=>hXe p (by omega)) (fun k hk=>by
   obtain ⟨t1,t2,_,_⟩:=turn_at k (w.getD k 0)
   obtain ⟨a1,a2,a3,a4⟩:=kap_at X w k
   exact ⟨by rw [t1,a4],by rw [t2,a1]⟩) (fun k p hk hp ht=>hXk k hk p fun e=>ht (.inr e)) hp hl hk
 have right: ∀{p k:Nat},p<s→0≤(stC w w.length).lst p→k≤w.length→kap X w (Vv s w k p)=X k (p+1):=fun {p k} hp hl hk=>
  lev_gen hw (kap X w) (fun k p=>X k (p+1)) (fun p hp=>hXe (p+1) (by omega)) (fun k hk=>by
   obtain ⟨a1,a2,a3,a4⟩:=kap_at X w k
   have:=(qfe hw hk).2.1
   exact ⟨by rw [a1,show (w.getD k 0).natAbs-1+1=(w.getD k 0).natAbs by omega],by rw [a2]⟩) (fun k p hk hp ht=>hXk k hk (p+1) fun e=>ht (.inl (by omega))) hp hl hk
 refine ⟨kap X w,fun x hx=>?_,fun x hx=>?_⟩
 ·
  have out: ∀k,k<w.length→∀y,(y=4*k+ouL (w.getD k 0)∨y=4*k+ouR (w.getD k 0))→kap X w (turnN (clm s w y) 3)=kap X w y∧kap X w (turnN y 3)=kap X w (clm s w y):=by
   intro k hk y hy
   obtain ⟨l0,l1,l2⟩:=qfe hw hk
   obtain ⟨u1,u2⟩:=Vv_out hw hk
   obtain ⟨a1,a2,a3,a4⟩:=kap_at X w k
   obtain ⟨_,_,t3,t4⟩:=turn_at k (w.getD k 0)
   have p1:0≤(stC w w.length).lst ((w.getD k 0).natAbs-1):=lst_pos (.inl rfl) hk
   have p2:0≤(stC w w.length).lst (w.getD k 0).natAbs:=lst_pos (.inr rfl) hk
   rcases hy with e | e
   ·
    have e1:=left (p:=(w.getD k 0).natAbs-1) (k:=k+1) (by omega) p1 hk
    have e2:=right (p:=(w.getD k 0).natAbs-1) (k:=k+1) (by omega) p1 hk
    rw [u1] at e1 e2
    rw [e]
    refine ⟨by rw [e1,a4]; exact hXk k hk _ (by omega),by rw [e2,t4,a3,show (w.getD k 0).natAbs-1+1=(w.getD k 0).natAbs by omega]⟩
   ·
    have e1:=left (p:=(w.getD k 0).natAbs) (k:=k+1) (by omega) p2 hk
    have e2:=right (p:=(w.getD k 0).natAbs) (k:=k+1) (by omega) p2 hk
    rw [u2] at e1 e2
    rw [e]
    refine ⟨by rw [e1,a3],by rw [e2,t3,a2]; exact (hXk k hk _ (by omega)).symm⟩
  show kap X w (turnN (clm s w x) 3)=kap X w x
  by_cases ho:Outg (w.map sgv) x
  ·
   obtain ⟨k,hk,h⟩:=four x hx
   have hou:=(outg_ou hx).1 ho
   have hnin: ∀r,x=4*k+r→(r=inL (w.getD k 0)∨r=inR (w.getD k 0))→False:=fun r hr h=>by
    refine ou_in hou ⟨hou.1,?_⟩
    have h4:r<4:=by
     rcases h with h | h<;>rw [h]<;>(first | unfold inL | unfold inR)<;>split<;>decide
    rw [show x/ 4=k by omega,show x%4=r by omega]
    unfold inL inR at h
    by_cases q:0<w.getD k 0
    · rw [if_pos q] at h⊢; rw [if_pos q] at h; omega
    · rw [if_neg q] at h⊢; rw [if_neg q] at h; omega
   rcases h with h | h | h | h
   · exact (hnin _ h (.inl rfl)).elim
   · exact (hnin _ h (.inr rfl)).elim
   · exact (out k hk x (.inl h)).1
   · exact (out k hk x (.inr h)).1
  ·
   obtain ⟨_,y1,y2,_⟩:=M'.2 x hx
   have hoy:=(clm_out hw x hx).2 ho
   obtain ⟨k,hk,h⟩:=four _ y1
   have hou:=(outg_ou y1).1 hoy
   have hnin: ∀r,clm s w x=4*k+r→(r=inL (w.getD k 0)∨r=inR (w.getD k 0))→False:=fun r hr h=>by
    refine ou_in hou ⟨hou.1,?_⟩
    have h4:r<4:=by
     rcases h with h | h<;>rw [h]<;>(first | unfold inL | unfold inR)<;>split<;>decide
    rw [show clm s w x/ 4=k by omega,show clm s w x%4=r by omega]
    unfold inL inR at h
    by_cases q:0<w.getD k 0
    · rw [if_pos q] at h⊢; rw [if_pos q] at h; omega
    · rw [if_neg q] at h⊢; rw [if_neg q] at h; omega
   rcases h with h | h | h | h
   · exact (hnin _ h (.inl rfl)).elim
   · exact (hnin _ h (.inr rfl)).elim
   · have:=(out k hk _ (.inl h)).2; rwa [y2] at this
   · have:=(out k hk _ (.inr h)).2; rwa [y2] at this
 ·
  obtain ⟨k,hk,h⟩:=four x hx
  obtain ⟨l0,l1,l2⟩:=qfe hw hk
  obtain ⟨b1,b2,b3,b4⟩:=hb k hk
  obtain ⟨a1,a2,a3,a4⟩:=kap_at X w k
  obtain ⟨t1,t2,t3,t4⟩:=turn_at k (w.getD k 0)
  have bx: ∀a b:Bool,((a^^b)^^a)=b:=by decide
  have by_: ∀a b:Bool,(a^^(a^^b))=b:=by decide
  have eL: ∀k',X k' (w.getD k 0).natAbs=(X k' ((w.getD k 0).natAbs-1)^^S (Vv s w k' ((w.getD k 0).natAbs-1))):=fun k'=>by
   have:=hX1 k' ((w.getD k 0).natAbs-1)
   rwa [show (w.getD k 0).natAbs-1+1=(w.getD k 0).natAbs by omega] at this
  rcases h with h | h | h | h
  · rw [h,t1,a1,a4,eL,bx,b1]
  · rw [h,t2,a2,a1,hX1,bx,b2]
  · rw [h,t4,a4,a3,←hXk k hk _ (by omega),eL,by_,b3]
  · rw [h,t3,a3,a2,←hXk k hk ((w.getD k 0).natAbs+1) (by omega),hX1,by_,b4]
theorem clo_dv (hL:w.length≤64) {lo:Int} (l0:0≤lo) (l1:lo≤64):DV (w.map sgv) (clM s w) lo (clm s w):=by
 have hln:(w.map sgv).length=w.length:=List.length_map ..
 have M':=clm_mt hw
 refine ⟨by rw [hln]; exact hL,l0,l1,fun x hx=>?_,by rw [hln]; exact M',fun h hh=>?_,by rw [hln]; exact planar M' (clo_parts hw)⟩
 ·
  obtain ⟨v,_,rfl⟩:=List.mem_map.1 hx
  unfold sgv
  split<;>simp
 ·
  rw [hln] at hh
  exact clm_out hw h hh
