import Derived.Test.YteajmbanlohncaaPQpass
set_option linter.unusedVariables false
set_option linter.unusedSimpArgs false
namespace Go.Proofs.Yteajmbanlohncaa
open Ev
namespace Pg
def sgE (o u:Ed):Int:=if 0<(o.2.1.1-o.1.1)*(u.2.1.2.1-u.1.2.1)-(o.2.1.2.1-o.1.2.1)*(u.2.1.1-u.1.1) then 1 else -1
theorem sign_eq {o u:Ed} (ho:Fit o.1∧Fit o.2.1) (hu:Fit u.1∧Fit u.2.1) (n:Nat):
  F.polygon_sign n o.1.1 o.1.2.1 o.1.2.2 o.2.1.1 o.2.1.2.1 o.2.1.2.2 o.2.2.1 o.2.2.2 u.1.1 u.1.2.1 u.1.2.2 u.2.1.1 u.2.1.2.1 u.2.1.2.2 u.2.2.1 u.2.2.2=some (sgE o u):=by
 obtain ⟨h1,h2⟩:=ho
 obtain ⟨h3,h4⟩:=hu
 unfold Fit at h1 h2 h3 h4
 have m1:=mulb (A:=2000) (B:=2000) (x:=o.2.1.1-o.1.1) (y:=u.2.1.2.1-u.1.2.1) (by omega) (by omega) (by omega) (by omega)
 have m2:=mulb (A:=2000) (B:=2000) (x:=o.2.1.2.1-o.1.2.1) (y:=u.2.1.1-u.1.1) (by omega) (by omega) (by omega) (by omega)
 unfold F.polygon_sign sgE
 rw [chk_ok (by omega) (by omega),bB,chk_ok (by omega) (by omega),bB,chk_ok (by omega) (by omega),bB,chk_ok (by omega) (by omega),bB,chk_ok (by omega) (by omega),bB,chk_ok (by omega) (by omega),bB,chk_ok (by omega) (by omega),bB]
 by_cases h:0<(o.2.1.1-o.1.1)*(u.2.1.2.1-u.1.2.1)-(o.2.1.2.1-o.1.2.1)*(u.2.1.1-u.1.1)
 · rw [dT h,kT,if_pos h]
 · rw [dF h,kF,if_neg h]
abbrev CS:=List (Int×Bool)×List Int×List ((Int×Int)×Int)
def kv (i k:Int):Int×Int:=(min i k,max i k)
def sgX (es:List Ed) (i:Nat) (x:Int×Bool):Int:=if x.2 then sgE (eAt es i) (eAt es x.1.toNat) else sgE (eAt es x.1.toNat) (eAt es i)
def cstep (es:List Ed) (i:Nat) (st:CS) (x:Int×Bool):CS:=
 match mget st.2.2 (kv i x.1) with
 | some v=>(st.1++[(v,x.2)],st.2.1,st.2.2)
 | none=>(st.1++[((st.2.1.length:Int),x.2)],st.2.1++[sgX es i x],st.2.2++[(kv i x.1,(st.2.1.length:Int))])
def crow (es:List Ed) (i:Nat) (st:CS) (row:List (Int×Bool)):CS:=row.foldl (cstep es i) st
def cpoly (es:List Ed) (P:Nat→List (Int×Bool)) (s m:Nat) (st:CS):CS:=(List.range m).foldl (fun st j=>crow es (s+j) st (P (s+j))) st
def Sz (c:Nat) (st:CS):Prop:=st.1.length≤c∧st.2.1.length≤c∧∀e∈st.2.2,0≤e.2∧e.2≤(c:Int)
theorem mget_mem: ∀{m:List ((Int×Int)×Int)} {k:Int×Int} {v:Int},mget m k=some v→(k,v)∈m
 | [],k,v,h=>by cases h
 | p::r,k,v,h=>by
  unfold mget at h
  split at h
  ·
   rename_i hk
   injection h with h
   subst hk h
   exact List.mem_cons_self
  · exact List.mem_cons_of_mem _ (mget_mem h)
theorem Sz.step {es:List Ed} {i c:Nat} {st:CS} {x:Int×Bool} (h:Sz c st):Sz (c+1) (cstep es i st x):=by
 obtain ⟨h1,h2,h3⟩:=h
 unfold cstep
 cases hm:mget st.2.2 (kv i x.1) with
 | some v=>
  refine ⟨by simp; omega,by dsimp only; omega,fun e he=>?_⟩
  have:=h3 e he
  omega
 | none=>
  refine ⟨by simp; omega,by simp; omega,fun e he=>?_⟩
  rcases List.mem_append.1 he with he | he
  · have:=h3 e he; omega
  ·
   rw [List.mem_singleton] at he
   subst he
   dsimp only
   omega
theorem Sz.row {es:List Ed} {i:Nat}: ∀{row:List (Int×Bool)} {c:Nat} {st:CS},Sz c st→Sz (c+row.length) (crow es i st row)
 | [],c,st,h=>h
 | x::r,c,st,h=>by
  have:=Sz.row (row:=r) (es:=es) (i:=i) (h.step (es:=es) (i:=i) (x:=x))
  rw [List.length_cons]
  rw [show c+(r.length+1)=c+1+r.length from by omega]
  exact this
def RowOk (N:Nat) (row:List (Int×Bool)):Prop:=row.length≤N∧∀x∈row,0≤x.1∧x.1.toNat<N
theorem code_row {es:List Ed} (hF:FitE es) {i:Nat} (hi:i<es.length) (hN:es.length≤10000) {row:List (Int×Bool)} (hr:RowOk es.length row) {c:Nat} {st:CS} (hc:Sz c st) (hcb:c≤1000000000) (n:Nat) (hn:row.length<n):
  loopN n (F.polygon_code_b2 n es (i:Int) row) (st.1,0,st.2.1,st.2.2)=some ((crow es i st row).1,(row.length:Int),(crow es i st row).2.1,(crow es i st row).2.2):=by
 have h0:=count_loop (body:=F.polygon_code_b2 n es (i:Int) row) (fun k=>((crow es i st (row.take k)).1,(k:Int),(crow es i st (row.take k)).2.1,(crow es i st (row.take k)).2.2)) row.length (r:=((crow es i st row).1,(row.length:Int),(crow es i st row).2.1,(crow es i st row).2.2)) (fun k hk=>by
  have hg:row[k]? =some row[k]:=gE hk
  have hx:=hr.2 _ (List.getElem_mem hk)
  have hsz:Sz (c+k) (crow es i st (row.take k)):=by
   have:=Sz.row (row:=row.take k) (es:=es) (i:=i) hc
   rwa [List.length_take,Nat.min_eq_left (by omega)] at this
  have hsucc:crow es i st (row.take (k+1))=cstep es i (crow es i st (row.take k)) row[k]:=by
   unfold crow
   rw [List.take_add_one,hg,List.foldl_append]
   rfl
  rw [hsucc]
  generalize crow es i st (row.take k)=s at hsz⊢
  generalize row[k]=x at hg hx⊢
  obtain ⟨s1,s2,s3⟩:=hsz
  have hrl:=hr.1
  unfold F.polygon_code_b2
  dsimp only
  rw [dT (by omega),kT,get_nat,hg,bB]
  have hkv:(min (i:Int) x.1,max (i:Int) x.1)=kv i x.1:=rfl
  rw [hkv]
  cases hm:mget s.2.2 (kv i x.1) with
  | some v=>
   have hv:=s3 _ (mget_mem hm)
   dsimp only at hv
   rw [Option.getD_some,chk_ok (by omega) (by omega),bB,Option.isSome_some,Bool.not_true,kF]
   unfold F.polygon_code_j3
   rw [lim_ok (by simp; omega),bB,chk_ok (by omega) (by omega),bB]
   unfold cstep
   rw [hm]
   rfl
  | none=>
   have hex:eAt es x.1.toNat=eAt es x.1.toNat:=rfl
   have hgx:Ev.get es x.1=some (eAt es x.1.toNat):=by
    have:=get_eAt hx.2
    rwa [Int.toNat_of_nonneg hx.1] at this
   rw [Option.getD_none,chk_ok (by omega) (by omega),bB,Option.isSome_none,Bool.not_false,kT,show nok none=some () from rfl,bB,get_eAt hi,bB,hgx,bB]
   unfold cstep
   rw [hm]
   unfold sgX
   cases hx2:x.2 with
   | false=>
    rw [Bool.not_false,kT,sign_eq (hF.at hx.2) (hF.at hi),bB,lim_ok (by simp; omega),bB]
    unfold F.polygon_code_j3
    rw [lim_ok (by simp; omega),bB,chk_ok (by omega) (by omega),bB,hx2]
    simp
   | true=>
    rw [Bool.not_true,kF,sign_eq (hF.at hi) (hF.at hx.2),bB,lim_ok (by simp; omega),bB]
    unfold F.polygon_code_j3
    rw [lim_ok (by simp; omega),bB,chk_ok (by omega) (by omega),bB,hx2]
    simp) (by
  unfold F.polygon_code_b2
  dsimp only
  rw [dF (by omega),kF,List.take_length]) n hn
 exact h0
theorem cpoly_succ (es:List Ed) (P:Nat→List (Int×Bool)) (s m:Nat) (st:CS):cpoly es P s (m+1) st=crow es (s+m) (cpoly es P s m st) (P (s+m)):=by
 unfold cpoly
 rw [List.range_succ,List.foldl_append]
 rfl
theorem Sz.poly {es:List Ed} {P:Nat→List (Int×Bool)} {s:Nat} {c:Nat} {st:CS} {B:Nat}: ∀{m:Nat},(∀j,j<m→(P (s+j)).length≤B)→Sz c st→Sz (c+m*B) (cpoly es P s m st)
 | 0,_,h=>by simpa [cpoly] using h
 | m+1,hP,h=>by
  have ih:=Sz.poly (es:=es) (m:=m) (fun j hj=>hP j (by omega)) h
  rw [cpoly_succ]
  obtain ⟨h1,h2,h3⟩:=ih.row (row:=P (s+m)) (es:=es) (i:=s+m)
  have hb:=hP m (by omega)
  have e:c+(m+1)*B=c+m*B+B:=by rw [Nat.succ_mul]; omega
  refine ⟨by omega,by omega,fun e' he=>?_⟩
  have:=h3 e' he
  omega
theorem code_poly {es:List Ed} (hF:FitE es) (hN:es.length≤10000) {P:Nat→List (Int×Bool)} {Ps:List (List (Int×Bool))} (hP: ∀j,j<es.length→Ps[j]? =some (P j)∧RowOk es.length (P j)) {p:List Pt} {s:Nat} (hs:s+p.length≤es.length) {c:Nat} {st:CS} (hc:Sz c st) (hcb:c≤500000000) (n:Nat) (hn:es.length+1<n):
  loopN n (F.polygon_code_b1 n es Ps (s:Int) p) (st.1,(s:Int),st.2.1,st.2.2)=some ((cpoly es P s p.length st).1,((s+p.length:Nat):Int),(cpoly es P s p.length st).2.1,(cpoly es P s p.length st).2.2):=by
 refine count_loop (fun k:Nat=>((cpoly es P s k st).1,((s+k:Nat):Int),(cpoly es P s k st).2.1,(cpoly es P s k st).2.2)) p.length (fun k hk=>?_) ?_ n (by omega)
 ·
  obtain ⟨hg,hr⟩:=hP (s+k) (by omega)
  have hsz:=Sz.poly (es:=es) (P:=P) (s:=s) (B:=10000) (m:=k) (fun j hj=>by have:=(hP (s+j) (by omega)).2.1; omega) hc
  have hrl:=hr.1
  have hkN:k*10000≤100000000:=by omega
  unfold F.polygon_code_b1
  dsimp only
  rw [chk_ok (by omega) (by omega),bB,dT (by omega),kT,get_nat,hg,bB,code_row hF (by omega) hN hr hsz (by omega) n (by omega),bB]
  dsimp only
  rw [chk_ok (by omega) (by omega),bB,cpoly_succ]
  rfl
 ·
  unfold F.polygon_code_b1
  dsimp only
  rw [chk_ok (by omega) (by omega),bB,dF (by omega),kF]
abbrev CO:=Nat×List (List (Int×Bool))×List Int×Int×List ((Int×Int)×Int)
def costep (es:List Ed) (P:Nat→List (Int×Bool)) (a:CO) (p:List Pt):CO:=
 let r:=cpoly es P a.1 p.length ([],a.2.2.1,a.2.2.2.2)
 (a.1+p.length,if 0<r.1.length then a.2.1++[r.1] else a.2.1,r.2.1,if 0<r.1.length then a.2.2.2.1 else a.2.2.2.1+1,r.2.2)
def cofold (es:List Ed) (P:Nat→List (Int×Bool)) (l:List (List Pt)):CO:=l.foldl (costep es P) (0,[],[],0,[])
def codeS (es:List Ed) (P:Nat→List (Int×Bool)) (l:List (List Pt)):List (List (Int×Bool))×List Int×Int:=((cofold es P l).2.1,(cofold es P l).2.2.1,(cofold es P l).2.2.2.1)
theorem cofold_snoc (es:List Ed) (P:Nat→List (Int×Bool)) (l:List (List Pt)) (p:List Pt):cofold es P (l++[p])=costep es P (cofold es P l) p:=by
 unfold cofold
 rw [List.foldl_append]
 rfl
theorem cofold_start (es:List Ed) (P:Nat→List (Int×Bool)): ∀l:List (List Pt),(cofold es P l).1=sumlen l:=by
 intro l
 have: ∀(l:List (List Pt)) (a:CO),(l.foldl (costep es P) a).1=a.1+sumlen l:=by
  intro l
  induction l with
  | nil=>intro a; simp [sumlen]
  | cons p r ih=>
   intro a
   rw [List.foldl_cons,ih]
   simp [costep,sumlen]
   omega
 have h:=this l (0,[],[],0,[])
 unfold cofold
 rw [h]
 simp
def Szo (c:Nat) (a:CO):Prop:=a.2.2.1.length≤c∧(∀e∈a.2.2.2.2,0≤e.2∧e.2≤(c:Int))
theorem code_eq {es:List Ed} (hF:FitE es) (hN:es.length≤10000) {P:Nat→List (Int×Bool)} {Ps:List (List (Int×Bool))} (hP: ∀j,j<es.length→Ps[j]? =some (P j)∧RowOk es.length (P j)) {l:List (List Pt)} (hl:sumlen l=es.length) (hll:l.length≤1000000000) (n:Nat) (hn:es.length+1<n) (hn2:l.length<n):
  F.polygon_code n l es Ps=some (codeS es P l):=by
 obtain ⟨cz,hcz⟩: ∃f:Nat→Nat,∀k,f k=sumlen (l.take k)*10000:=⟨fun k=>sumlen (l.take k)*10000,fun _=>rfl⟩
 have cz_le: ∀k,cz k≤100000000:=by
  intro k
  rw [hcz]
  have:=sumlen_take_le l k
  have h2:=Nat.mul_le_mul_right 10000 (show sumlen (l.take k)≤10000 by omega)
  omega
 have cz_succ: ∀k (hk:k<l.length),cz (k+1)=cz k+l[k].length*10000:=by
  intro k hk
  rw [hcz,hcz,sumlen_take_succ (gE hk),Nat.add_mul]
 clear hcz
 have inv: ∀k,k≤l.length→Szo (cz k) (cofold es P (l.take k))∧(cofold es P (l.take k)).2.1.length≤k∧0≤(cofold es P (l.take k)).2.2.2.1∧(cofold es P (l.take k)).2.2.2.1≤(k:Int):=by
  intro k
  induction k with
  | zero=>intro _; simp [cofold,Szo]
  | succ k ih=>
   intro hk
   obtain ⟨⟨i1,i2⟩,i3,i4,i5⟩:=ih (by omega)
   have hg:l[k]? =some l[k]:=gE (by omega)
   have hsu:=sumlen_take_succ hg
   have hle:=sumlen_take_le l (k+1)
   have e:cofold es P (l.take (k+1))=costep es P (cofold es P (l.take k)) l[k]:=by
    rw [List.take_add_one,hg]
    exact cofold_snoc es P (l.take k) l[k]
   have hst:=cofold_start es P (l.take k)
   rw [e]
   generalize cofold es P (l.take k)=a at*
   have hsz:Sz (cz k) (([],a.2.2.1,a.2.2.2.2):CS):=⟨Nat.zero_le _,i1,i2⟩
   have hp:=Sz.poly (es:=es) (P:=P) (s:=a.1) (B:=10000) (m:=l[k].length) (fun j hj=>by have:=(hP (a.1+j) (by omega)).2.1; omega) hsz
   obtain ⟨p1,p2,p3⟩:=hp
   unfold costep Szo
   dsimp only
   generalize cpoly es P a.1 l[k].length ([],a.2.2.1,a.2.2.2.2)=q at*
   rw [cz_succ k (by omega)]
   refine ⟨⟨p2,p3⟩,?_,?_⟩
   ·
    split
    · rw [List.length_append,List.length_singleton]; omega
    · omega
   · split<;>omega
 unfold F.polygon_code
 have hc:loopN n (F.polygon_code_b0 n l es Ps) (0,0,([]:List (List (Int×Bool))),([]:List Int),0,([]:List ((Int×Int)×Int)))=some (((cofold es P l).1:Int),(l.length:Int),(cofold es P l).2.1,(cofold es P l).2.2.1,(cofold es P l).2.2.2.1,(cofold es P l).2.2.2.2):=by
  refine count_loop (fun k:Nat=>(((cofold es P (l.take k)).1:Int),(k:Int),(cofold es P (l.take k)).2.1,(cofold es P (l.take k)).2.2.1,(cofold es P (l.take k)).2.2.2.1,(cofold es P (l.take k)).2.2.2.2)) l.length (fun k hk=>?_) ?_ n hn2
  ·
   have hg:l[k]? =some l[k]:=gE hk
   have hsu:=sumlen_take_succ hg
   have hle:=sumlen_take_le l (k+1)
   obtain ⟨⟨i1,i2⟩,i3,i4,i5⟩:=inv k (by omega)
   have e:cofold es P (l.take (k+1))=costep es P (cofold es P (l.take k)) l[k]:=by
    rw [List.take_add_one,hg]
    exact cofold_snoc es P (l.take k) l[k]
   have hst:=cofold_start es P (l.take k)
   rw [e]
   generalize cofold es P (l.take k)=a at*
   have hsz:Sz (cz k) (([],a.2.2.1,a.2.2.2.2):CS):=⟨Nat.zero_le _,i1,i2⟩
   have hcz:=cz_le k
   have hcp:=code_poly hF hN hP (p:=l[k]) (s:=a.1) (by omega) hsz (by omega) n hn
   have hp:=Sz.poly (es:=es) (P:=P) (s:=a.1) (B:=10000) (m:=l[k].length) (fun j hj=>by have:=(hP (a.1+j) (by omega)).2.1; omega) hsz
   unfold F.polygon_code_b0
   dsimp only at hcp⊢
   rw [dT (by omega),kT,get_nat,hg,bB,hcp,bB]
   dsimp only
   rw [chk_ok (by omega) (by omega),bB]
   unfold costep
   dsimp only
   by_cases hv:0<(cpoly es P a.1 l[k].length ([],a.2.2.1,a.2.2.2.2)).1.length
   ·
    rw [dT (by omega),kT,lim_ok (by simp; omega),bB,chk_ok (by omega) (by omega),bB,if_pos hv,if_pos hv]
    rfl
   ·
    rw [dF (by omega),kF,chk_ok (by omega) (by omega),bB,chk_ok (by omega) (by omega),bB,if_neg hv,if_neg hv]
    rfl
  ·
   unfold F.polygon_code_b0
   dsimp only
   rw [dF (by omega),kF,List.take_length]
 rw [hc,bB]
 rfl
end Pg
end Go.Proofs.Yteajmbanlohncaa
