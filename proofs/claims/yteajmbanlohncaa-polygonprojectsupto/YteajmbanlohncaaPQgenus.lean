import Derived.Test.YteajmbanlohncaaPQpass
set_option linter.unusedVariables false
set_option linter.unusedSimpArgs false
namespace Go.Proofs.Yteajmbanlohncaa
open Ev
namespace Pg
def sgE (o u:Ed):Int:=if 0<(o.2.1.1-o.1.1)*(u.2.1.2.1-u.1.2.1)-(o.2.1.2.1-o.1.2.1)*(u.2.1.1-u.1.1) then 1 else -1
theorem sign_eq {o u:Ed} (ho:Fit o.1∧Fit o.2.1) (hu:Fit u.1∧Fit u.2.1) (n:Nat):
  F.polygon_sign n o.1.1 o.1.2.1 o.1.2.2 o.2.1.1 o.2.1.2.1 o.2.1.2.2 o.2.2.1 o.2.2.2 u.1.1 u.1.2.1 u.1.2.2 u.2.1.1 u.2.1.2.1 u.2.1.2.2 u.2.2.1 u.2.2.2=some (sgE o u):=by
 obtain ⟨h1,h2⟩:=ho
 obtain ⟨h3,h4⟩:=hu
 unfold Fit at h1 h2 h3 h4
 have m1:=mulb (A:=2000) (B:=2000) (x:=o.2.1.1-o.1.1) (y:=u.2.1.2.1-u.1.2.1) (by omega) (by omega) (by omega) (by omega)
 have m2:=mulb (A:=2000) (B:=2000) (x:=o.2.1.2.1-o.1.2.1) (y:=u.2.1.1-u.1.1) (by omega) (by omega) (by omega) (by omega)
 unfold F.polygon_sign sgE
 rw [chk_ok (by omega) (by omega),bB,chk_ok (by omega) (by omega),bB,chk_ok (by omega) (by omega),bB,chk_ok (by omega) (by omega),bB,chk_ok (by omega) (by omega),bB,chk_ok (by omega) (by omega),bB,chk_ok (by omega) (by omega),bB]
 by_cases h:0<(o.2.1.1-o.1.1)*(u.2.1.2.1-u.1.2.1)-(o.2.1.2.1-o.1.2.1)*(u.2.1.1-u.1.1)
 · rw [dT h,kT,if_pos h]
 · rw [dF h,kF,if_neg h]
abbrev CS:=List (Int×Bool)×List Int×List ((Int×Int)×Int)
def kv (i k:Int):Int×Int:=(min i k,max i k)
def sgX (es:List Ed) (i:Nat) (x:Int×Bool):Int:=if x.2 then sgE (eAt es i) (eAt es x.1.toNat) else sgE (eAt es x.1.toNat) (eAt es i)
def cstep (es:List Ed) (i:Nat) (st:CS) (x:Int×Bool):CS:=
 match mget st.2.2 (kv i x.1) with
 | some v=>(st.1++[(v,x.2)],st.2.1,st.2.2)
 | none=>(st.1++[((st.2.1.length:Int),x.2)],st.2.1++[sgX es i x],st.2.2++[(kv i x.1,(st.2.1.length:Int))])
def crow (es:List Ed) (i:Nat) (st:CS) (row:List (Int×Bool)):CS:=row.foldl (cstep es i) st
def cpoly (es:List Ed) (P:Nat→List (Int×Bool)) (s m:Nat) (st:CS):CS:=(List.range m).foldl (fun st j=>crow es (s+j) st (P (s+j))) st
def Sz (c:Nat) (st:CS):Prop:=st.1.length≤c∧st.2.1.length≤c∧∀e∈st.2.2,0≤e.2∧e.2≤(c:Int)
theorem mget_mem: ∀{m:List ((Int×Int)×Int)} {k:Int×Int} {v:Int},mget m k=some v→(k,v)∈m
 | [],k,v,h=>by cases h
 | p::r,k,v,h=>by
  unfold mget at h
  split at h
  ·
   rename_i hk
   injection h with h
   subst hk h
   exact List.mem_cons_self
  · exact List.mem_cons_of_mem _ (mget_mem h)
theorem Sz.step {es:List Ed} {i c:Nat} {st:CS} {x:Int×Bool} (h:Sz c st):Sz (c+1) (cstep es i st x):=by
 obtain ⟨h1,h2,h3⟩:=h
 unfold cstep
 cases hm:mget st.2.2 (kv i x.1) with
 | some v=>
  refine ⟨by simp; omega,by dsimp only; omega,fun e he=>?_⟩
  have:=h3 e he
  omega
 | none=>
  refine ⟨by simp; omega,by simp; omega,fun e he=>?_⟩
  rcases List.mem_append.1 he with he | he
  · have:=h3 e he; omega
  ·
   rw [List.mem_singleton] at he
   subst he
   dsimp only
   omega
theorem Sz.row {es:List Ed} {i:Nat}: ∀{row:List (Int×Bool)} {c:Nat} {st:CS},Sz c st→Sz (c+row.length) (crow es i st row)
 | [],c,st,h=>h
 | x::r,c,st,h=>by
  have:=Sz.row (row:=r) (es:=es) (i:=i) (h.step (es:=es) (i:=i) (x:=x))
  rw [List.length_cons]
  rw [show c+(r.length+1)=c+1+r.length from by omega]
  exact this
def RowOk (N:Nat) (row:List (Int×Bool)):Prop:=row.length≤N∧∀x∈row,0≤x.1∧x.1.toNat<N
theorem code_row {es:List Ed} (hF:FitE es) {i:Nat} (hi:i<es.length) (hN:es.length≤10000) {row:List (Int×Bool)} (hr:RowOk es.length row) {c:Nat} {st:CS} (hc:Sz c st) (hcb:c≤1000000000) (n:Nat) (hn:row.length<n):
  loopN n (F.polygon_code_b2 n es (i:Int) row) (st.1,0,st.2.1,st.2.2)=some ((crow es i st row).1,(row.length:Int),(crow es i st row).2.1,(crow es i st row).2.2):=by
 have h0:=count_loop (body:=F.polygon_code_b2 n es (i:Int) row) (fun k=>((crow es i st (row.take k)).1,(k:Int),(crow es i st (row.take k)).2.1,(crow es i st (row.take k)).2.2)) row.length (r:=((crow es i st row).1,(row.length:Int),(crow es i st row).2.1,(crow es i st row).2.2)) (fun k hk=>by
  have hg:row[k]? =some row[k]:=gE hk
  have hx:=hr.2 _ (List.getElem_mem hk)
  have hsz:Sz (c+k) (crow es i st (row.take k)):=by
   have:=Sz.row (row:=row.take k) (es:=es) (i:=i) hc
   rwa [List.length_take,Nat.min_eq_left (by omega)] at this
  have hsucc:crow es i st (row.take (k+1))=cstep es i (crow es i st (row.take k)) row[k]:=by
   unfold crow
   rw [List.take_add_one,hg,List.foldl_append]
   rfl
  rw [hsucc]
  generalize crow es i st (row.take k)=s at hsz⊢
  generalize row[k]=x at hg hx⊢
  obtain ⟨s1,s2,s3⟩:=hsz
  have hrl:=hr.1
  unfold F.polygon_code_b2
  dsimp only
  rw [dT (by omega),kT,get_nat,hg,bB]
  have hkv:(min (i:Int) x.1,max (i:Int) x.1)=kv i x.1:=rfl
  rw [hkv]
  cases hm:mget s.2.2 (kv i x.1) with
  | some v=>
   have hv:=s3 _ (mget_mem hm)
   dsimp only at hv
   rw [Option.getD_some,chk_ok (by omega) (by omega),bB,Option.isSome_some,Bool.not_true,kF]
   unfold F.polygon_code_j3
   rw [lim_ok (by simp; omega),bB,chk_ok (by omega) (by omega),bB]
   unfold cstep
   rw [hm]
   rfl
  | none=>
   have hex:eAt es x.1.toNat=eAt es x.1.toNat:=rfl
   have hgx:Ev.get es x.1=some (eAt es x.1.toNat):=by
    have:=get_eAt hx.2
    rwa [Int.toNat_of_nonneg hx.1] at this
   rw [Option.getD_none,chk_ok (by omega) (by omega),bB,Option.isSome_none,Bool.not_false,kT,show nok none=some () from rfl,bB,get_eAt hi,bB,hgx,bB]
   unfold cstep
   rw [hm]
   unfold sgX
   cases hx2:x.2 with
   | false=>
    rw [Bool.not_false,kT,sign_eq (hF.at hx.2) (hF.at hi),bB,lim_ok (by simp; omega),bB]
    unfold F.polygon_code_j3
    rw [lim_ok (by simp; omega),bB,chk_ok (by omega) (by omega),bB,hx2]
    simp
   | true=>
    rw [Bool.not_true,kF,sign_eq (hF.at hi) (hF.at hx.2),bB,lim_ok (by simp; omega),bB]
    unfold F.polygon_code_j3
    rw [lim_ok (by simp; omega),bB,chk_ok (by omega) (by omega),bB,hx2]
    simp) (by
  unfold F.polygon_code_b2
  dsimp only
  rw [dF (by omega),kF,List.take_length]) n hn
 exact h0
theorem cpoly_succ (es:List Ed) (P:Nat→List (Int×Bool)) (s m:Nat) (st:CS):cpoly es P s (m+1) st=crow es (s+m) (cpoly es P s m st) (P (s+m)):=by
 unfold cpoly
 rw [List.range_succ,List.foldl_append]
 rfl
theorem Sz.poly {es:List Ed} {P:Nat→List (Int×Bool)} {s:Nat} {c:Nat} {st:CS} {B:Nat}: ∀{m:Nat},(∀j,j<m→(P (s+j)).length≤B)→Sz c st→Sz (c+m*B) (cpoly es P s m st)
 | 0,_,h=>by simpa [cpoly] using h
 | m+1,hP,h=>by
  have ih:=Sz.poly (es:=es) (m:=m) (fun j hj=>hP j (by omega)) h
  rw [cpoly_succ]
  obtain ⟨h1,h2,h3⟩:=ih.row (row:=P (s+m)) (es:=es) (i:=s+m)
  have hb:=hP m (by omega)
  have e:c+(m+1)*B=c+m*B+B:=by rw [Nat.succ_mul]; omega
  refine ⟨by omega,by omega,fun e' he=>?_⟩
  have:=h3 e' he
  omega
theorem code_poly {es:List Ed} (hF:FitE es) (hN:es.length≤10000) {P:Nat→List (Int×Bool)} {Ps:List (List (Int×Bool))} (hP: ∀j,j<es.length→Ps[j]? =some (P j)∧RowOk es.length (P j)) {p:List Pt} {s:Nat} (hs:s+p.length≤es.length) {c:Nat} {st:CS} (hc:Sz c st) (hcb:c≤500000000) (n:Nat) (hn:es.length+1<n):
  loopN n (F.polygon_code_b1 n es Ps (s:Int) p) (st.1,(s:Int),st.2.1,st.2.2)=some ((cpoly es P s p.length st).1,((s+p.length:Nat):Int),(cpoly es P s p.length st).2.1,(cpoly es P s p.length st).2.2):=by
 refine count_loop (fun k:Nat=>((cpoly es P s k st).1,((s+k:Nat):Int),(cpoly es P s k st).2.1,(cpoly es P s k st).2.2)) p.length (fun k hk=>?_) ?_ n (by omega)
 ·
  obtain ⟨hg,hr⟩:=hP (s+k) (by omega)
  have hsz:=Sz.poly (es:=es) (P:=P) (s:=s) (B:=10000) (m:=k) (fun j hj=>by have:=(hP (s+j) (by omega)).2.1; omega) hc
  have hrl:=hr.1
  have hkN:k*10000≤100000000:=by omega
  unfold F.polygon_code_b1
  dsimp only
  rw [chk_ok (by omega) (by omega),bB,dT (by omega),kT,get_nat,hg,bB,code_row hF (by omega) hN hr hsz (by omega) n (by omega),bB]
  dsimp only
  rw [chk_ok (by omega) (by omega),bB,cpoly_succ]
  rfl
 ·
  unfold F.polygon_code_b1
  dsimp only
  rw [chk_ok (by omega) (by omega),bB,dF (by omega),kF]
abbrev CO:=Nat×List (List (Int×Bool))×List Int×Int×List ((Int×Int)×Int)
def costep (es:List Ed) (P:Nat→List (Int×Bool)) (a:CO) (p:List Pt):CO:=
 let r:=cpoly es P a.1 p.length ([],a.2.2.1,a.2.2.2.2)
 (a.1+p.length,if 0<r.1.length then a.2.1++[r.1] else a.2.1,r.2.1,if 0<r.1.length then a.2.2.2.1 else a.2.2.2.1+1,r.2.2)
def cofold (es:List Ed) (P:Nat→List (Int×Bool)) (l:List (List Pt)):CO:=l.foldl (costep es P) (0,[],[],0,[])
def codeS (es:List Ed) (P:Nat→List (Int×Bool)) (l:List (List Pt)):List (List (Int×Bool))×List Int×Int:=((cofold es P l).2.1,(cofold es P l).2.2.1,(cofold es P l).2.2.2.1)
theorem cofold_snoc (es:List Ed) (P:Nat→List (Int×Bool)) (l:List (List Pt)) (p:List Pt):cofold es P (l++[p])=costep es P (cofold es P l) p:=by
 unfold cofold
 rw [List.foldl_append]
 rfl
theorem cofold_start (es:List Ed) (P:Nat→List (Int×Bool)): ∀l:List (List Pt),(cofold es P l).1=sumlen l:=by
 intro l
 have: ∀(l:List (List Pt)) (a:CO),(l.foldl (costep es P) a).1=a.1+sumlen l:=by
  intro l
  induction l with
  | nil=>intro a; simp [sumlen]
  | cons p r ih=>
   intro a
   rw [List.foldl_cons,ih]
   simp [costep,sumlen]
   omega
 have h:=this l (0,[],[],0,[])
 unfold cofold
 rw [h]
 simp
def Szo (c:Nat) (a:CO):Prop:=a.2.2.1.length≤c∧(∀e∈a.2.2.2.2,0≤e.2∧e.2≤(c:Int))
theorem code_eq {es:List Ed} (hF:FitE es) (hN:es.length≤10000) {P:Nat→List (Int×Bool)} {Ps:List (List (Int×Bool))} (hP: ∀j,j<es.length→Ps[j]? =some (P j)∧RowOk es.length (P j)) {l:List (List Pt)} (hl:sumlen l=es.length) (hll:l.length≤1000000000) (n:Nat) (hn:es.length+1<n) (hn2:l.length<n):
  F.polygon_code n l es Ps=some (codeS es P l):=by
 obtain ⟨cz,hcz⟩: ∃f:Nat→Nat,∀k,f k=sumlen (l.take k)*10000:=⟨fun k=>sumlen (l.take k)*10000,fun _=>rfl⟩
 have cz_le: ∀k,cz k≤100000000:=by
  intro k
  rw [hcz]
  have:=sumlen_take_le l k
  have h2:=Nat.mul_le_mul_right 10000 (show sumlen (l.take k)≤10000 by omega)
  omega
 have cz_succ: ∀k (hk:k<l.length),cz (k+1)=cz k+l[k].length*10000:=by
  intro k hk
  rw [hcz,hcz,sumlen_take_succ (gE hk),Nat.add_mul]
 clear hcz
 have inv: ∀k,k≤l.length→Szo (cz k) (cofold es P (l.take k))∧(cofold es P (l.take k)).2.1.length≤k∧0≤(cofold es P (l.take k)).2.2.2.1∧(cofold es P (l.take k)).2.2.2.1≤(k:Int):=by
  intro k
  induction k with
  | zero=>intro _; simp [cofold,Szo]
  | succ k ih=>
   intro hk
   obtain ⟨⟨i1,i2⟩,i3,i4,i5⟩:=ih (by omega)
   have hg:l[k]? =some l[k]:=gE (by omega)
   have hsu:=sumlen_take_succ hg
   have hle:=sumlen_take_le l (k+1)
   have e:cofold es P (l.take (k+1))=costep es P (cofold es P (l.take k)) l[k]:=by
    rw [List.take_add_one,hg]
    exact cofold_snoc es P (l.take k) l[k]
   have hst:=cofold_start es P (l.take k)
   rw [e]
   generalize cofold es P (l.take k)=a at*
   have hsz:Sz (cz k) (([],a.2.2.1,a.2.2.2.2):CS):=⟨Nat.zero_le _,i1,i2⟩
   have hp:=Sz.poly (es:=es) (P:=P) (s:=a.1) (B:=10000) (m:=l[k].length) (fun j hj=>by have:=(hP (a.1+j) (by omega)).2.1; omega) hsz
   obtain ⟨p1,p2,p3⟩:=hp
   unfold costep Szo
   dsimp only
   generalize cpoly es P a.1 l[k].length ([],a.2.2.1,a.2.2.2.2)=q at*
   rw [cz_succ k (by omega)]
   refine ⟨⟨p2,p3⟩,?_,?_⟩
   ·
    split
    · rw [List.length_append,List.length_singleton]; omega
    · omega
   · split<;>omega
 unfold F.polygon_code
 have hc:loopN n (F.polygon_code_b0 n l es Ps) (0,0,([]:List (List (Int×Bool))),([]:List Int),0,([]:List ((Int×Int)×Int)))=some (((cofold es P l).1:Int),(l.length:Int),(cofold es P l).2.1,(cofold es P l).2.2.1,(cofold es P l).2.2.2.1,(cofold es P l).2.2.2.2):=by
  refine count_loop (fun k:Nat=>(((cofold es P (l.take k)).1:Int),(k:Int),(cofold es P (l.take k)).2.1,(cofold es P (l.take k)).2.2.1,(cofold es P (l.take k)).2.2.2.1,(cofold es P (l.take k)).2.2.2.2)) l.length (fun k hk=>?_) ?_ n hn2
  ·
   have hg:l[k]? =some l[k]:=gE hk
   have hsu:=sumlen_take_succ hg
   have hle:=sumlen_take_le l (k+1)
   obtain ⟨⟨i1,i2⟩,i3,i4,i5⟩:=inv k (by omega)
   have e:cofold es P (l.take (k+1))=costep es P (cofold es P (l.take k)) l[k]:=by
    rw [List.take_add_one,hg]
    exact cofold_snoc es P (l.take k) l[k]
   have hst:=cofold_start es P (l.take k)
   rw [e]
   generalize cofold es P (l.take k)=a at*
   have hsz:Sz (cz k) (([],a.2.2.1,a.2.2.2.2):CS):=⟨Nat.zero_le _,i1,i2⟩
   have hcz:=cz_le k
   have hcp:=code_poly hF hN hP (p:=l[k]) (s:=a.1) (by omega) hsz (by omega) n hn
   have hp:=Sz.poly (es:=es) (P:=P) (s:=a.1) (B:=10000) (m:=l[k].length) (fun j hj=>by have:=(hP (a.1+j) (by omega)).2.1; omega) hsz
   unfold F.polygon_code_b0
   dsimp only at hcp⊢
   rw [dT (by omega),kT,get_nat,hg,bB,hcp,bB]
   dsimp only
   rw [chk_ok (by omega) (by omega),bB]
   unfold costep
   dsimp only
   by_cases hv:0<(cpoly es P a.1 l[k].length ([],a.2.2.1,a.2.2.2.2)).1.length
   ·
    rw [dT (by omega),kT,lim_ok (by simp; omega),bB,chk_ok (by omega) (by omega),bB,if_pos hv,if_pos hv]
    rfl
   ·
    rw [dF (by omega),kF,chk_ok (by omega) (by omega),bB,chk_ok (by omega) (by omega),bB,if_neg hv,if_neg hv]
    rfl
  ·
   unfold F.polygon_code_b0
   dsimp only
   rw [dF (by omega),kF,List.take_length]
 rw [hc,bB]
 rfl
theorem getD_of' {α:Type} {xs:List α} {k:Nat} (h:k<xs.length) (d:α):xs.getD k d=xs[k]:=by simp [List.getD,gE h]
abbrev Vis:=Int×Bool
def bset (N:Nat) (R:Nat→Bool):List Bool:=(List.range N).map R
theorem bset_len (N:Nat) (R:Nat→Bool):(bset N R).length=N:=by simp [bset]
theorem bset_get {N:Nat} {R:Nat→Bool} {k:Nat} (h:k<N):(bset N R)[k]? =some (R k):=by
 unfold bset
 rw [List.getElem?_map,List.getElem?_range h]; rfl
theorem bset_set {N:Nat} {R:Nat→Bool} {k:Nat} (h:k<N):(bset N R).set k true=bset N (fun j=>decide (j=k) || R j):=by
 apply List.ext_getElem?
 intro j
 rw [List.getElem?_set]
 by_cases hj:j<N
 ·
  rw [bset_get hj,bset_get hj,bset_len]
  by_cases hk:k=j
  · subst hk; simp [h]
  · rw [if_neg hk,dF (fun h=>hk h.symm)]; rfl
 · rw [List.getElem?_eq_none (by rw [bset_len]; omega),List.getElem?_eq_none (by rw [bset_len]; omega),if_neg (by omega)]
theorem bset_congr {N:Nat} {R S:Nat→Bool} (h: ∀k,k<N→R k=S k):bset N R=bset N S:=List.map_congr_left fun k hk=>h k (List.mem_range.1 hk)
theorem bset_rep (N:Nat):List.replicate N false=bset N (fun _=>false):=by
 apply List.ext_getElem?
 intro j
 rw [List.getElem?_replicate]
 by_cases hj:j<N
 · rw [bset_get hj,if_pos hj]
 · rw [List.getElem?_eq_none (by rw [bset_len]; omega),if_neg hj]
def seenB (w:List Vis) (o:Bool) (c:Nat):Bool:=decide (((c:Int),o)∈w)
def okv (n:Nat) (pre:List Vis) (v:Vis):Prop:=0≤v.1∧v.1<(n:Int)∧v∉pre
instance (n:Nat) (pre:List Vis) (v:Vis):Decidable (okv n pre v):=by unfold okv; infer_instance
def okW (n:Nat):List Vis→List Vis→Prop
 | _,[]=>True
 | pre,v::r=>okv n pre v∧okW n (pre++[v]) r
theorem okW_iff (n:Nat): ∀(w pre:List Vis),okW n pre w↔(∀v∈w,0≤v.1∧v.1<(n:Int))∧w.Nodup∧∀v∈w,v∉pre
 | [],pre=>by simp [okW]
 | v::r,pre=>by
  rw [okW,okW_iff n r]
  constructor
  ·
   rintro ⟨⟨h1,h2,h3⟩,h4,h5,h6⟩
   refine ⟨fun u hu=>?_,List.nodup_cons.2 ⟨fun hv=>h6 v hv (by simp),h5⟩,fun u hu=>?_⟩
   ·
    rcases List.mem_cons.1 hu with rfl | hu
    · exact ⟨h1,h2⟩
    · exact h4 u hu
   ·
    rcases List.mem_cons.1 hu with rfl | hu
    · exact h3
    · exact fun h=>h6 u hu (by simp [h])
  ·
   rintro ⟨h1,h2,h3⟩
   rw [List.nodup_cons] at h2
   refine ⟨⟨(h1 v List.mem_cons_self).1,(h1 v List.mem_cons_self).2,h3 v List.mem_cons_self⟩,fun u hu=>h1 u (List.mem_cons_of_mem _ hu),h2.2,fun u hu=>?_⟩
   rw [List.mem_append,List.mem_singleton]
   rintro (h | h)
   · exact h3 u (List.mem_cons_of_mem _ hu) h
   · subst h; exact h2.1 hu
theorem okW_app (n:Nat): ∀(w pre r:List Vis),okW n pre (w++r)↔okW n pre w∧okW n (pre++w) r
 | [],pre,r=>by simp [okW]
 | v::w,pre,r=>by
  rw [List.cons_append,okW,okW,okW_app n w]
  simp only [List.append_assoc,List.cons_append,List.nil_append,and_assoc]
theorem okW_at {n:Nat} {pre w:List Vis}:okW n pre w↔∀k (h:k<w.length),okv n (pre++w.take k) w[k]:=by
 induction w generalizing pre with
 | nil=>simp [okW]
 | cons v r ih=>
  rw [okW,ih]
  constructor
  ·
   rintro ⟨h1,h2⟩ k hk
   cases k with
   | zero=>simpa using h1
   | succ k=>simpa using h2 k (by simpa using hk)
  ·
   intro h
   refine ⟨?_,fun k hk=>?_⟩
   ·
    have:=h 0 (by simp)
    rw [List.take_zero,List.append_nil,List.getElem_cons_zero] at this
    exact this
   ·
    have:=h (k+1) (by simpa using hk)
    rw [List.getElem_cons_succ,List.take_succ_cons] at this
    simpa using this
open Classical in
theorem gv_comp (sg:List Int) (w:List Vis) (pre:List Vis) (hn:sg.length≤64) (hw:w.length+pre.length≤1000000000) (n:Nat) (hf:w.length<n):
  loopN n (F.gauss_Valid_b2 n sg w) ((pre.length:Int),0,bset sg.length (seenB pre true),bset sg.length (seenB pre false))=
   some (if okW sg.length pre w then .inl (((pre++w).length:Int),(w.length:Int),bset sg.length (seenB (pre++w) true),bset sg.length (seenB (pre++w) false)) else .inr false):=by
 have hs:=scan_loop (body:=F.gauss_Valid_b2 n sg w) (fun k=>(((pre++w.take k).length:Int),(k:Int),bset sg.length (seenB (pre++w.take k) true),bset sg.length (seenB (pre++w.take k) false))) w.length
  (fun k=>if okv sg.length (pre++w.take k) (w.getD k (0,false)) then none else some false) (e:=(((pre++w).length:Int),(w.length:Int),bset sg.length (seenB (pre++w) true),bset sg.length (seenB (pre++w) false))) (fun k hk=>by
  have hg:w[k]? =some w[k]:=gE hk
  have hts:pre++w.take (k+1)=(pre++w.take k)++[w[k]]:=by
   rw [List.take_add_one,hg,List.append_assoc]; rfl
  rw [getD_of' hk,hts]
  have hlen:(pre++w.take k).length=pre.length+k:=by simp; omega
  generalize pre++w.take k=q at*
  generalize w[k]=v at hg⊢
  obtain ⟨c,o⟩:=v
  unfold F.gauss_Valid_b2
  dsimp only
  rw [dT (by omega),kT,get_nat,hg,bB]
  dsimp only
  by_cases h1:c<0
  · rw [dT h1,kT,if_neg (fun h=>by have:=h.1; dsimp only at this; omega)]
  rw [dF h1,kF]
  by_cases h2:(sg.length:Int)≤c
  · rw [dT h2,kT,if_neg (fun h=>by have:=h.2.1; dsimp only at this; omega)]
  rw [dF h2,kF]
  obtain ⟨d,rfl⟩: ∃d:Nat,c=(d:Int):=⟨c.toNat,by omega⟩
  have hd:d<sg.length:=by omega
  have key: ∀o',(fun j=>decide (j=d) || seenB q o' j)=seenB (q++[((d:Int),o')]) o':=by
   intro o'
   funext j
   unfold seenB
   by_cases hj:j=d
   · subst hj; simp
   ·
    have: ¬(j:Int)=(d:Int):=by omega
    simp [hj,this]
  have oth: ∀o',seenB q (!o')=seenB (q++[((d:Int),o')]) (!o'):=by
   intro o'
   funext j
   unfold seenB
   cases o'<;>simp
  have ll:((q++[((d:Int),o)]).length:Int)=(q.length:Int)+1:=by simp
  cases o with
  | true=>
   rw [kT,get_nat,bset_get hd,bB]
   by_cases h3:((d:Int),true)∈q
   · rw [show seenB q true d=true from dT h3,kT,if_neg (fun h=>h.2.2 h3)]
   ·
    rw [show seenB q true d=false from dF h3,kF,bB,chk_ok (by omega) (by omega),bB,chk_ok (by omega) (by omega),bB,Int.toNat_natCast,bset_set hd,if_pos ⟨by dsimp only; omega,by dsimp only; omega,h3⟩,key true,ll]
    have:=oth true
    rw [Bool.not_true] at this
    rw [←this]; rfl
  | false=>
   rw [kF,get_nat,bset_get hd,bB]
   by_cases h3:((d:Int),false)∈q
   · rw [show seenB q false d=true from dT h3,kT,if_neg (fun h=>h.2.2 h3)]
   ·
    rw [show seenB q false d=false from dF h3,kF,bB,chk_ok (by omega) (by omega),bB,chk_ok (by omega) (by omega),bB,Int.toNat_natCast,bset_set hd,if_pos ⟨by dsimp only; omega,by dsimp only; omega,h3⟩,key false,ll]
    have:=oth false
    rw [Bool.not_false] at this
    rw [←this]; rfl) (by
  unfold F.gauss_Valid_b2
  dsimp only
  rw [dF (by omega),kF,List.take_length]) n hf
 have h0:((pre.length:Int),(0:Int),bset sg.length (seenB pre true),bset sg.length (seenB pre false))=(fun k:Nat=>(((pre++w.take k).length:Int),(k:Int),bset sg.length (seenB (pre++w.take k) true),bset sg.length (seenB (pre++w.take k) false))) 0:=by simp
 rw [h0,hs]
 by_cases hok:okW sg.length pre w
 ·
  rw [if_pos hok,findSome_none]
  intro k hk
  rw [getD_of' hk,if_pos (okW_at.1 hok k hk)]
 ·
  rw [if_neg hok]
  have: ∃k,∃h:k<w.length,¬okv sg.length (pre++w.take k) w[k]:=by
   apply Classical.byContradiction
   intro hc
   exact hok (okW_at.2 fun k hk=>Classical.byContradiction fun hx=>hc ⟨k,hk,hx⟩)
  obtain ⟨k,hk,hx⟩:=this
  rw [findSome_one (q:=false) (k:=k) (fun k q' h=>by
   split at h
   · cases h
   · injection h with h; exact h.symm) hk (by rw [getD_of' hk,if_neg hx]; simp)]
def GV (cs:List (List Vis)) (sg:List Int) (lo:Int):Prop:=
 sg.length≤64∧0≤lo∧lo≤64∧(∀s∈sg,s=1∨s=-1)∧(∀c∈cs,c≠[])∧(∀v∈cs.flatten,0≤v.1∧v.1<(sg.length:Int))∧cs.flatten.Nodup∧cs.flatten.length=2*sg.length
open Classical in
theorem gv_signs (sg:List Int) (n:Nat) (hn:sg.length<n) (hb:sg.length≤64):loopN n (F.gauss_Valid_b0 n sg) 0=some (if∀s∈sg,s=1∨s=-1 then .inl (sg.length:Int) else .inr false):=by
 have hs:=scan_loop (body:=F.gauss_Valid_b0 n sg) (fun k=>(k:Int)) sg.length (fun k=>if sg.getD k 0=1∨sg.getD k 0=-1 then none else some false) (e:=(sg.length:Int)) (fun k hk=>by
  unfold F.gauss_Valid_b0
  dsimp only
  rw [dT (by omega),kT,get_nat,gE hk,bB,getD_of' hk]
  by_cases h1:sg[k]=1
  · rw [dT h1,Bool.not_true,kF,chk_ok (by omega) (by omega),bB,if_pos (.inl h1)]; rfl
  rw [dF h1,Bool.not_false,kT]
  by_cases h2:sg[k]=-1
  · rw [dT h2,Bool.not_true,kF,chk_ok (by omega) (by omega),bB,if_pos (.inr h2)]; rfl
  · rw [dF h2,Bool.not_false,kT,if_neg (by rintro (h | h); exact h1 h; exact h2 h)]) (by
  unfold F.gauss_Valid_b0
  dsimp only
  rw [dF (by omega),kF]) n hn
 refine hs.trans ?_
 by_cases hf: ∀s∈sg,s=1∨s=-1
 ·
  rw [if_pos hf,findSome_none]
  intro k hk
  rw [getD_of' hk,if_pos (hf _ (List.getElem_mem hk))]
 ·
  rw [if_neg hf]
  have: ∃k,∃h:k<sg.length,¬(sg[k]=1∨sg[k]=-1):=by
   apply Classical.byContradiction
   intro hc
   apply hf
   intro x hx
   obtain ⟨k,hk,rfl⟩:=List.mem_iff_getElem.1 hx
   exact Classical.byContradiction fun hx=>hc ⟨k,hk,hx⟩
  obtain ⟨k,hk,hx⟩:=this
  rw [findSome_one (q:=false) (k:=k) (fun k q' h=>by
   split at h
   · cases h
   · injection h with h; exact h.symm) hk (by rw [getD_of' hk,if_neg hx]; simp)]
theorem flatten_take_succ {cs:List (List Vis)} {k:Nat} {c:List Vis} (h:cs[k]? =some c):(cs.take (k+1)).flatten=(cs.take k).flatten++c:=by
 rw [List.take_add_one,h]; simp
theorem flatten_take_le (cs:List (List Vis)) (k:Nat):(cs.take k).flatten.length≤cs.flatten.length:=by
 conv=>rhs; rw [←List.take_append_drop k cs]
 rw [List.flatten_append,List.length_append]
 omega
open Classical in
theorem gv_eq (cs:List (List Vis)) (sg:List Int) (lo:Int) (n:Nat) (hb:cs.flatten.length≤100000000) (hc:cs.length≤100000000) (hn:64<n) (hn1:cs.length<n) (hn2:cs.flatten.length<n):F.gauss_Valid n cs sg lo=some (decide (GV cs sg lo)):=by
 unfold F.gauss_Valid
 by_cases h1:64<(sg.length:Int)
 · rw [dT h1,kT,dF (fun h=>by have:=h.1; omega)]
 rw [dF h1,kF]
 by_cases h2:lo<0
 · rw [dT h2,kT,dF (fun h=>by have:=h.2.1; omega)]
 rw [dF h2,kF]
 by_cases h3:64<lo
 · rw [dT h3,kT,dF (fun h=>by have:=h.2.2.1; omega)]
 rw [dF h3,kF,gv_signs sg n (by omega) (by omega),bB]
 by_cases h4: ∀s∈sg,s=1∨s=-1
 case neg=>rw [if_neg h4,dF (fun h=>h4 h.2.2.2.1)]
 rw [if_pos h4]
 dsimp only
 rw [pos_ok (by omega) (by omega),bB,bB]
 have hs:=scan_loop (body:=F.gauss_Valid_b1 n cs sg) (fun k=>(((cs.take k).flatten.length:Int),(k:Int),bset sg.length (seenB (cs.take k).flatten true),bset sg.length (seenB (cs.take k).flatten false))) cs.length
  (fun k=>if cs.getD k []≠[]∧okW sg.length (cs.take k).flatten (cs.getD k []) then none else some false) (e:=((cs.flatten.length:Int),(cs.length:Int),bset sg.length (seenB cs.flatten true),bset sg.length (seenB cs.flatten false))) (fun k hk=>by
  have hg:cs[k]? =some cs[k]:=gE hk
  have hsu:=flatten_take_succ hg
  have hle:=flatten_take_le cs (k+1)
  rw [hsu,List.length_append] at hle
  rw [getD_of' hk,hsu]
  unfold F.gauss_Valid_b1
  dsimp only
  rw [dT (by omega),kT,get_nat,hg,bB]
  by_cases he:cs[k]=[]
  · rw [dT (by rw [he]; rfl),kT,if_neg (fun h=>h.1 he)]
  have hl:cs[k].length≠0:=fun h=>he (List.eq_nil_of_length_eq_zero h)
  rw [dF (by omega),kF,gv_comp sg cs[k] _ (by omega) (by omega) n (by omega),bB]
  by_cases hok:okW sg.length (cs.take k).flatten cs[k]
  ·
   rw [if_pos hok,if_pos ⟨he,hok⟩]
   dsimp only
   rw [chk_ok (by omega) (by omega),bB]; rfl
  · rw [if_neg hok,if_neg (fun h=>hok h.2)]) (by
  unfold F.gauss_Valid_b1
  dsimp only
  rw [dF (by omega),kF,List.take_length]) n hn1
 have h0:((0:Int),(0:Int),List.replicate (sg.length:Int).toNat false,List.replicate (sg.length:Int).toNat false)=(fun k:Nat=>(((cs.take k).flatten.length:Int),(k:Int),bset sg.length (seenB (cs.take k).flatten true),bset sg.length (seenB (cs.take k).flatten false))) 0:=by
  rw [Int.toNat_natCast,bset_rep]
  have: ∀o,seenB [] o=fun _=>false:=fun o=>by funext j; simp [seenB]
  simp [this]
 rw [h0,hs,bB]
 have hokall: ∀m,m≤cs.length→((∀k,k<m→cs.getD k []≠[]∧okW sg.length (cs.take k).flatten (cs.getD k []))↔(∀c∈cs.take m,c≠[])∧okW sg.length [] (cs.take m).flatten):=by
  intro m
  induction m with
  | zero=>intro _; simp [okW]
  | succ m ih=>
   intro hm
   have hg:cs[m]? =some cs[m]:=gE (by omega)
   rw [flatten_take_succ hg,okW_app,List.nil_append]
   have:=ih (by omega)
   constructor
   ·
    intro h
    obtain ⟨a,b⟩:=this.1 fun k hk=>h k (by omega)
    have hx:=h m (by omega)
    rw [getD_of' (by omega)] at hx
    refine ⟨fun c hc=>?_,b,hx.2⟩
    rw [List.take_add_one,hg] at hc
    rcases List.mem_append.1 hc with hc | hc
    · exact a c hc
    · simp at hc; subst hc; exact hx.1
   ·
    rintro ⟨a,b,c⟩ k hk
    rcases Nat.lt_or_ge k m with hk' | hk'
    ·
     refine this.2 ⟨fun c hc=>a c ?_,b⟩ k hk'
     rw [List.take_add_one]; exact List.mem_append_left _ hc
    ·
     obtain rfl:k=m:=by omega
     rw [getD_of' (by omega)]
     refine ⟨a _ ?_,c⟩
     rw [List.take_add_one]
     exact List.mem_append_right _ (by rw [hg]; exact List.mem_singleton_self _)
 have hall:=hokall cs.length (Nat.le_refl _)
 rw [List.take_length] at hall
 by_cases hok: ∀k,k<cs.length→cs.getD k []≠[]∧okW sg.length (cs.take k).flatten (cs.getD k [])
 ·
  obtain ⟨a,b⟩:=hall.1 hok
  rw [okW_iff] at b
  rw [findSome_none (fun k hk=>by rw [if_pos (hok k hk)])]
  dsimp only
  rw [chk_ok (by omega) (by omega),bB]
  congr 1
  refine decide_eq_decide.mpr ⟨fun h=>⟨by omega,by omega,by omega,h4,a,b.1,b.2.1,by omega⟩,fun h=>?_⟩
  have:=h.2.2.2.2.2.2.2
  omega
 ·
  have hn: ¬GV cs sg lo:=fun h=>hok (hall.2 ⟨h.2.2.2.2.1,(okW_iff _ _ _).2 ⟨h.2.2.2.2.2.1,h.2.2.2.2.2.2.1,fun v _ hv=>by cases hv⟩⟩)
  have: ∃k,k<cs.length∧¬(cs.getD k []≠[]∧okW sg.length (cs.take k).flatten (cs.getD k [])):=by
   apply Classical.byContradiction
   intro hc
   exact hok fun k hk=>Classical.byContradiction fun hx=>hc ⟨k,hk,hx⟩
  obtain ⟨k,hk,hx⟩:=this
  rw [findSome_one (q:=false) (k:=k) (fun k q' h=>by
   split at h
   · cases h
   · injection h with h; exact h.symm) hk (by rw [if_neg hx]; simp),dF hn]
inductive Cn (adj:Nat→Nat→Prop):Nat→Nat→Prop
 | refl (a:Nat):Cn adj a a
 | step {a b c:Nat}:Cn adj a b→adj b c→Cn adj a c
theorem Cn.one {adj:Nat→Nat→Prop} {a b:Nat} (h:adj a b):Cn adj a b:=.step (.refl a) h
theorem Cn.trans {adj:Nat→Nat→Prop} {a b c:Nat} (h1:Cn adj a b) (h2:Cn adj b c):Cn adj a c:=by
 induction h2 with
 | refl=>exact h1
 | step _ h ih=>exact .step ih h
theorem Cn.symm {adj:Nat→Nat→Prop} (hs: ∀a b,adj a b→adj b a) {a b:Nat} (h:Cn adj a b):Cn adj b a:=by
 induction h with
 | refl=>exact .refl _
 | step _ h ih=>exact (Cn.one (hs _ _ h)).trans ih
theorem Cn.map {adj adj':Nat→Nat→Prop} {f:Nat→Nat} (hf: ∀a b,adj a b→Cn adj' (f a) (f b)) {a b:Nat} (h:Cn adj a b):Cn adj' (f a) (f b):=by
 induction h with
 | refl=>exact .refl _
 | step _ h ih=>exact ih.trans (hf _ _ h)
theorem Cn.closed {adj:Nat→Nat→Prop} {S:Nat→Prop} (hS: ∀a b,S a→adj a b→S b) {a b:Nat} (h:Cn adj a b) (ha:S a):S b:=by
 induction h with
 | refl=>exact ha
 | step _ h ih=>exact hS _ _ ih h
def Rep (adj:Nat→Nat→Prop) (h:Nat):Prop:= ∀g,g<h→¬Cn adj g h
open Classical in
noncomputable def reps (N:Nat) (adj:Nat→Nat→Prop):List Nat:=(List.range N).filter (fun h=>decide (Rep adj h))
noncomputable def cls (N:Nat) (adj:Nat→Nat→Prop):Nat:=(reps N adj).length
open Classical in
theorem mem_reps {N:Nat} {adj:Nat→Nat→Prop} {h:Nat}:h∈reps N adj↔h<N∧Rep adj h:=by
 unfold reps
 rw [List.mem_filter,List.mem_range,decide_eq_true_iff]
theorem reps_nodup (N:Nat) (adj:Nat→Nat→Prop):(reps N adj).Nodup:=List.Nodup.sublist List.filter_sublist List.nodup_range
theorem cls_succ_rep {N:Nat} {adj:Nat→Nat→Prop} (h:Rep adj N):cls (N+1) adj=cls N adj+1:=by
 unfold cls reps
 rw [List.range_succ,List.filter_append,List.length_append]
 simp [h]
theorem cls_succ_not {N:Nat} {adj:Nat→Nat→Prop} (h: ¬Rep adj N):cls (N+1) adj=cls N adj:=by
 unfold cls reps
 rw [List.range_succ,List.filter_append,List.length_append]
 simp [h]
theorem cls_le (N:Nat) (adj:Nat→Nat→Prop):cls N adj≤N:=by
 unfold cls reps
 have:=List.length_filter_le (fun h=>@decide (Rep adj h) (Classical.propDecidable _)) (List.range N)
 rwa [List.length_range] at this
theorem sub_len {α:Type} [DecidableEq α]: ∀{l1 l2:List α},l1.Nodup→(∀x∈l1,x∈l2)→l1.length≤l2.length
 | [],l2,_,_=>Nat.zero_le _
 | a::r,l2,hn,hs=>by
  rw [List.nodup_cons] at hn
  have ha:=hs a List.mem_cons_self
  have:=sub_len (l1:=r) (l2:=l2.erase a) hn.2 fun x hx=>(List.mem_erase_of_ne (by intro h; subst h; exact hn.1 hx)).2 (hs x (List.mem_cons_of_mem _ hx))
  rw [List.length_erase_of_mem ha] at this
  have hp:=List.length_pos_of_mem ha
  rw [List.length_cons]
  omega
theorem nodup_lt {l:List Nat} {N:Nat} (hn:l.Nodup) (hl: ∀x∈l,x<N):l.length≤N:=by
 have:=sub_len hn (l2:=List.range N) fun x hx=>List.mem_range.2 (hl x hx)
 rwa [List.length_range] at this
theorem nodup_all {l:List Nat} {N:Nat} (hn:l.Nodup) (hl: ∀x∈l,x<N) (hN:N≤l.length) {k:Nat} (hk:k<N):k∈l:=by
 apply Classical.byContradiction
 intro hc
 have:=nodup_lt (l:=k::l) (N:=N) (List.nodup_cons.2 ⟨hc,hn⟩) (fun x hx=>by
  rcases List.mem_cons.1 hx with rfl | hx
  · exact hk
  · exact hl x hx)
 rw [List.length_cons] at this
 omega
theorem least_of {p:Nat→Prop} {n:Nat} (h:p n): ∃k,p k∧k≤n∧∀j,j<k→¬p j:=by
 induction n using Nat.strongRecOn with
 | _ n ih=>
  by_cases hc: ∃j,j<n∧p j
  ·
   obtain ⟨j,hj,hp⟩:=hc
   obtain ⟨k,a,b,c⟩:=ih j hj hp
   exact ⟨k,a,by omega,c⟩
  · exact ⟨n,h,Nat.le_refl _,fun j hj hp=>hc ⟨j,hj,hp⟩⟩
theorem rep_of {adj:Nat→Nat→Prop} (hs: ∀a b,adj a b→adj b a) (h:Nat): ∃k,k≤h∧Cn adj k h∧Rep adj k:=by
 obtain ⟨k,a,b,c⟩:=least_of (p:=fun k=>Cn adj k h) (.refl h)
 exact ⟨k,b,a,fun j hj hjk=>c j hj (hjk.trans a)⟩
def v0:Vis:=(0,false)
def inH (sg:List Int) (v:Vis):Nat:=4*v.1.toNat+(if v.2 then (if sg.getD v.1.toNat 0=1 then 3 else 1) else 0)
def outH (sg:List Int) (v:Vis):Nat:=4*v.1.toNat+(if v.2 then (if sg.getD v.1.toNat 0=1 then 1 else 3) else 2)
theorem ends_eq {sg:List Int} {v:Vis} (h0:0≤v.1) (h1:v.1<(sg.length:Int)) (hs:sg.length≤64) (cs:List (List Vis)) (lo:Int) (n:Nat):F.gauss_ends n cs sg lo v.1 v.2=some ((inH sg v:Int),(outH sg v:Int)):=by
 obtain ⟨c,o⟩:=v
 obtain ⟨d,rfl⟩: ∃d:Nat,c=(d:Int):=⟨c.toNat,by dsimp only at h0; omega⟩
 dsimp only at h0 h1
 have hd:d<sg.length:=by omega
 unfold F.gauss_ends inH outH
 dsimp only
 rw [Int.toNat_natCast,getD_of' hd,chk_ok (by omega) (by omega),bB]
 cases o with
 | false=>
  rw [Bool.not_false,kT,chk_ok (by omega) (by omega),bB]
  simp
 | true=>
  rw [Bool.not_true,kF,get_nat,gE hd,bB]
  by_cases h1:sg[d]=1
  ·
   rw [dT h1,kT,chk_ok (by omega) (by omega),bB,chk_ok (by omega) (by omega),bB,if_pos h1,if_pos h1]
   simp
  ·
   rw [dF h1,kF,chk_ok (by omega) (by omega),bB,chk_ok (by omega) (by omega),bB,if_neg h1,if_neg h1]
   simp
def setP (M:List Int) (p:Nat×Nat):List Int:=(M.set p.1 (p.2:Int)).set p.2 (p.1:Int)
def prs (sg:List Int) (w:List Vis) (m:Nat):List (Nat×Nat):=(List.range m).map fun i=>(outH sg (w.getD i v0),inH sg (w.getD ((i+1)%w.length) v0))
def allP (sg:List Int) (cs:List (List Vis)):List (Nat×Nat):=cs.flatMap fun w=>prs sg w w.length
def mtS (sg:List Int) (cs:List (List Vis)):List Int:=(allP sg cs).foldl setP (List.replicate (4*sg.length) 0)
theorem setP_len (M:List Int) (p:Nat×Nat):(setP M p).length=M.length:=by simp [setP]
theorem fold_len (ps:List (Nat×Nat)) (M:List Int):(ps.foldl setP M).length=M.length:=by
 induction ps generalizing M with
 | nil=>rfl
 | cons p r ih=>rw [List.foldl_cons,ih,setP_len]
theorem ends_lt {sg:List Int} {v:Vis} (h0:0≤v.1) (h1:v.1<(sg.length:Int)):inH sg v<4*sg.length∧outH sg v<4*sg.length:=by
 unfold inH outH
 constructor<;>(split<;>(try split)<;>omega)
theorem prs_succ (sg:List Int) (w:List Vis) (m:Nat):prs sg w (m+1)=prs sg w m++[(outH sg (w.getD m v0),inH sg (w.getD ((m+1)%w.length) v0))]:=by
 unfold prs
 rw [List.range_succ,List.map_append]; rfl
theorem mates_row {sg:List Int} {w:List Vis} (hw: ∀v∈w,0≤v.1∧v.1<(sg.length:Int)) (hs:sg.length≤64) {M:List Int} (hM:M.length=4*sg.length) (cs:List (List Vis)) (lo:Int) (n:Nat) (hn:w.length<n) (hl:w.length≤1000000000):
  loopN n (F.gauss_mates_b1 n cs sg lo w) (0,M)=some ((w.length:Int),(prs sg w w.length).foldl setP M):=by
 refine count_loop (fun k:Nat=>((k:Int),(prs sg w k).foldl setP M)) w.length (fun k hk=>?_) ?_ n hn
 ·
  have hm:(k+1)%w.length<w.length:=Nat.mod_lt _ (by omega)
  have ht:Int.tmod (((k:Nat):Int)+1) (w.length:Int)=(((k+1)%w.length:Nat):Int):=by
   rw [show ((k:Int)+1)=((k+1:Nat):Int) from by omega,Int.ofNat_tmod]
  have a:=hw _ (List.getElem_mem hk)
  have b:=hw _ (List.getElem_mem hm)
  have la:=(ends_lt a.1 a.2).2
  have lb:=(ends_lt b.1 b.2).1
  have hlen:=fold_len (prs sg w k) M
  rw [prs_succ,List.foldl_append,getD_of' hk,getD_of' hm]
  generalize (prs sg w k).foldl setP M=Q at hlen⊢
  unfold F.gauss_mates_b1
  dsimp only
  rw [dT (by omega),kT,get_nat,gE hk,bB,ends_eq a.1 a.2 hs,bB,chk_ok (by omega) (by omega),bB,nz_ok (by omega),bB,ht,get_nat,gE hm,bB,ends_eq b.1 b.2 hs,bB]
  dsimp only
  rw [get_nat,gE (by omega),bB,Int.toNat_natCast,get_nat,gE (by rw [List.length_set]; omega),bB,bB,Int.toNat_natCast]
  rfl
 ·
  unfold F.gauss_mates_b1
  dsimp only
  rw [dF (by omega),kF]
theorem mates_eq {sg:List Int} {cs:List (List Vis)} (hw: ∀v∈cs.flatten,0≤v.1∧v.1<(sg.length:Int)) (hs:sg.length≤64) (lo:Int) (n:Nat) (hn:cs.flatten.length<n) (hc:cs.length<n) (hl:cs.flatten.length≤1000000000) (hcl:cs.length≤1000000000):
  F.gauss_mates n cs sg lo=some (mtS sg cs):=by
 unfold F.gauss_mates
 rw [chk_ok (by omega) (by omega),bB,pos_ok (by omega) (by omega),bB]
 have hl:loopN n (F.gauss_mates_b0 n cs sg lo) (0,List.replicate (4*(sg.length:Int)).toNat (0:Int))=some ((cs.length:Int),mtS sg cs):=by
  refine count_loop (fun k:Nat=>((k:Int),(allP sg (cs.take k)).foldl setP (List.replicate (4*sg.length) 0))) cs.length (fun k hk=>?_) ?_ n hc
  ·
   have hg:cs[k]? =some cs[k]:=gE hk
   have hlen:=fold_len (allP sg (cs.take k)) (List.replicate (4*sg.length) 0)
   rw [List.length_replicate] at hlen
   have hsub: ∀v∈cs[k],v∈cs.flatten:=fun v hv=>List.mem_flatten.2 ⟨_,List.getElem_mem hk,hv⟩
   have hle:=flatten_take_le cs (k+1)
   rw [flatten_take_succ hg,List.length_append] at hle
   have e:allP sg (cs.take (k+1))=allP sg (cs.take k)++prs sg cs[k] cs[k].length:=by
    unfold allP
    rw [List.take_add_one,hg,List.flatMap_append]
    simp
   rw [e,List.foldl_append]
   unfold F.gauss_mates_b0
   dsimp only
   rw [dT (by omega),kT,get_nat,hg,bB,mates_row (fun v hv=>hw v (hsub v hv)) hs hlen cs lo n (by omega) (by omega),bB]
   dsimp only
   rw [chk_ok (by omega) (by omega),bB]
   rfl
  ·
   unfold F.gauss_mates_b0
   dsimp only
   rw [dF (by omega),kF,List.take_length]
   rfl
 rw [hl,bB]
theorem fold_other {ps:List (Nat×Nat)} {M:List Int} {k:Nat} (h1:k∉ps.map (·.1)) (h2:k∉ps.map (·.2)):(ps.foldl setP M)[k]? =M[k]? :=by
 induction ps generalizing M with
 | nil=>rfl
 | cons p r ih=>
  rw [List.map_cons,List.mem_cons,not_or] at h1 h2
  rw [List.foldl_cons,ih h1.2 h2.2]
  unfold setP
  rw [List.getElem?_set_ne (fun h=>h2.1 h.symm),List.getElem?_set_ne (fun h=>h1.1 h.symm)]
theorem fold_pair {ps:List (Nat×Nat)} {M:List Int} (n1:(ps.map (·.1)).Nodup) (n2:(ps.map (·.2)).Nodup) (hd: ∀x∈ps.map (·.1),x∉ps.map (·.2)) {a b:Nat} (h:(a,b)∈ps) (ha:a<M.length) (hb:b<M.length):
  (ps.foldl setP M)[a]? =some (b:Int)∧(ps.foldl setP M)[b]? =some (a:Int):=by
 induction ps generalizing M with
 | nil=>cases h
 | cons p r ih=>
  rw [List.map_cons,List.nodup_cons] at n1 n2
  rw [List.foldl_cons]
  have hd': ∀x∈r.map (·.1),x∉r.map (·.2):=fun x hx hx2=>hd x (by rw [List.map_cons]; exact List.mem_cons_of_mem _ hx) (by rw [List.map_cons]; exact List.mem_cons_of_mem _ hx2)
  rcases List.mem_cons.1 h with rfl | h
  ·
   have hab:a≠b:=fun e=>hd a (by simp) (by simp [e])
   have d1:a∉r.map (·.2):=fun hx=>hd a (by simp) (by rw [List.map_cons]; exact List.mem_cons_of_mem _ hx)
   have d2:b∉r.map (·.1):=fun hx=>hd b (by rw [List.map_cons]; exact List.mem_cons_of_mem _ hx) (by simp)
   rw [fold_other n1.1 d1,fold_other d2 n2.1]
   unfold setP
   dsimp only
   refine ⟨?_,?_⟩
   · rw [List.getElem?_set_ne (fun h=>hab h.symm),List.getElem?_set_self ha]
   · rw [List.getElem?_set_self (by rw [List.length_set]; exact hb)]
  · exact ih n1.2 n2.2 hd' h (by rw [setP_len]; exact ha) (by rw [setP_len]; exact hb)
def MT (N:Nat) (M:List Int) (μ:Nat→Nat):Prop:=M.length=N∧∀h,h<N→M[h]? =some (μ h:Int)∧μ h<N∧μ (μ h)=h∧μ h≠h
theorem rot_row (w:List Vis):(List.range w.length).map (fun i=>w.getD ((i+1)%w.length) v0)=w.drop 1++w.take 1:=by
 apply List.ext_getElem?
 intro i
 rw [List.getElem?_map]
 by_cases hi:i<w.length
 ·
  rw [List.getElem?_range hi,Option.map_some]
  by_cases h1:i+1<w.length
  · rw [Nat.mod_eq_of_lt h1,getD_of' h1,List.getElem?_append_left (by rw [List.length_drop]; omega),List.getElem?_drop,Nat.add_comm 1 i,gE h1]
  ·
   have:i+1=w.length:=by omega
   rw [this,Nat.mod_self,getD_of' (by omega),List.getElem?_append_right (by rw [List.length_drop]; omega),List.length_drop,List.getElem?_take_of_lt (by omega),show i-(w.length-1)=0 from by omega,gE (by omega)]
 ·
  rw [List.getElem?_eq_none (by simp; omega),List.getElem?_eq_none (by simp; omega)]
  rfl
theorem row_id (w:List Vis):(List.range w.length).map (fun i=>w.getD i v0)=w:=by
 apply List.ext_getElem?
 intro i
 rw [List.getElem?_map]
 by_cases hi:i<w.length
 · rw [List.getElem?_range hi,Option.map_some,getD_of' hi,gE hi]
 ·
  rw [List.getElem?_eq_none (by simp; omega),List.getElem?_eq_none (by omega)]
  rfl
theorem allP_out (sg:List Int) (cs:List (List Vis)):(allP sg cs).map (·.1)=cs.flatten.map (outH sg):=by
 unfold allP
 induction cs with
 | nil=>rfl
 | cons w r ih=>
  rw [List.flatMap_cons,List.map_append,ih,List.flatten_cons,List.map_append]
  congr 1
  conv=>rhs; rw [←row_id w]
  unfold prs
  rw [List.map_map,List.map_map]
  rfl
theorem allP_in (sg:List Int) (cs:List (List Vis)):((allP sg cs).map (·.2)).Perm (cs.flatten.map (inH sg)):=by
 unfold allP
 induction cs with
 | nil=>exact .refl _
 | cons w r ih=>
  rw [List.flatMap_cons,List.map_append,List.flatten_cons,List.map_append]
  refine List.Perm.append ?_ ih
  have:(prs sg w w.length).map (·.2)=(w.drop 1++w.take 1).map (inH sg):=by
   rw [←rot_row]
   unfold prs
   rw [List.map_map,List.map_map]
   rfl
  rw [this]
  refine List.Perm.map _ ?_
  have h:=List.perm_append_comm (l₁:=w.drop 1) (l₂:=w.take 1)
  rwa [List.take_append_drop] at h
theorem inH_inj {sg:List Int} {u v:Vis} (hu:0≤u.1) (hv:0≤v.1) (h:inH sg u=inH sg v):u=v:=by
 obtain ⟨c,o⟩:=u
 obtain ⟨d,q⟩:=v
 unfold inH at h
 dsimp only at*
 have h1:c.toNat=d.toNat:=by cases o<;>cases q<;>simp at h<;>(repeat' split at h)<;>omega
 have h2:c=d:=by omega
 subst h2
 cases o<;>cases q<;>simp at h⊢ <;>(repeat' split at h)<;>omega
theorem outH_inj {sg:List Int} {u v:Vis} (hu:0≤u.1) (hv:0≤v.1) (h:outH sg u=outH sg v):u=v:=by
 obtain ⟨c,o⟩:=u
 obtain ⟨d,q⟩:=v
 unfold outH at h
 dsimp only at*
 have h1:c.toNat=d.toNat:=by cases o<;>cases q<;>simp at h<;>(repeat' split at h)<;>omega
 have h2:c=d:=by omega
 subst h2
 cases o<;>cases q<;>simp at h⊢ <;>(repeat' split at h)<;>omega
theorem out_ne_in {sg:List Int} {u v:Vis}:outH sg u≠inH sg v:=by
 obtain ⟨c,o⟩:=u
 obtain ⟨d,q⟩:=v
 intro h
 unfold outH inH at h
 dsimp only at*
 have h1:c.toNat=d.toNat:=by cases o<;>cases q<;>simp at h<;>(repeat' split at h)<;>omega
 rw [h1] at h
 cases o<;>cases q<;>simp at h<;>(repeat' split at h)<;>omega
theorem nodup_map {α β:Type} {l:List α} {f:α→β} (hn:l.Nodup) (h: ∀x∈l,∀y∈l,f x=f y→x=y):(l.map f).Nodup:=by
 unfold List.Nodup
 rw [List.pairwise_map]
 exact List.Pairwise.imp_of_mem (fun ha hb hne e=>hne (h _ ha _ hb e)) hn
theorem GV.pairs {cs:List (List Vis)} {sg:List Int} {lo:Int} (h:GV cs sg lo):((allP sg cs).map (·.1)).Nodup∧((allP sg cs).map (·.2)).Nodup∧(∀x∈(allP sg cs).map (·.1),x∉(allP sg cs).map (·.2))∧
  (∀x∈(allP sg cs).map (·.1),x<4*sg.length)∧(∀x∈(allP sg cs).map (·.2),x<4*sg.length)∧(∀k,k<4*sg.length→k∈(allP sg cs).map (·.1)∨k∈(allP sg cs).map (·.2)):=by
 obtain ⟨_,_,_,_,_,hr,hn,hl⟩:=h
 have n1:((allP sg cs).map (·.1)).Nodup:=by
  rw [allP_out]
  exact nodup_map hn fun x hx y hy e=>outH_inj (hr x hx).1 (hr y hy).1 e
 have n2:((allP sg cs).map (·.2)).Nodup:=by
  refine (allP_in sg cs).nodup_iff.2 (nodup_map hn fun x hx y hy e=>inH_inj (hr x hx).1 (hr y hy).1 e)
 have hd: ∀x∈(allP sg cs).map (·.1),x∉(allP sg cs).map (·.2):=by
  intro x hx hx2
  rw [allP_out] at hx
  rw [(allP_in sg cs).mem_iff] at hx2
  obtain ⟨u,_,rfl⟩:=List.mem_map.1 hx
  obtain ⟨v,_,e⟩:=List.mem_map.1 hx2
  exact out_ne_in e.symm
 have l1: ∀x∈(allP sg cs).map (·.1),x<4*sg.length:=by
  intro x hx
  rw [allP_out] at hx
  obtain ⟨u,hu,rfl⟩:=List.mem_map.1 hx
  exact (ends_lt (hr u hu).1 (hr u hu).2).2
 have l2: ∀x∈(allP sg cs).map (·.2),x<4*sg.length:=by
  intro x hx
  rw [(allP_in sg cs).mem_iff] at hx
  obtain ⟨u,hu,rfl⟩:=List.mem_map.1 hx
  exact (ends_lt (hr u hu).1 (hr u hu).2).1
 refine ⟨n1,n2,hd,l1,l2,fun k hk=>?_⟩
 have hnd:((allP sg cs).map (·.1)++(allP sg cs).map (·.2)).Nodup:=by
  rw [List.nodup_append]
  refine ⟨n1,n2,fun a ha b hb e=>hd a ha (e▸hb)⟩
 have:=nodup_all hnd (N:=4*sg.length) (fun x hx=>by
  rcases List.mem_append.1 hx with hx | hx
  · exact l1 x hx
  · exact l2 x hx) (by
  have e1:((allP sg cs).map (·.1)).length=2*sg.length:=by rw [allP_out,List.length_map,hl]
  have e2:((allP sg cs).map (·.2)).length=2*sg.length:=by rw [(allP_in sg cs).length_eq,List.length_map,hl]
  rw [List.length_append]
  omega) hk
 exact List.mem_append.1 this
def muS (sg:List Int) (cs:List (List Vis)) (h:Nat):Nat:=((mtS sg cs).getD h 0).toNat
theorem muS_pair {cs:List (List Vis)} {sg:List Int} {lo:Int} (h:GV cs sg lo) {a b:Nat} (hp:(a,b)∈allP sg cs):(mtS sg cs)[a]? =some (b:Int)∧(mtS sg cs)[b]? =some (a:Int)∧muS sg cs a=b∧muS sg cs b=a∧a<4*sg.length∧b<4*sg.length∧a≠b:=by
 obtain ⟨n1,n2,hd,l1,l2,_⟩:=h.pairs
 have ha:=l1 a (List.mem_map.2 ⟨_,hp,rfl⟩)
 have hb:=l2 b (List.mem_map.2 ⟨_,hp,rfl⟩)
 obtain ⟨e1,e2⟩:=fold_pair (M:=List.replicate (4*sg.length) 0) n1 n2 hd hp (by rw [List.length_replicate]; exact ha) (by rw [List.length_replicate]; exact hb)
 have e1':(mtS sg cs)[a]? =some (b:Int):=e1
 have e2':(mtS sg cs)[b]? =some (a:Int):=e2
 refine ⟨e1',e2',?_,?_,ha,hb,fun e=>hd a (List.mem_map.2 ⟨_,hp,rfl⟩) (e▸List.mem_map.2 ⟨_,hp,rfl⟩)⟩
 · unfold muS; rw [List.getD,e1']; rfl
 · unfold muS; rw [List.getD,e2']; rfl
theorem GV.mt {cs:List (List Vis)} {sg:List Int} {lo:Int} (h:GV cs sg lo):MT (4*sg.length) (mtS sg cs) (muS sg cs):=by
 refine ⟨by unfold mtS; rw [fold_len,List.length_replicate],fun k hk=>?_⟩
 rcases h.pairs.2.2.2.2.2 k hk with hx | hx
 ·
  obtain ⟨⟨a,b⟩,hp,rfl⟩:=List.mem_map.1 hx
  obtain ⟨q1,q2,q3,q4,q5,q6,q7⟩:=muS_pair h hp
  dsimp only
  rw [q3,q4]
  exact ⟨q1,q6,rfl,fun e=>q7 e.symm⟩
 ·
  obtain ⟨⟨a,b⟩,hp,rfl⟩:=List.mem_map.1 hx
  obtain ⟨q1,q2,q3,q4,q5,q6,q7⟩:=muS_pair h hp
  dsimp only
  rw [q4,q3]
  exact ⟨q2,q5,rfl,q7⟩
def turnN (h k:Nat):Nat:=4*(h/ 4)+(h%4+k)%4
theorem turn3 (h:Nat) (hh:h≤1000000) (n:Nat):F.diagram_Turn n (h:Int) (-1)=some ((turnN h 3:Nat):Int):=by
 have e1:Int.tmod (h:Int) 4=((h%4:Nat):Int):=Int.ofNat_tmod h 4
 have e2:Int.tmod (-1) 4=-1:=by decide
 have e3:Int.tmod (((h%4:Nat):Int)+ -1+4) 4=(((h%4+3)%4:Nat):Int):=by
  rw [show ((h%4:Nat):Int)+ -1+4=((h%4+3:Nat):Int) from by omega]
  exact Int.ofNat_tmod _ 4
 unfold F.diagram_Turn turnN
 rw [dF (by omega),kF,nz_ok (by decide),bB,e1,chk_ok (by omega) (by omega),bB,bB,bB,e2,chk_ok (by omega) (by omega),bB,chk_ok (by omega) (by omega),bB,bB,e3,chk_ok (by omega) (by omega),bB]
 congr 1
 omega
theorem turnN_lt {h k n:Nat} (hh:h<4*n):turnN h k<4*n:=by unfold turnN; omega
theorem turnN_inj {a b k:Nat} (h:turnN a k=turnN b k):a=b:=by unfold turnN at h; omega
def fc (μ:Nat→Nat) (h:Nat):Nat:=turnN (μ h) 3
def adjF (n:Nat) (μ:Nat→Nat) (a b:Nat):Prop:=a<4*n∧b<4*n∧(b=fc μ a∨a=fc μ b)
theorem adjF_symm {n:Nat} {μ:Nat→Nat} (a b:Nat) (h:adjF n μ a b):adjF n μ b a:=⟨h.2.1,h.1,h.2.2.symm⟩
theorem fc_lt {n:Nat} {M:List Int} {μ:Nat→Nat} (hM:MT (4*n) M μ) {a:Nat} (ha:a<4*n):fc μ a<4*n:=turnN_lt (hM.2 a ha).2.1
theorem fc_inj {n:Nat} {M:List Int} {μ:Nat→Nat} (hM:MT (4*n) M μ) {a b:Nat} (ha:a<4*n) (hb:b<4*n) (h:fc μ a=fc μ b):a=b:=by
 have:=turnN_inj h
 rw [←(hM.2 a ha).2.2.1,this,(hM.2 b hb).2.2.1]
def it (f:Nat→Nat):Nat→Nat→Nat
 | 0,s=>s
 | k+1,s=>f (it f k s)
theorem it_lt {n:Nat} {M:List Int} {μ:Nat→Nat} (hM:MT (4*n) M μ) {h:Nat} (hh:h<4*n) (k:Nat):it (fc μ) k h<4*n:=by
 induction k with
 | zero=>exact hh
 | succ k ih=>exact fc_lt hM ih
theorem it_cn {n:Nat} {M:List Int} {μ:Nat→Nat} (hM:MT (4*n) M μ) {h:Nat} (hh:h<4*n) (k:Nat):Cn (adjF n μ) h (it (fc μ) k h):=by
 induction k with
 | zero=>exact .refl _
 | succ k ih=>exact .step ih ⟨it_lt hM hh k,fc_lt hM (it_lt hM hh k),.inl rfl⟩
theorem it_back {n:Nat} {M:List Int} {μ:Nat→Nat} (hM:MT (4*n) M μ) {h:Nat} (hh:h<4*n): ∀(j k:Nat),it (fc μ) j h=it (fc μ) (j+k) h→h=it (fc μ) k h
 | 0,k,e=>by rw [Nat.zero_add] at e; exact e
 | j+1,k,e=>by
  refine it_back hM hh j k (fc_inj hM (it_lt hM hh _) (it_lt hM hh _) ?_)
  rw [show j+1+k=(j+k)+1 from by omega] at e
  exact e
theorem it_all {n:Nat} {M:List Int} {μ:Nat→Nat} (hM:MT (4*n) M μ) {h:Nat} (hh:h<4*n) {j k:Nat} (hj:j<k) (he:it (fc μ) j h=it (fc μ) k h) {g:Nat} (hg:Cn (adjF n μ) h g): ∃i,i<k∧it (fc μ) i h=g:=by
 have hp:h=it (fc μ) (k-j) h:=it_back hM hh j (k-j) (by rw [show j+(k-j)=k from by omega]; exact he)
 refine Cn.closed (S:=fun g=> ∃i,i<k∧it (fc μ) i h=g) (fun a b=>?_) hg ⟨0,by omega,rfl⟩
 rintro ⟨i,hi,rfl⟩ ⟨h1,h2,h3 | h3⟩
 ·
  by_cases hik:i+1<k
  · exact ⟨i+1,hik,h3.symm⟩
  ·
   have:k=i+1:=by omega
   exact ⟨j,hj,by rw [he,this]; exact h3.symm⟩
 ·
  cases i with
  | zero=>
   refine ⟨k-j-1,by omega,fc_inj hM (it_lt hM hh _) h2 ?_⟩
   rw [←h3]
   have e:k-j=(k-j-1)+1:=by omega
   rw [e] at hp
   exact hp.symm
  | succ i=>exact ⟨i,by omega,fc_inj hM (it_lt hM hh _) h2 h3⟩
theorem bset_succ (N:Nat) (R:Nat→Bool):bset (N+1) R=bset N R++[R N]:=by
 unfold bset
 rw [List.range_succ,List.map_append]; rfl
theorem bset_count {N:Nat} {R:Nat→Bool} {k:Nat} (hk:k<N) (h:R k=false):(bset N (fun j=>decide (j=k) || R j)).countP (fun b=>!b)+1=(bset N R).countP (fun b=>!b):=by
 induction N with
 | zero=>omega
 | succ N ih=>
  rw [bset_succ,bset_succ,List.countP_append,List.countP_append]
  by_cases hkN:k=N
  ·
   subst hkN
   rw [bset_congr (S:=R) (fun j hj=>by rw [dF (by omega)]; rfl),h]
   simp
  ·
   have:=ih (by omega)
   rw [dF (fun h=>hkN h.symm),Bool.false_or]
   omega
open Classical in
theorem face_loop {n:Nat} {M:List Int} {μ:Nat→Nat} (hM:MT (4*n) M μ) (hn:n≤100) (S:Nat→Bool) (hS: ∀a b,S a=true→adjF n μ a b→S b=true) {h:Nat} (hh:h<4*n) (hx:S h=false) (m:Nat) (hm:4*n<m) (m':Nat):
  ∃v,loopN m (F.gauss_genus_b1 m' M) ((h:Int),bset (4*n) S)=some (v,bset (4*n) (fun g=>S g || decide (Cn (adjF n μ) h g))):=by
 have hout: ∀k,S (it (fc μ) k h)=false:=by
  intro k
  cases hc:S (it (fc μ) k h) with
  | false=>rfl
  | true=>
   have:=Cn.closed (S:=fun g=>S g=true) (fun a b ha hab=>hS a b ha hab) ((it_cn hM hh k).symm adjF_symm) hc
   rw [hx] at this; cases this
 obtain ⟨r,h1,v,hv⟩:=loop_spec (body:=F.gauss_genus_b1 m' M)
  (fun s=> ∃k,s=(((it (fc μ) k h:Nat):Int),bset (4*n) (fun g=>S g || decide (∃j,j<k∧it (fc μ) j h=g)))∧∀i j,i<j→j<k→it (fc μ) i h≠it (fc μ) j h)
  (fun s=>s.2.countP (fun b=>!b))
  (fun r=> ∃v,r=(v,bset (4*n) (fun g=>S g || decide (Cn (adjF n μ) h g))))
  (fun s hs=>by
   obtain ⟨k,rfl,hd⟩:=hs
   have hlt:=it_lt hM hh k
   have hmt:=hM.2 _ hlt
   unfold F.gauss_genus_b1
   dsimp only
   rw [get_nat,bset_get hlt,bB,hout k,Bool.false_or]
   by_cases hc: ∃j,j<k∧it (fc μ) j h=it (fc μ) k h
   ·
    rw [dT hc]
    right
    refine ⟨_,rfl,((it (fc μ) k h:Nat):Int),?_⟩
    congr 1
    obtain ⟨j,hj,he⟩:=hc
    refine bset_congr fun g hg=>?_
    congr 1
    refine decide_eq_decide.mpr ⟨?_,it_all hM hh hj he⟩
    rintro ⟨i,hi,rfl⟩
    exact it_cn hM hh i
   ·
    rw [dF hc]
    left
    have hl:=hM.1
    refine ⟨(((it (fc μ) (k+1) h:Nat):Int),bset (4*n) (fun g=>S g || decide (∃j,j<k+1∧it (fc μ) j h=g))),?_,⟨k+1,rfl,fun i j hi hj=>?_⟩,?_⟩
    ·
     rw [Bool.not_false,kT,bB,get_nat,hmt.1,bB,turn3 _ (by omega),bB,Int.toNat_natCast,bset_set hlt]
     congr 3
     refine bset_congr fun g hg=>?_
     by_cases e1:g=it (fc μ) k h
     · rw [dT e1,Bool.true_or,dT ⟨k,by omega,e1.symm⟩,Bool.or_true]
     ·
      rw [dF e1,Bool.false_or]
      congr 1
      refine decide_eq_decide.mpr ⟨fun ⟨j,hj,e⟩=>⟨j,by omega,e⟩,fun ⟨j,hj,e⟩=>⟨j,?_,e⟩⟩
      rcases Nat.lt_or_ge j k with h | h
      · exact h
      ·
       obtain rfl:j=k:=by omega
       exact absurd e.symm e1
    ·
     rcases Nat.lt_or_ge j k with h | h
     · exact hd i j hi h
     ·
      obtain rfl:j=k:=by omega
      exact fun e=>hc ⟨i,hi,e⟩
    ·
     dsimp only
     have:=bset_count hlt (R:=fun g=>S g || decide (∃j,j<k∧it (fc μ) j h=g)) (by rw [hout k,dF hc]; rfl)
     have e:bset (4*n) (fun g=>S g || decide (∃j,j<k+1∧it (fc μ) j h=g))=bset (4*n) (fun g=>decide (g=it (fc μ) k h) || (S g || decide (∃j,j<k∧it (fc μ) j h=g))):=by
      refine bset_congr fun g hg=>?_
      by_cases e1:g=it (fc μ) k h
      · rw [dT e1,Bool.true_or,dT ⟨k,by omega,e1.symm⟩,Bool.or_true]
      ·
       rw [dF e1,Bool.false_or]
       congr 1
       refine decide_eq_decide.mpr ⟨fun ⟨j,hj,e⟩=>⟨j,?_,e⟩,fun ⟨j,hj,e⟩=>⟨j,by omega,e⟩⟩
       rcases Nat.lt_or_ge j k with h | h
       · exact h
       ·
        obtain rfl:j=k:=by omega
        exact absurd e.symm e1
     rw [e]
     omega)
  m ((h:Int),bset (4*n) S) ⟨0,by simp [it],fun i j _ hj=>by omega⟩ (by
   dsimp only
   have:=List.countP_le_length (p:=fun b=>!b) (l:=bset (4*n) S)
   rw [bset_len] at this
   omega)
 exact ⟨v,by rw [h1,hv]⟩
open Classical in
noncomputable def before (adj:Nat→Nat→Prop) (k:Nat) (g:Nat):Bool:=decide (∃h,h<k∧Cn adj h g)
open Classical in
theorem before_zero (adj:Nat→Nat→Prop):before adj 0=fun _=>false:=by
 funext g
 unfold before
 exact dF (by rintro ⟨h,hh,_⟩; omega)
open Classical in
theorem before_closed {adj:Nat→Nat→Prop} {k a b:Nat} (h:before adj k a=true) (hab:adj a b):before adj k b=true:=by
 unfold before at*
 obtain ⟨h,hh,hc⟩:=of_decide_eq_true h
 exact dT ⟨h,hh,.step hc hab⟩
theorem before_rep {adj:Nat→Nat→Prop} {k:Nat}:before adj k k=false↔Rep adj k:=by
 unfold before Rep
 rw [decide_eq_false_iff_not]
 exact ⟨fun h g hg hc=>h ⟨g,hg,hc⟩,fun h ⟨g,hg,hc⟩=>h g hg hc⟩
open Classical in
theorem before_same {adj:Nat→Nat→Prop} (hs: ∀a b,adj a b→adj b a) {k:Nat} (h:before adj k k=true):before adj (k+1)=before adj k:=by
 unfold before at*
 obtain ⟨q,hq,hc⟩:=of_decide_eq_true h
 funext g
 refine decide_eq_decide.mpr ⟨fun ⟨j,hj,hjg⟩=>?_,fun ⟨j,hj,hjg⟩=>⟨j,by omega,hjg⟩⟩
 rcases Nat.lt_or_ge j k with h | h
 · exact ⟨j,h,hjg⟩
 ·
  obtain rfl:j=k:=by omega
  exact ⟨q,hq,hc.trans hjg⟩
open Classical in
theorem before_next {adj:Nat→Nat→Prop} {k:Nat}:before adj (k+1)=fun g=>before adj k g || decide (Cn adj k g):=by
 unfold before
 funext g
 rw [←Bool.decide_or]
 refine decide_eq_decide.mpr ⟨fun ⟨j,hj,hjg⟩=>?_,?_⟩
 ·
  rcases Nat.lt_or_ge j k with h | h
  · exact .inl ⟨j,h,hjg⟩
  ·
   obtain rfl:j=k:=by omega
   exact .inr hjg
 ·
  rintro (⟨j,hj,h⟩ | h)
  · exact ⟨j,by omega,h⟩
  · exact ⟨k,by omega,h⟩
theorem faces_loop {n:Nat} {M:List Int} {μ:Nat→Nat} (hM:MT (4*n) M μ) (hn:n≤100) (m:Nat) (hm:4*n<m):
  loopN m (F.gauss_genus_b0 m M) (0,0,List.replicate (M.length:Int).toNat false)=some ((cls (4*n) (adjF n μ):Int),((4*n:Nat):Int),bset (4*n) (before (adjF n μ) (4*n))):=by
 have h0:((0:Int),(0:Int),List.replicate (M.length:Int).toNat false)=(fun k:Nat=>((cls k (adjF n μ):Int),(k:Int),bset (4*n) (before (adjF n μ) k))) 0:=by
  rw [Int.toNat_natCast,bset_rep,hM.1]
  dsimp only
  rw [before_zero]
  rfl
 rw [h0]
 refine count_loop (fun k:Nat=>((cls k (adjF n μ):Int),(k:Int),bset (4*n) (before (adjF n μ) k))) (4*n) (fun k hk=>?_) ?_ m hm
 ·
  have hl:=hM.1
  have hc:=cls_le k (adjF n μ)
  unfold F.gauss_genus_b0
  dsimp only
  rw [dT (by omega),kT,get_nat,bset_get hk,bB]
  cases hb:before (adjF n μ) k k with
  | true=>
   have hr: ¬Rep (adjF n μ) k:=fun h=>by rw [before_rep.2 h] at hb; cases hb
   rw [kT,chk_ok (by omega) (by omega),bB,before_same adjF_symm hb,cls_succ_not hr]
   rfl
  | false=>
   have hr:Rep (adjF n μ) k:=before_rep.1 hb
   obtain ⟨v,hv⟩:=face_loop hM hn (before (adjF n μ) k) (fun a b=>before_closed) hk hb m hm m
   rw [kF,chk_ok (by omega) (by omega),bB,hv,bB]
   dsimp only
   rw [chk_ok (by omega) (by omega),bB,cls_succ_rep hr,before_next]
   rfl
 ·
  have hl:=hM.1
  unfold F.gauss_genus_b0
  dsimp only
  rw [dF (by omega),kF]
def adjP (n:Nat) (μ:Nat→Nat) (c d:Nat):Prop:=c<n∧d<n∧∃s,s<4∧μ (4*c+s)/ 4=d
theorem adjP_symm {n:Nat} {M:List Int} {μ:Nat→Nat} (hM:MT (4*n) M μ) (a b:Nat) (h:adjP n μ a b):adjP n μ b a:=by
 obtain ⟨h1,h2,s,hs,h3⟩:=h
 have:=hM.2 (4*a+s) (by omega)
 refine ⟨h2,h1,μ (4*a+s)%4,by omega,?_⟩
 rw [←h3,show 4*(μ (4*a+s)/ 4)+μ (4*a+s)%4=μ (4*a+s) from by omega,this.2.2.1]
 omega
def castL (l:List Nat):List Int:=l.map fun (k:Nat)=>(k:Int)
def nbr (μ:Nat→Nat) (c:Nat) (a:List Nat×(Nat→Bool)) (s:Nat):List Nat×(Nat→Bool):=
 if a.2 (μ (4*c+s)/ 4)=true then a else (a.1++[μ (4*c+s)/ 4],fun j=>decide (j=μ (4*c+s)/ 4) || a.2 j)
def nbrs (μ:Nat→Nat) (c:Nat) (a:List Nat×(Nat→Bool)) (m:Nat):List Nat×(Nat→Bool):=(List.range m).foldl (nbr μ c) a
theorem nbrs_succ (μ:Nat→Nat) (c:Nat) (a:List Nat×(Nat→Bool)) (m:Nat):nbrs μ c a (m+1)=nbr μ c (nbrs μ c a m) m:=by
 unfold nbrs
 rw [List.range_succ,List.foldl_append]
 rfl
theorem nbrs_spec {n:Nat} {M:List Int} {μ:Nat→Nat} (hM:MT (4*n) M μ) {c:Nat} (hc:c<n) (l:List Nat) (R:Nat→Bool): ∀m,m≤4→∃new,
  (nbrs μ c (l,R) m).1=l++new∧(∀x∈new,R x=false∧x<n∧adjP n μ c x)∧(∀j,(nbrs μ c (l,R) m).2 j=true↔R j=true∨j∈new)∧(∀s,s<m→(nbrs μ c (l,R) m).2 (μ (4*c+s)/ 4)=true)∧
  (bset n (nbrs μ c (l,R) m).2).countP (fun b=>!b)+new.length=(bset n R).countP (fun b=>!b)∧new.length≤m:=by
 intro m
 induction m with
 | zero=>intro _; exact ⟨[],by simp [nbrs],by simp,by simp [nbrs],by omega,by simp [nbrs],by simp⟩
 | succ m ih=>
  intro hm
  obtain ⟨new,h1,h2,h3,h4,h5,h6⟩:=ih (by omega)
  rw [nbrs_succ]
  generalize nbrs μ c (l,R) m=a at*
  have hmt:=hM.2 (4*c+m) (by omega)
  have hx:μ (4*c+m)/ 4<n:=by omega
  unfold nbr
  by_cases hr:a.2 (μ (4*c+m)/ 4)=true
  ·
   rw [if_pos hr]
   refine ⟨new,h1,h2,h3,fun s hs=>?_,h5,by omega⟩
   rcases Nat.lt_or_ge s m with h | h
   · exact h4 s h
   ·
    obtain rfl:s=m:=by omega
    exact hr
  ·
   rw [if_neg hr]
   have hrf:a.2 (μ (4*c+m)/ 4)=false:=by simpa using hr
   have hRf:R (μ (4*c+m)/ 4)=false:=by
    cases hR:R (μ (4*c+m)/ 4) with
    | false=>rfl
    | true=>exact absurd ((h3 _).2 (.inl hR)) hr
   refine ⟨new++[μ (4*c+m)/ 4],by dsimp only; rw [h1,List.append_assoc],fun x hx'=>?_,fun j=>?_,fun s hs=>?_,?_,by simp; omega⟩
   ·
    rcases List.mem_append.1 hx' with hx' | hx'
    · exact h2 x hx'
    ·
     rw [List.mem_singleton] at hx'
     subst hx'
     exact ⟨hRf,hx,hc,hx,m,by omega,rfl⟩
   ·
    dsimp only
    rw [Bool.or_eq_true,decide_eq_true_iff,h3 j,List.mem_append,List.mem_singleton]
    constructor
    ·
     rintro (h | h | h)
     · exact .inr (.inr h)
     · exact .inl h
     · exact .inr (.inl h)
    ·
     rintro (h | h | h)
     · exact .inr (.inl h)
     · exact .inr (.inr h)
     · exact .inl h
   ·
    dsimp only
    rcases Nat.lt_or_ge s m with h | h
    · rw [h4 s h,Bool.or_true]
    ·
     obtain rfl:s=m:=by omega
     rw [dT rfl,Bool.true_or]
   ·
    dsimp only
    have:=bset_count hx hrf
    rw [List.length_append,List.length_singleton]
    omega
theorem castL_len (l:List Nat):(castL l).length=l.length:=by simp [castL]
theorem nbr_loop {n:Nat} {M:List Int} {μ:Nat→Nat} (hM:MT (4*n) M μ) (hn:n≤100) {c:Nat} (hc:c<n) (l:List Nat) (hl:l.length≤100000) (R:Nat→Bool) (m:Nat) (hm:4<m) (m':Nat):
  loopN m (F.gauss_genus_b4 m' M (c:Int)) (castL l,0,bset n R)=some (castL (nbrs μ c (l,R) 4).1,((4:Nat):Int),bset n (nbrs μ c (l,R) 4).2):=by
 refine count_loop (fun k:Nat=>(castL (nbrs μ c (l,R) k).1,(k:Int),bset n (nbrs μ c (l,R) k).2)) 4 (fun k hk=>?_) ?_ m hm
 ·
  obtain ⟨new,h1,_,_,_,_,h6⟩:=nbrs_spec hM hc l R k (by omega)
  have hlen:(nbrs μ c (l,R) k).1.length≤100004:=by rw [h1,List.length_append]; omega
  clear h1 h6
  rw [nbrs_succ]
  generalize nbrs μ c (l,R) k=a at*
  have hmt:=hM.2 (4*c+k) (by omega)
  have hx:μ (4*c+k)/ 4<n:=by omega
  have ht:Int.tdiv ((μ (4*c+k):Nat):Int) 4=((μ (4*c+k)/ 4:Nat):Int):=Int.ofNat_tdiv _ 4
  unfold F.gauss_genus_b4
  dsimp only
  rw [dT (by omega),kT,chk_ok (by omega) (by omega),bB,chk_ok (by omega) (by omega),bB,show 4*(c:Int)+(k:Int)=((4*c+k:Nat):Int) from by omega,get_nat,hmt.1,bB,nz_ok (by decide),bB,ht,chk_ok (by omega) (by omega),bB,get_nat,bset_get hx,bB]
  unfold nbr
  cases hr:a.2 (μ (4*c+k)/ 4) with
  | true=>
   rw [Bool.not_true,kF,chk_ok (by omega) (by omega),bB,if_pos rfl]
   rfl
  | false=>
   rw [Bool.not_false,kT,bB,lim_ok (by rw [castL_len]; simp; omega),bB,chk_ok (by omega) (by omega),bB,Int.toNat_natCast,bset_set hx,if_neg (by simp)]
   dsimp only
   unfold castL
   rw [List.map_append]
   rfl
 ·
  unfold F.gauss_genus_b4
  dsimp only
  rw [dF (by omega),kF]
open Classical in
theorem part_loop {n:Nat} {M:List Int} {μ:Nat→Nat} (hM:MT (4*n) M μ) (hn:n≤100) (S:Nat→Bool) (hS: ∀a b,S a=true→adjP n μ a b→S b=true) {c:Nat} (hc:c<n) (hx:S c=false) (m:Nat) (hm:300<m):
  loopN m (F.gauss_genus_b3 m M) ([(c:Int)],(bset n S).set c true)=some ([],bset n (fun g=>S g || decide (Cn (adjP n μ) c g))):=by
 obtain ⟨r,h1,h2⟩:=loop_spec (body:=F.gauss_genus_b3 m M)
  (fun s=> ∃(l:List Nat) (R:Nat→Bool),s=(castL l,bset n R)∧l.length+(bset n R).countP (fun b=>!b)≤1000∧(∀g,S g=true→R g=true)∧R c=true∧(∀g,R g=true→S g=true∨Cn (adjP n μ) c g)∧(∀x∈l,x<n∧R x=true∧Cn (adjP n μ) c x)∧(∀g,g<n→R g=true→S g=false→g∉l→∀d,adjP n μ g d→R d=true))
  (fun s=>s.1.length+2*s.2.countP (fun b=>!b))
  (fun r=>r=([],bset n (fun g=>S g || decide (Cn (adjP n μ) c g))))
  (fun s hs=>by
   obtain ⟨l,R,rfl,hl,i1,i2,i3,i4,i5⟩:=hs
   rcases List.eq_nil_or_concat l with rfl | ⟨q,x,rfl⟩
   ·
    right
    unfold F.gauss_genus_b3
    dsimp only
    rw [show castL []=[] from rfl,dF (by simp),kF]
    refine ⟨_,rfl,?_⟩
    congr 1
    refine bset_congr fun g hg=>?_
    rw [←Bool.decide_coe (R g),←Bool.decide_coe (S g || decide (Cn (adjP n μ) c g))]
    refine decide_eq_decide.mpr ⟨fun h=>?_,fun h=>?_⟩
    ·
     rcases i3 g h with h | h
     · rw [h,Bool.true_or]
     · rw [dT h,Bool.or_true]
    ·
     rw [Bool.or_eq_true,decide_eq_true_iff] at h
     rcases h with h | h
     · exact i1 g h
     ·
      refine (Cn.closed (S:=fun g=>g<n∧R g=true∧S g=false) (fun a b ha hab=>?_) h ⟨hc,i2,hx⟩).2.1
      refine ⟨hab.2.1,i5 a ha.1 ha.2.1 ha.2.2 (by simp) b hab,?_⟩
      cases hb:S b with
      | false=>rfl
      | true=>
       have:=hS b a hb (adjP_symm hM a b hab)
       rw [ha.2.2] at this; cases this
   ·
    left
    rw [List.concat_eq_append] at*
    have hxm:=i4 x (by simp)
    have hlq:q.length≤999:=by rw [List.length_append,List.length_singleton] at hl; omega
    obtain ⟨new,n1,n2,n3,n4,n5,n6⟩:=nbrs_spec hM hxm.1 q R 4 (by omega)
    refine ⟨(castL (nbrs μ x (q,R) 4).1,bset n (nbrs μ x (q,R) 4).2),?_,⟨(nbrs μ x (q,R) 4).1,(nbrs μ x (q,R) 4).2,rfl,?_,?_,?_,?_,?_,?_⟩,?_⟩
    ·
     have e1:((castL (q++[x])).length:Int)=(q.length:Int)+1:=by rw [castL_len]; simp
     have e2:Ev.get (castL (q++[x])) (q.length:Int)=some (x:Int):=by
      rw [get_nat]; unfold castL; rw [List.map_append,List.getElem?_append_right (by simp)]; simp
     have e3:(castL (q++[x])).take q.length=castL q:=by
      unfold castL
      rw [List.map_append,List.take_append_of_le_length (by simp),List.take_of_length_le (by simp)]
     unfold F.gauss_genus_b3
     dsimp only
     rw [e1,dT (by omega),kT,chk_ok (by omega) (by omega),bB,show (q.length:Int)+1-1=(q.length:Int) from by omega,e2,bB,bB,cut_ok (by omega) (by omega) (by rw [e1]; omega),bB,Int.toNat_natCast,e3,nbr_loop hM hn hxm.1 q (by omega) R m (by omega),bB]
    ·
     rw [n1,List.length_append]
     rw [List.length_append,List.length_singleton] at hl
     omega
    · exact fun g hg=>(n3 g).2 (.inl (i1 g hg))
    · exact (n3 c).2 (.inl i2)
    ·
     intro g hg
     rcases (n3 g).1 hg with h | h
     · exact i3 g h
     · exact .inr (.step hxm.2.2 (n2 g h).2.2)
    ·
     intro y hy
     rw [n1] at hy
     rcases List.mem_append.1 hy with hy | hy
     ·
      have:=i4 y (List.mem_append_left _ hy)
      exact ⟨this.1,(n3 y).2 (.inl this.2.1),this.2.2⟩
     · exact ⟨(n2 y hy).2.1,(n3 y).2 (.inr hy),.step hxm.2.2 (n2 y hy).2.2⟩
    ·
     intro g hg hR hSg hgl d hd
     rw [n1,List.mem_append,not_or] at hgl
     rcases (n3 g).1 hR with h | h
     ·
      by_cases hgx:g=x
      ·
       subst hgx
       obtain ⟨_,_,s,hs,rfl⟩:=hd
       exact n4 s hs
      ·
       refine (n3 d).2 (.inl (i5 g hg h hSg ?_ d hd))
       rw [List.mem_append,List.mem_singleton,not_or]
       exact ⟨hgl.1,hgx⟩
     · exact absurd h hgl.2
    ·
     dsimp only
     rw [castL_len,castL_len,n1,List.length_append,List.length_append,List.length_singleton]
     omega)
  m ([(c:Int)],(bset n S).set c true) ⟨[c],fun g=>decide (g=c) || S g,by rw [bset_set hc]; rfl,by have:=(bset n (fun g=>decide (g=c) || S g)).countP_le_length (p:=fun b=>!b); rw [bset_len] at this; simp only [List.length_singleton]; omega,fun g hg=>by show (decide (g=c) || S g)=true; rw [hg,Bool.or_true],by simp,fun g hg=>by
    rw [Bool.or_eq_true,decide_eq_true_iff] at hg
    rcases hg with rfl | hg
    · exact .inr (.refl _)
    · exact .inl hg,fun x hx=>by
    rw [List.mem_singleton] at hx
    subst hx
    exact ⟨hc,by simp,.refl _⟩,fun g hg hR hSg hgl=>by
    rw [Bool.or_eq_true,decide_eq_true_iff] at hR
    rcases hR with rfl | hR
    · exact absurd (List.mem_singleton_self _) hgl
    · rw [hSg] at hR; cases hR⟩ (by
   dsimp only
   have:=((bset n S).set c true).countP_le_length (p:=fun b=>!b)
   rw [List.length_set,bset_len] at this
   simp only [List.length_singleton]
   omega)
 rw [h1,h2]
theorem parts_loop {n:Nat} {M:List Int} {μ:Nat→Nat} (hM:MT (4*n) M μ) (hn:n≤100) (m:Nat) (hm:300<m):
  loopN m (F.gauss_genus_b2 m M (n:Int)) (0,0,List.replicate (n:Int).toNat false)=some ((cls n (adjP n μ):Int),(n:Int),bset n (before (adjP n μ) n)):=by
 have h0:((0:Int),(0:Int),List.replicate (n:Int).toNat false)=(fun k:Nat=>((cls k (adjP n μ):Int),(k:Int),bset n (before (adjP n μ) k))) 0:=by
  rw [Int.toNat_natCast,bset_rep]
  dsimp only
  rw [before_zero]
  rfl
 rw [h0]
 refine count_loop (fun k:Nat=>((cls k (adjP n μ):Int),(k:Int),bset n (before (adjP n μ) k))) n (fun k hk=>?_) ?_ m (by omega)
 ·
  have hc:=cls_le k (adjP n μ)
  unfold F.gauss_genus_b2
  dsimp only
  rw [dT (by omega),kT,get_nat,bset_get hk,bB]
  cases hb:before (adjP n μ) k k with
  | true=>
   have hr: ¬Rep (adjP n μ) k:=fun h=>by rw [before_rep.2 h] at hb; cases hb
   rw [kT,chk_ok (by omega) (by omega),bB,before_same (adjP_symm hM) hb,cls_succ_not hr]
   rfl
  | false=>
   have hr:Rep (adjP n μ) k:=before_rep.1 hb
   rw [kF,chk_ok (by omega) (by omega),bB,bB,Int.toNat_natCast,part_loop hM hn (before (adjP n μ) k) (fun a b=>before_closed) hk hb m hm,bB]
   dsimp only
   rw [chk_ok (by omega) (by omega),bB,cls_succ_rep hr,before_next]
   rfl
 ·
  unfold F.gauss_genus_b2
  dsimp only
  rw [dF (by omega),kF]
noncomputable def gen2 (n:Nat) (μ:Nat→Nat):Int:=2*(cls n (adjP n μ):Int)+(n:Int)-(cls (4*n) (adjF n μ):Int)
theorem genus_eq {n:Nat} {M:List Int} {μ:Nat→Nat} (hM:MT (4*n) M μ) (hn:n≤100) (m:Nat) (hm:500<m):F.gauss_genus m M=some (Int.tdiv (gen2 n μ) 2):=by
 have hl:=hM.1
 have c1:=cls_le n (adjP n μ)
 have c2:=cls_le (4*n) (adjF n μ)
 have ht:Int.tdiv (M.length:Int) 4=(n:Int):=by
  rw [hl,show (4:Int)=((4:Nat):Int) from rfl,←Int.ofNat_tdiv]
  congr 1; omega
 unfold F.gauss_genus
 rw [nz_ok (by decide),bB,ht,chk_ok (by omega) (by omega),bB,pos_ok (by omega) (by omega),bB,faces_loop hM hn m (by omega),bB]
 dsimp only
 rw [pos_ok (by omega) (by omega),bB,parts_loop hM hn m (by omega),bB]
 dsimp only
 have hb: -1000≤Int.tdiv (gen2 n μ) 2∧Int.tdiv (gen2 n μ) 2≤1000:=by
  unfold gen2
  generalize hz:2*(cls n (adjP n μ):Int)+(n:Int)-(cls (4*n) (adjF n μ):Int)=z
  rcases Int.le_total 0 z with h | h
  · rw [Int.tdiv_eq_ediv_of_nonneg h]; omega
  ·
   have e:Int.tdiv z 2=- Int.tdiv (-z) 2:=by rw [Int.neg_tdiv]; omega
   rw [e,Int.tdiv_eq_ediv_of_nonneg (by omega)]; omega
 rw [chk_ok (by omega) (by omega),bB,chk_ok (by omega) (by omega),bB,chk_ok (by omega) (by omega),bB,nz_ok (by decide),bB]
 rw [show Int.tdiv (2*(cls n (adjP n μ):Int)+(n:Int)-(cls (4*n) (adjF n μ):Int)) 2=Int.tdiv (gen2 n μ) 2 from rfl,chk_ok (by omega) (by omega),bB]
end Pg
end Go.Proofs.Yteajmbanlohncaa
