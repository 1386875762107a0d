import Derived.Test.YtpnppjlnfhlmpaaGreatPWtry2
set_option linter.all false
namespace Go.Proofs.YtpnppjlnfhlmpaaGreat
open Ev
namespace Wm
open Gar Pg
theorem Ok.of_perm {m m':Mp} (h:Ok m) (p:m.Perm m'):Ok m'∧(∀k,vl m' k=vl m k)∧∀k,k∈m'.map (·.1)↔k∈m.map (·.1):=
 ⟨⟨(p.map _).nodup_iff.1 h.nd,fun e he=>h.rg e (p.mem_iff.2 he)⟩,fun k=>by unfold vl; rw [gget_perm p h.nd],fun k=>((p.map (·.1)).mem_iff).symm⟩
def cK (B:List Nat) (k:List UInt8):Nat→Int:=fun a=>if a∈B then (k.map ub).getD (B.idxOf a) (-1) else -1
theorem ub_of {x:Nat} (h:x<256):ub (UInt8.ofNat x)=(x:Int):=by
 unfold ub
 rw [UInt8.toNat_ofNat']
 have:x%2 ^ 8=x:=Nat.mod_eq_of_lt h
 rw [this]
theorem key_ub {B:List Nat} {g:Nat→Nat} (h: ∀b∈B,g b<256):(key B g).map ub=iz (B.map g):=by
 unfold key iz
 rw [Yu,Yu]
 exact Xd fun a ha=>ub_of (h a ha)
theorem cK_key {B:List Nat} (hn:B.Nodup) {g:Nat→Nat} (h: ∀b∈B,g b<256):cK B (key B g)=fun a=>if a∈B then (g a:Int) else -1:=by
 funext a
 unfold cK
 by_cases e:a∈B
 ·
  rw [if_pos e,if_pos e,key_ub h,Qc]
  have hl:=Xw.2 e
  unfold iz
  rw [Yu,Qm,gE hl,Zk hl]
  rfl
 · rw [if_neg e,if_neg e]
section
variable {q : Nat} {tb : Nat → Nat → Nat} {T Z : List (List Int)} (Q : Qt q tb T Z)
theorem before_run {K:Nat} {B:List Nat} (hB:B.Nodup) (hBK: ∀a∈B,a<K) (hl:B.length≤1000) {g:Nat→Nat} (hg: ∀b∈B,g b<256) (v:Int) (m:Nat) (hm:1000<m):
  loopN m (F.qcd m (iz B) (key B g,v)) (0,iL K fun _=>-1)=some ((B.length:Int),iL K (cK B (key B g))):=by
 have h0:((0:Int),iL K fun _=>(-1:Int))=(fun i:Nat=>((i:Int),iL K fun a=>if a∈B.take i then (g a:Int) else -1)) 0:=by
  dsimp only
  congr 1
 rw [h0,qba (body:=F.qcd m (iz B) (key B g,v)) (fun i:Nat=>((i:Int),iL K fun a=>if a∈B.take i then (g a:Int) else -1)) B.length (fun i hi=>by
  have hBi:=hBK _ (Qj hi)
  have e1:(iz (B.map g))[i]? =some (g B[i]:Int):=by
   have:=iz_at (l:=B.map g) (k:=i) (by rw [Qu]; exact hi)
   rw [this,List.getElem_map]
  unfold F.qcd
  dsimp only
  rw [qeo,dT (by omega),kT,qas,iz_at hi,bB,key_ub hg,qas,e1,bB,qas,qcc hBi,bB,qal (by omega) (by omega),bB,Qb,iL_set]
  rw [show ((i:Int)+1)=((i+1:Nat):Int) by omega]
  congr 3
  refine qcv fun a _=>?_
  rw [Xc,gE hi]
  by_cases e:a=B[i]
  · rw [if_pos e,if_pos (Xq _ (by rw [e]; simp)),e]
  ·
   rw [if_neg e]
   by_cases e2:a∈B.take i
   · rw [if_pos e2,if_pos (Xu _ e2)]
   · rw [if_neg e2,if_neg fun z=>(Qs.1 z).elim e2 fun z=>e (by simpa using z)]) (r:=((B.length:Int),iL K fun a=>if a∈B.take B.length then (g a:Int) else -1)) (by
  unfold F.qcd
  dsimp only
  rw [qeo,dF (by omega),kF]) m (by omega),cK_key hB hg,Xl]
theorem after_run {K:Nat} {B:List Nat} (hBK: ∀a∈B,a<K) (hl:B.length≤1000) {c:Nat→Int} (hc: ∀a,a∉B→c a=-1) (m:Nat) (hm:1000<m):
  loopN m (F.qbr m (iz B)) (0,iL K c)=some ((B.length:Int),iL K fun _=>-1):=by
 have h0:((0:Int),iL K c)=(fun i:Nat=>((i:Int),iL K fun a=>if a∈B.take i then (-1:Int) else c a)) 0:=by
  dsimp only
  congr 1
 rw [h0,qba (body:=F.qbr m (iz B)) (fun i:Nat=>((i:Int),iL K fun a=>if a∈B.take i then (-1:Int) else c a)) B.length (fun i hi=>by
  have hBi:=hBK _ (Qj hi)
  unfold F.qbr
  dsimp only
  rw [qeo,dT (by omega),kT,qas,iz_at hi,bB,qas,qcc hBi,bB,qal (by omega) (by omega),bB,Qb,iL_set]
  rw [show ((i:Int)+1)=((i+1:Nat):Int) by omega]
  congr 3
  refine qcv fun a _=>?_
  rw [Xc,gE hi]
  by_cases e:a=B[i]
  · rw [if_pos e,if_pos (Xq _ (by rw [e]; simp))]
  ·
   rw [if_neg e]
   by_cases e2:a∈B.take i
   · rw [if_pos e2,if_pos (Xu _ e2)]
   · rw [if_neg e2,if_neg fun z=>(Qs.1 z).elim e2 fun z=>e (by simpa using z)]) (r:=((B.length:Int),iL K fun a=>if a∈B.take B.length then (-1:Int) else c a)) (by
  unfold F.qbr
  dsimp only
  rw [qeo,dF (by omega),kF]) m (by omega),Xl]
 congr 2
 refine qcv fun a _=>?_
 by_cases e:a∈B
 · rw [if_pos e]
 · rw [if_neg e,hc a e]
include Q
theorem fold_run {fr ov to K:Nat} (h1:fr<K) (h2:ov<K) (h3:to<K) (rels:List (Int×(Int×Int))) {B after:List Nat} (hB:B.Nodup) (hBK: ∀a∈B,a<K) (hl:B.length≤1000) (hla:after.length≤1000) (haK: ∀a∈after,a<K∧(a∈B∨a∈[ov,fr,to])) (m:Nat) (hm:5000≤m):
  ∀(es:Mp),(∀e∈es,(0≤e.2∧e.2≤(M1:Int))∧∃g:Nat→Nat,(∀b∈B,g b<q)∧e.1=key B g)→∀(res:Mp) (text:List Int) (n0:Int),Ok res→text.length=after.length→
  ∃res' text' n',foldG (F.qco m rels (K:Int) T Z (fr:Int) (ov:Int) (to:Int) (iz B) (iz after)) (res,iL K (fun _=>-1),text,n0) es=some (.inl (res',iL K (fun _=>-1),text',n'))∧Ok res'∧
   (∀k,vl res' k=sat (vl res k+sm es fun e=>e.2.toNat*Nn q tb fr ov to after (cK B e.1) k))∧(∀k,k∈res'.map (·.1)↔k∈res.map (·.1)∨∃e∈es,0<Nn q tb fr ov to after (cK B e.1) k)
 | [],_,res,text,n0,hr,ht=>⟨res,text,n0,rfl,hr,fun k=>by
   rw [sm_nil,Yw]
   have:=(hr.get k).2
   unfold sat; omega,fun k=>⟨.inl,fun z=>z.elim id fun ⟨e,he,_⟩=>by cases he⟩⟩
 | e::es,he,res,text,n0,hr,ht=>by
  have hq2:=Q.q2
  obtain ⟨⟨e0,e1⟩,g,hg,ek⟩:=he e Ql
  have hg2: ∀b∈B,g b<256:=fun b hb=>by have:=hg b hb; omega
  have hck:cK B e.1=fun a=>if a∈B then (g a:Int) else -1:=by rw [ek,cK_key hB hg2]
  obtain ⟨en,hen⟩:=Xy e0
  have hcok:Cok q (cK B e.1):=fun a=>by
   rw [hck]
   dsimp only
   split
   · rename_i h; exact .inr ⟨g a,hg a h,rfl⟩
   · exact .inl rfl
  obtain ⟨text',res',t1,t2,t3,t4,t5⟩:=try_run Q h1 h2 h3 rels (K:Int) hla (fun a ha=>(haK a ha).1) (num:=en) (by omega) _ (cK B e.1) text res m rfl (by
   have:(un (cK B e.1) [ov,fr,to]).length≤3:=by
    have h9: ∀l,(un (cK B e.1) l).length≤l.length:=fun l=>by
     induction l with
     | nil=>exact Xb _
     | cons a l ih=>
      unfold un
      split
      ·
       rw [Xe,Xe]
       have:=Xr (fun b=>decide (b≠a)) (un (cK B e.1) l)
       omega
      · rw [Xe]; omega
    exact h9 _
   omega) hcok ht hr (fun a ha=>(haK a ha).2.imp (fun hb=>by rw [hck]; dsimp only; rw [if_pos hb]; omega) id)
  have hstep:F.qco m rels (K:Int) T Z (fr:Int) (ov:Int) (to:Int) (iz B) (iz after) e (res,iL K (fun _=>-1),text,n0)=some (.inl (res',iL K (fun _=>-1),text',e.2)):=by
   have hb:=before_run hB hBK hl hg2 e.2 (K:=K) m (by omega)
   rw [←ek] at hb
   have ee:(e.1,e.2)=e:=rfl
   rw [ee] at hb
   unfold F.qco
   dsimp only
   rw [hb,bB]
   dsimp only
   have t1':F.qau m (fr:Int) (ov:Int) (to:Int) (iL K (cK B e.1)) rels (K:Int) T Z (iz after) text res e.2=some (iL K (cK B e.1),text',res'):=by rw [hen]; exact t1
   rw [t1',bB]
   dsimp only
   rw [after_run hBK hl (fun a ha=>by rw [hck]; dsimp only; rw [if_neg ha]) m (by omega),bB]
  obtain ⟨res2,text2,n2,f1,f2,f3,f4⟩:=fold_run h1 h2 h3 rels hB hBK hl hla haK m hm es (fun e' he'=>he e' (Qf _ he')) res' text' e.2 t3 t2
  refine ⟨res2,text2,n2,?_,f2,fun k=>?_,fun k=>?_⟩
  ·
   unfold foldG
   rw [hstep,bB]
   exact f1
  ·
   rw [f3,t4,qeh,sat_addl,Z0,hen]
   rfl
  ·
   rw [f4,t5]
   constructor
   ·
    rintro ((z | z) | ⟨e',he',z⟩)
    · exact .inl z
    · exact .inr ⟨e,Ql,z⟩
    · exact .inr ⟨e',Qf _ he',z⟩
   ·
    rintro (z | ⟨e',he',z⟩)
    · exact .inl (.inl z)
    ·
     rcases Qp.1 he' with w | w
     · subst w; exact .inl (.inr z)
     · exact .inr ⟨e',w,z⟩
theorem extend_run {fr ov to K:Nat} (hK:K≤1000) (h1:fr<K) (h2:ov<K) (h3:to<K) (rels:List (Int×(Int×Int))) {B after:List Nat} (hB:B.Nodup) (hBK: ∀a∈B,a<K) (hl:B.length≤1000) (hla:after.length≤1000) (haK: ∀a∈after,a<K∧(a∈B∨a∈[ov,fr,to])) {numbers:Mp} (hn:Ok numbers)
  (hk: ∀k∈numbers.map (·.1),∃g:Nat→Nat,(∀b∈B,g b<q)∧k=key B g) (m:Nat) (hm:5000≤m):
  ∃res,F.qed m rels (K:Int) T Z (fr:Int) (ov:Int) (to:Int) (iz B) (iz after) numbers=some res∧Ok res∧
   (∀k,vl res k=sat (sm numbers fun e=>e.2.toNat*Nn q tb fr ov to after (cK B e.1) k))∧(∀k,k∈res.map (·.1)↔∃e∈numbers,0<Nn q tb fr ov to after (cK B e.1) k):=by
 have hb0:=qba (body:=F.qcp m (K:Int)) (fun i:Nat=>((i:Int),iL K fun a=>if a<i then (-1:Int) else 0)) K (fun i hi=>by
  unfold F.qcp
  dsimp only
  rw [Qv,Qb,dT (by omega),kT,qas,qcc hi,bB,qal (by omega) (by omega),bB,Qb,iL_set]
  rw [show ((i:Int)+1)=((i+1:Nat):Int) by omega]
  congr 3
  refine qcv fun a _=>?_
  by_cases e:a=i
  · rw [if_pos e,if_pos (by omega)]
  ·
   rw [if_neg e]
   by_cases e2:a<i
   · rw [if_pos e2,if_pos (by omega)]
   · rw [if_neg e2,if_neg (by omega)]) (r:=((K:Int),iL K fun a=>if a<K then (-1:Int) else 0)) (by
  unfold F.qcp
  dsimp only
  rw [Qv,Qb,dF (by omega),kF]) m (by omega)
 have e0:((0:Int),List.replicate (K:Int).toNat (0:Int))=(fun i:Nat=>((i:Int),iL K fun a=>if a<i then (-1:Int) else 0)) 0:=by
  rw [Qb,iL_rep]
  dsimp only
  congr 1
 have e1:(iL K fun a=>if a<K then (-1:Int) else 0)=iL K fun _=>-1:=qcv fun a ha=>if_pos ha
 rw [e1] at hb0
 have hall:=fun (es:Mp) (p:es.Perm numbers)=>fold_run Q h1 h2 h3 rels hB hBK hl hla haK m hm es (fun e he=>⟨hn.rg e (p.mem_iff.1 he),hk e.1 (Qo.2 ⟨e,p.mem_iff.1 he,rfl⟩)⟩) [] (List.replicate after.length 0) 0 Ok.nil (Qv ..)
 obtain ⟨res,text,n',r1,r2,r3,r4⟩:=hall numbers (.refl _)
 obtain ⟨c1,c2,c3⟩:=r2.of_perm (mcan_perm res)
 have z0: ∀k,vl [] k=0:=fun k=>rfl
 refine ⟨mcan res,?_,c1,fun k=>by rw [c2,r3,z0,Y3],fun k=>by rw [c3,r4]; simp⟩
 unfold F.qed
 rw [qdw (by omega) (by omega),bB,e0,hb0,bB]
 dsimp only
 rw [qeo,qdw (by omega) (by omega),bB,Qb]
 unfold foldM
 rw [if_pos ?_,r1]
 · rfl
 ·
  intro es p
  obtain ⟨res',text',n2,s1,s2,s3,s4⟩:=hall es p
  rw [r1,s1]
  show some (mcan res')=some (mcan res)
  rw [mcan_eq (s2.perm r2 (fun k=>by rw [s3,r3,sm_perm p]) fun k=>by
   rw [s4,r4]
   exact or_congr Iff.rfl ⟨fun ⟨e,he,z⟩=>⟨e,p.mem_iff.1 he,z⟩,fun ⟨e,he,z⟩=>⟨e,p.mem_iff.2 he,z⟩⟩)]
end
end Wm
end Go.Proofs.YtpnppjlnfhlmpaaGreat

set_option linter.all false
namespace Go.Proofs.YtpnppjlnfhlmpaaGreat
open Ev
namespace Wm
open Gar Pg
abbrev Tri:=Nat×Nat×Nat
def has (o:Tri) (a:Nat):Prop:=o.1=a∨o.2.1=a∨o.2.2=a
instance (o:Tri) (a:Nat):Decidable (has o a):=by unfold has; infer_instance
def ri (o:Tri):Int×(Int×Int):=((o.1:Int),((o.2.1:Int),(o.2.2:Int)))
def rz (R:List Tri):List (Int×(Int×Int)):=R.map ri
theorem rz_len (R:List Tri):(rz R).length=R.length:=Qu ..
theorem rz_at {R:List Tri} {k:Nat} (h:k<R.length):(rz R)[k]? =some (ri R[k]):=by
 unfold rz
 rw [Qm,gE h]; rfl
/-! Sorted rows without repeats. -/
theorem compact_spec {s:List Int} (hs:s.Pairwise (· ≤ ·)):(Lib.compact s).Nodup∧∀x,x∈Lib.compact s↔x∈s:=by
 have hd: ∀j,j<s.length→s.toArray[j]! =s.getD j 0:=fun j hj=>by
  rw [getElem!_pos s.toArray j (by simpa using hj),Qc,gE hj]; simp
 have hle: ∀i j,i<j→j<s.length→s.getD i 0≤s.getD j 0:=fun i j hij hj=>by
  rw [Qc,Qc,gE hj,gE (by omega)]
  exact Zo.1 hs i j (by omega) hj hij
 have key: ∀m,m≤s.length→(Lib.compactUpTo s.toArray m).Nodup∧∀x,x∈Lib.compactUpTo s.toArray m↔∃j,j<m∧s.getD j 0=x:=by
  intro m
  induction m with
  | zero=>intro _; exact ⟨Yn,fun x=>⟨(fun h=>by cases h),(fun ⟨j,hj,_⟩=>by omega)⟩⟩
  | succ m ih=>
   intro hm
   obtain ⟨i1,i2⟩:=ih (by omega)
   rw [Lib.compactUpTo_succ,hd m (by omega)]
   by_cases hk:Lib.keeps s.toArray m=true
   ·
    rw [if_pos hk]
    have hnew:s.getD m 0∉Lib.compactUpTo s.toArray m:=fun h=>by
     obtain ⟨j,hj,e⟩:=(i2 _).1 h
     unfold Lib.keeps at hk
     rcases of_decide_eq_true hk with h0 | h0
     · omega
     ·
      apply h0
      rw [hd m (by omega),hd (m-1) (by omega)]
      have h1:=hle (m-1) m (by omega) (by omega)
      rcases Xf j (m-1) with h2 | h2
      · have:=hle j (m-1) h2 (by omega); omega
      ·
       have:j=m-1:=by omega
       subst this; exact e.symm
    refine ⟨?_,fun x=>?_⟩
    ·
     rw [X8]
     exact ⟨i1,by simp,fun a ha b hb e=>by rw [Qq] at hb; rw [e,hb] at ha; exact hnew ha⟩
    ·
     rw [Qs,i2,Qq]
     constructor
     ·
      rintro (⟨j,hj,e⟩ | e)
      · exact ⟨j,by omega,e⟩
      · exact ⟨m,by omega,e.symm⟩
     ·
      rintro ⟨j,hj,e⟩
      by_cases z:j<m
      · exact .inl ⟨j,z,e⟩
      ·
       have:j=m:=by omega
       subst this; exact .inr e.symm
   ·
    rw [if_neg hk,Yf]
    refine ⟨i1,fun x=>?_⟩
    rw [i2]
    have hm0:m≠0:=fun z=>hk (by subst z; simp [Lib.keeps])
    have he:s.getD m 0=s.getD (m-1) 0:=Classical.byContradiction fun z=>hk (by
     unfold Lib.keeps
     refine dT (.inr ?_)
     rw [hd m (by omega),hd (m-1) (by omega)]; exact z)
    constructor
    · rintro ⟨j,hj,e⟩; exact ⟨j,by omega,e⟩
    ·
     rintro ⟨j,hj,e⟩
     by_cases z:j<m
     · exact ⟨j,z,e⟩
     ·
      have:j=m:=by omega
      subst this; exact ⟨j-1,by omega,by rw [←he]; exact e⟩
 obtain ⟨k1,k2⟩:=key s.length (Xb _)
 refine ⟨k1,fun x=>(k2 x).trans ⟨fun ⟨j,hj,e⟩=>?_,fun h=>?_⟩⟩
 · rw [←e,Qc,gE hj]; exact Qj hj
 ·
  obtain ⟨j,hj,e⟩:=Y9.1 h
  exact ⟨j,hj,by rw [Qc,gE hj]; exact e⟩
theorem iz_of {l:List Int} (h: ∀x∈l,0≤x):l=iz (l.map Int.toNat):=by
 unfold iz
 rw [Yu]
 conv=>lhs; rw [←List.map_id l]
 exact Xd fun x hx=>by have:=h x hx; show x=((x.toNat:Nat):Int); omega
/-! DeleteFunc. -/
section
variable {R : List Tri} {i : Nat} {p : Nat → Bool} {m : Nat}
def gone (R:List Tri) (i:Nat) (a:Nat):Bool:=decide (¬∃j,j<R.length∧j≠i∧has (R.getD j (0,0,0)) a)
theorem gone_run (hl:R.length≤1000) (hm:1000<m) (a:Nat):F.qdb m (a:Int) (rz R) (i:Int)=some (gone R i a):=by
 have h:=scan_loop (body:=F.qce m (a:Int) (rz R) (i:Int)) (fun k=>(k:Int)) R.length (fun k=>if k≠i∧has (R.getD k (0,0,0)) a then some false else none) (e:=(R.length:Int)) (fun k hk=>by
  have eg:R.getD k (0,0,0)=R[k]:=by rw [Qc,gE hk]; rfl
  unfold F.qce
  dsimp only
  rw [rz_len,dT (by omega),kT,qas,rz_at hk,bB,eg]
  unfold ri
  dsimp only
  by_cases c0:k=i
  · rw [dT (by omega),Qi,kF,qal (by omega) (by omega),bB,if_neg fun z=>z.1 c0]; rfl
  rw [dF (by omega),Qz,kT]
  by_cases c1:R[k].1=a
  · rw [dT (by omega),kT,if_pos ⟨c0,.inl c1⟩]
  rw [dF (by omega),kF]
  by_cases c2:R[k].2.1=a
  · rw [dT (by omega),kT,if_pos ⟨c0,.inr (.inl c2)⟩]
  rw [dF (by omega),kF]
  by_cases c3:R[k].2.2=a
  · rw [dT (by omega),kT,if_pos ⟨c0,.inr (.inr c3)⟩]
  rw [dF (by omega),kF,qal (by omega) (by omega),bB,if_neg fun z=>z.2.elim c1 fun z=>z.elim c2 c3]; rfl) (by
  unfold F.qce
  dsimp only
  rw [rz_len,dF (by omega),kF]) m (by omega)
 have h':loopN m (F.qce m (a:Int) (rz R) (i:Int)) 0=_:=h
 unfold F.qdb
 rw [h',bB]
 cases hf:(List.range R.length).findSome? fun k=>if k≠i∧has (R.getD k (0,0,0)) a then some false else none with
 | none=>
  dsimp only
  unfold gone
  rw [dT]
  rintro ⟨j,hj,hne,hh⟩
  have:=Ya.1 hf j (Qg.2 hj)
  rw [if_pos ⟨hne,hh⟩] at this; cases this
 | some v=>
  obtain ⟨k,hk,hv⟩:=Yb hf
  dsimp only
  split at hv
  ·
   rename_i z
   injection hv with hv
   subst hv
   unfold gone
   rw [dF]
   exact fun q=>q ⟨k,Qg.1 hk,z.1,z.2⟩
  · cases hv
theorem delf_run (hl:R.length≤1000) {s:List Nat} (hs:s.length≤4000) (hm:5000<m):F.qbf m (iz s) (rz R) (i:Int)=some (iz (s.filter fun a=>!gone R i a)):=by
 obtain ⟨r,r1,r2⟩:=qbq (body:=F.qbc m (iz s) (rz R) (i:Int)) (fun v=> ∃k:Nat,k≤s.length∧v=(k:Int)∧∀a∈s.take k,gone R i a=false) (fun v=>s.length-v.toNat)
  (fun r=>((∃e,r=.inl e)∧∀a∈s,gone R i a=false)∨∃(k:Nat) (hk:k<s.length),r=.inr (k:Int)∧gone R i s[k]=true∧∀a∈s.take k,gone R i a=false) (by
  rintro v ⟨k,hk,rfl,h⟩
  unfold F.qbc
  dsimp only
  rw [qeo]
  by_cases hlt:k<s.length
  ·
   rw [dT (by omega),kT,qas,iz_at hlt,bB,gone_run hl (by omega),bB]
   cases hg:gone R i s[k] with
   | true=>right; rw [kT]; exact ⟨_,rfl,.inr ⟨k,hlt,rfl,hg,h⟩⟩
   | false=>
    left
    rw [kF,qal (by omega) (by omega),bB]
    refine ⟨_,rfl,⟨k+1,hlt,by omega,fun a ha=>?_⟩,by omega⟩
    rw [Xc,gE hlt] at ha
    rcases Qs.1 ha with z | z
    · exact h a z
    ·
     have:a=s[k]:=by simpa using z
     rw [this]; exact hg
  ·
   right
   have:k=s.length:=by omega
   subst this
   rw [Xl] at h
   rw [dF (by omega),kF]
   exact ⟨_,rfl,.inl ⟨⟨_,rfl⟩,h⟩⟩) m 0 ⟨0,Xk _,rfl,fun a ha=>by cases ha⟩ (by show s.length-(0:Int).toNat<m; omega)
 unfold F.qbf F.qbp
 rw [r1,bB]
 rcases r2 with ⟨⟨e,rfl⟩,h⟩ | ⟨k,hk,rfl,h1,h2⟩
 ·
  dsimp only
  rw [bB,dT rfl,kT]
  congr 2
  exact (Z2.2 fun a ha=>by rw [h a ha]; rfl).symm
 ·
  dsimp only
  rw [bB,dF (by omega),kF,qal (by omega) (by omega),bB]
  have fk:(s.take k).filter (fun a=>!gone R i a)=s.take k:=Z2.2 fun a ha=>by rw [h2 a ha]; rfl
  have hst: ∀j (hj:j<s.length),s.take (j+1)=s.take j++[s[j]]:=fun j hj=>by rw [Xc,gE hj]; rfl
  obtain ⟨o,o1,o2⟩:=qbq (body:=F.qbb m (iz s) (rz R) (i:Int))
   (fun t=> ∃(j:Nat) (x:List Nat),j≤s.length∧t.2.1=(j:Int)∧t.1=(((s.take j).filter fun a=>!gone R i a).length:Int)∧((s.take j).filter fun a=>!gone R i a).length<j∧t.2.2=iz x∧x.length=s.length∧x.take ((s.take j).filter fun a=>!gone R i a).length=(s.take j).filter (fun a=>!gone R i a)∧x.drop j=s.drop j)
   (fun t=>s.length-t.2.1.toNat)
   (fun t=> ∃x:List Nat,t.1=((s.filter fun a=>!gone R i a).length:Int)∧(s.filter fun a=>!gone R i a).length<s.length∧t.2.2=iz x∧x.length=s.length∧x.take (s.filter fun a=>!gone R i a).length=s.filter fun a=>!gone R i a) (by
   rintro ⟨t1,t2,t3⟩ ⟨j,x,hj,e1,e2,e3,e4,e5,e6,e7⟩
   dsimp only at e1 e2 e3 e4
   subst e1 e2 e4
   unfold F.qbb
   dsimp only
   rw [qeo]
   by_cases hlt:j<s.length
   ·
    left
    have hx:x[j]'(by omega)=s[j]:=by
     have:=congrArg (·[0]?) e7
     simpa [hlt,show j<x.length by omega] using this
    rw [dT (by omega),kT,qas,iz_at (by omega),bB,hx,gone_run hl (by omega),bB]
    cases hg:gone R i s[j] with
    | false=>
     have hft:(s.take (j+1)).filter (fun a=>!gone R i a)=(s.take j).filter (fun a=>!gone R i a)++[s[j]]:=by
      rw [hst j hlt,Xj,Xm,hg]; rfl
     rw [Qz,kT,qas,iz_at (by omega),bB,qal (by omega) (by omega),bB,qal (by omega) (by omega),bB,Qb]
     refine ⟨_,rfl,⟨j+1,x.set ((s.take j).filter fun a=>!gone R i a).length s[j],hlt,by dsimp only; omega,by dsimp only; rw [hft,Qr,Xa]; omega,by rw [hft,Qr,Xa]; omega,?_,by rw [Xs]; exact e5,?_,?_⟩,by dsimp only; omega⟩
     ·
      dsimp only
      unfold iz
      rw [List.map_set]
     ·
      rw [hft,Qr,Xa,Xc,List.take_set_of_le (Xb _),e6,Yh (by omega)]
      rfl
     ·
      rw [List.drop_set_of_lt (by omega)]
      have:=congrArg (List.drop 1) e7
      rw [Zg,Zg] at this
      exact this
    | true=>
     have hft:(s.take (j+1)).filter (fun a=>!gone R i a)=(s.take j).filter (fun a=>!gone R i a):=by
      rw [hst j hlt,Xj,Xm,hg]; simp
     rw [Qi,kF,qal (by omega) (by omega),bB]
     refine ⟨_,rfl,⟨j+1,x,hlt,by dsimp only; omega,by dsimp only; rw [hft],by rw [hft]; omega,rfl,e5,by rw [hft]; exact e6,?_⟩,by dsimp only; omega⟩
     have:=congrArg (List.drop 1) e7
     rw [Zg,Zg] at this
     exact this
   ·
    right
    have:j=s.length:=by omega
    subst this
    rw [Xl] at e3 e6⊢
    rw [dF (by omega),kF]
    exact ⟨_,rfl,x,rfl,e3,rfl,e5,e6⟩) m ((k:Int),(k:Int)+1,iz s)
   ⟨k+1,s,hk,by dsimp only; omega,by dsimp only; rw [hst k hk,Xj,fk,Xm,h1]; simp; omega,by rw [hst k hk,Xj,fk,Xm,h1]; simp; omega,rfl,rfl,by
    rw [hst k hk,Xj,fk,Xm,h1]; simp,rfl⟩ (by dsimp only; omega)
  obtain ⟨t1,t2,t3⟩:=o
  obtain ⟨x,e1,e2,e3,e4,e5⟩:=o2
  dsimp only at e1 e3
  subst e1 e3
  rw [o1,bB]
  dsimp only
  have hz:(iz x).length=s.length:=by rw [qeo,e4]
  rw [hz,cut_ok (by omega) (by omega) (by omega),bB,posz_ok (by omega) (by omega),bB,cut_ok (by omega) (by omega) (by rw [Qr,Xx,Qv,hz]; omega),bB,Qb,Zd (by rw [Xx,hz]; omega),Zx,Nat.min_self]
  unfold iz
  rw [←Z1,e5]
end
theorem border_run {R:List Tri} (hl:R.length≤1000) {i:Nat} (hi:i<R.length) {B:List Nat} (hB:B.length≤1000) (m:Nat) (hm:5000<m):
  ∃B':List Nat,F.qef m (rz R) (i:Int) (iz B)=some (iz B')∧B'.Nodup∧B'.length≤B.length+3∧∀a,a∈B'↔(a∈B∨has R[i] a)∧∃j,j<R.length∧j≠i∧has (R.getD j (0,0,0)) a:=by
 have hs:((iz B++[(R[i].1:Int),(R[i].2.1:Int),(R[i].2.2:Int)]).mergeSort fun x y=>decide (x≤y)).Pairwise (· ≤ ·):=by
  have:=List.pairwise_mergeSort (le:=fun x y:Int=>decide (x≤y)) (fun a b c h1 h2=>by simp only [decide_eq_true_eq] at *; omega) (fun a b=>by simp only [Yq,decide_eq_true_eq]; omega) (iz B++[(R[i].1:Int),(R[i].2.1:Int),(R[i].2.2:Int)])
  exact this.imp fun h=>of_decide_eq_true h
 generalize hsv:((iz B++[(R[i].1:Int),(R[i].2.1:Int),(R[i].2.2:Int)]).mergeSort fun x y=>decide (x≤y))=sv at hs
 have hmem: ∀x,x∈sv↔x∈iz B++[(R[i].1:Int),(R[i].2.1:Int),(R[i].2.2:Int)]:=fun x=>by rw [←hsv]; exact List.mem_mergeSort
 have hlen:sv.length=B.length+3:=by rw [←hsv,List.length_mergeSort,Qr,qeo]; rfl
 obtain ⟨c1,c2⟩:=compact_spec hs
 have hcl:(Lib.compact sv).length≤B.length+3:=by
  unfold Lib.compact Lib.compactUpTo
  rw [Qu]
  have:=Xr (Lib.keeps sv.toArray) (List.range sv.length)
  rw [Qn] at this
  omega
 have h0: ∀x∈Lib.compact sv,0≤x:=fun x hx=>by
  have:=(hmem x).1 ((c2 x).1 hx)
  rcases Qs.1 this with z | z
  ·
   unfold iz at z
   obtain ⟨y,_,rfl⟩:=Qo.1 z
   omega
  ·
   simp only [Qp,Qh,or_false] at z
   omega
 have hiz:=iz_of h0
 generalize hcn:(Lib.compact sv).map Int.toNat=cn at hiz
 have hcn':cn.Nodup:=by
  rw [hiz] at c1
  unfold iz List.Nodup at c1
  rw [Yj] at c1
  exact c1.imp fun h e=>h (by rw [e])
 have hcm: ∀a,a∈cn↔a∈B∨has R[i] a:=fun a=>by
  have e1:a∈cn↔(a:Int)∈Lib.compact sv:=by
   rw [hiz]
   unfold iz
   rw [Qo]
   exact ⟨fun h=>⟨a,h,rfl⟩,fun ⟨b,hb,e⟩=>(show b=a by omega)▸hb⟩
  rw [e1,c2,hmem,Qs]
  refine or_congr ?_ ?_
  ·
   unfold iz
   rw [Qo]
   exact ⟨fun ⟨b,hb,e⟩=>(show b=a by omega)▸hb,fun h=>⟨a,h,rfl⟩⟩
  ·
   unfold has
   simp only [Qp,Qh,or_false]
   omega
 refine ⟨cn.filter fun a=>!gone R i a,?_,hcn'.filter _,?_,fun a=>?_⟩
 ·
  unfold F.qef F.qfq F.qhl F.qgc srtF cpcF
  rw [qas,rz_at hi,bB]
  unfold ri
  dsimp only
  rw [qeo,lim_ok (by simp; omega),bB,bB,Zr,lim_ok (by rw [qeo]; simp; omega),bB,if_pos (by rw [Qr,qeo]; simp; omega),hsv,bB,if_pos (by omega),bB,hiz,delf_run hl (by
   rw [←hcn,Qu]; omega) hm,bB]
 ·
  have:=Xr (fun a=>!gone R i a) cn
  rw [←hcn,Qu] at this
  rw [←hcn]
  omega
 ·
  rw [Qx,hcm]
  unfold gone
  simp
theorem choose_run {R:List Tri} (hl:R.length≤1000) (h0:0<R.length) {B:List Nat} (hB:B.length≤900) (m:Nat) (hm:5000<m):
  ∃(i:Nat) (hi:i<R.length) (B':List Nat),F.qft m (rz R) (iz B)=some ((R[i].1:Int),(R[i].2.1:Int),(R[i].2.2:Int),iz B',rz (R.eraseIdx i))∧B'.Nodup∧B'.length≤B.length+3∧∀a,a∈B'↔(a∈B∨has R[i] a)∧∃o∈R.eraseIdx i,has o a:=by
 obtain ⟨⟨v6,v7,v16⟩,r1,k,hk,e6⟩:=qbq (body:=F.qem m (rz R) (iz B))
  (fun s=> ∃j:Nat,j≤R.length∧s.2.2=(j:Int)∧((j=0∧s.1=-1)∨∃k:Nat,k<R.length∧s.1=(k:Int))) (fun s=>R.length-s.2.2.toNat)
  (fun s=> ∃k:Nat,k<R.length∧s.1=(k:Int)) (by
  rintro ⟨s1,s2,s3⟩ ⟨j,hj,e1,e2⟩
  dsimp only at e1 e2
  subst e1
  unfold F.qem
  dsimp only
  rw [rz_len]
  by_cases hlt:j<R.length
  ·
   left
   obtain ⟨B',b1,_⟩:=border_run hl hlt (show B.length≤1000 by omega) m hm
   rw [dT (by omega),kT,b1,bB]
   by_cases c1:s1<0
   ·
    rw [dT c1,kT,qal (by omega) (by omega),bB]
    exact ⟨_,rfl,⟨j+1,hlt,by dsimp only; omega,.inr ⟨j,hlt,rfl⟩⟩,by dsimp only; omega⟩
   ·
    rw [dF c1,kF]
    obtain ⟨k,hk,e⟩:=e2.resolve_left fun z=>by omega
    by_cases c2:((iz B').length:Int)<s2
    ·
     rw [dT c2,kT,qal (by omega) (by omega),bB]
     exact ⟨_,rfl,⟨j+1,hlt,by dsimp only; omega,.inr ⟨j,hlt,rfl⟩⟩,by dsimp only; omega⟩
    ·
     rw [dF c2,kF,qal (by omega) (by omega),bB]
     exact ⟨_,rfl,⟨j+1,hlt,by dsimp only; omega,.inr ⟨k,hk,e⟩⟩,by dsimp only; omega⟩
  ·
   right
   rw [dF (by omega),kF]
   exact ⟨_,rfl,e2.resolve_left fun z=>by omega⟩) m (-1,0,0) ⟨0,Xk _,rfl,.inl ⟨rfl,rfl⟩⟩ (by show R.length-(0:Int).toNat<m; omega)
 dsimp only at e6
 subst e6
 obtain ⟨B',b1,b2,b3,b4⟩:=border_run hl hk (show B.length≤1000 by omega) m hm
 have hdel:delG (rz R) (k:Int) ((k:Int)+1)=some (rz (R.eraseIdx k)):=by
  unfold delG
  rw [if_pos ⟨by omega,by omega,by rw [rz_len]; omega⟩]
  rw [show ((k:Int)+1).toNat=k+1 by omega,Qb,List.eraseIdx_eq_take_drop_succ]
  unfold rz
  rw [Xn,Z1,List.map_drop]
 refine ⟨k,hk,B',?_,b2,b3,fun a=>?_⟩
 ·
  unfold F.qft F.qcx
  rw [r1,bB]
  dsimp only
  rw [qas,rz_at hk,bB,b1,bB,qal (by omega) (by omega),bB,hdel,bB]
  rfl
 ·
  rw [b4]
  refine and_congr Iff.rfl ⟨fun ⟨j,hj,hne,hh⟩=>?_,fun ⟨o,ho,hh⟩=>?_⟩
  ·
   refine ⟨R[j],?_,by rw [Qc,gE hj] at hh; exact hh⟩
   exact Ze.2 ⟨j,hj,hne,rfl⟩
  ·
   obtain ⟨j,hj,hne,e⟩:=Ze.1 ho
   exact ⟨j,hj,hne,by rw [Qc,gE hj,Xi,e]; exact hh⟩
end Wm
end Go.Proofs.YtpnppjlnfhlmpaaGreat

set_option linter.all false
namespace Go.Proofs.YtpnppjlnfhlmpaaGreat
open Ev
namespace Wm
open Gar Pg
def okr (tb:Nat→Nat→Nat) (f:Nat→Nat) (r:Tri):Prop:=tb (f r.1) (f r.2.1)=f r.2.2
instance (tb:Nat→Nat→Nat) (f:Nat→Nat) (r:Tri):Decidable (okr tb f r):=by unfold okr; infer_instance
def ind (tb:Nat→Nat→Nat) (D:List Tri) (f:Nat→Nat):Nat:=if∀r∈D,okr tb f r then 1 else 0
theorem ind_iff {tb:Nat→Nat→Nat} {D D':List Tri} (h: ∀r,r∈D↔r∈D'):ind tb D=ind tb D':=by
 funext f
 unfold ind
 by_cases c: ∀r∈D,okr tb f r
 · rw [if_pos c,if_pos fun r hr=>c r ((h r).2 hr)]
 · rw [if_neg c,if_neg fun z=>c fun r hr=>z r ((h r).1 hr)]
theorem ind_app (tb:Nat→Nat→Nat) (D D':List Tri) (f:Nat→Nat):ind tb (D++D') f=ind tb D f*ind tb D' f:=by
 unfold ind
 by_cases c: ∀r∈D,okr tb f r
 ·
  rw [if_pos c,Nat.one_mul]
  by_cases c': ∀r∈D',okr tb f r
  · rw [if_pos c',if_pos fun r hr=>(Qs.1 hr).elim (c r) (c' r)]
  · rw [if_neg c',if_neg fun z=>c' fun r hr=>z r (Xq _ hr)]
 · rw [if_neg c,Zp,if_neg fun z=>c fun r hr=>z r (Xu _ hr)]
def arcsOf (D:List Tri) (a:Nat):Prop:= ∃r∈D,has r a
theorem ind_dep (tb:Nat→Nat→Nat) (D:List Tri):Dep (arcsOf D) (ind tb D):=fun g g' e=>by
 have:(∀r∈D,okr tb g r)↔∀r∈D,okr tb g' r:=by
  refine forall_congr' fun r=>forall_congr' fun hr=>?_
  unfold okr
  rw [e _ ⟨r,hr,.inl rfl⟩,e _ ⟨r,hr,.inr (.inl rfl)⟩,e _ ⟨r,hr,.inr (.inr rfl)⟩]
 unfold ind
 by_cases c: ∀r∈D,okr tb g r
 · rw [if_pos c,if_pos (this.1 c)]
 · rw [if_neg c,if_neg fun z=>c (this.2 z)]
/-! Keys. -/
def AK (q:Nat):Nat→List (List UInt8)
 | 0=>[[]]
 | n+1=>(List.range q).flatMap fun x=>(AK q n).map (UInt8.ofNat x:: ·)
theorem of_inj {x y:Nat} (hx:x<256) (hy:y<256) (h:UInt8.ofNat x=UInt8.ofNat y):x=y:=by
 have h1:=ub_of hx
 have h2:=ub_of hy
 rw [h] at h1
 omega
theorem AK_nodup {q:Nat} (hq:q≤256): ∀n,(AK q n).Nodup
 | 0=>by simp [AK]
 | n+1=>by
  have ih:=AK_nodup hq n
  unfold AK List.Nodup
  rw [List.pairwise_flatMap]
  refine ⟨fun x hx=>?_,?_⟩
  ·
   rw [Yj]
   exact ih.imp fun h e=>h (List.cons.inj e).2
  ·
   refine (Zo.2 ?_)
   intro i j hi hj hij a ha b hb e
   rw [Qn] at hi hj
   rw [List.getElem_range] at ha hb
   obtain ⟨a',_,rfl⟩:=Qo.1 ha
   obtain ⟨b',_,rfl⟩:=Qo.1 hb
   have:=of_inj (by omega) (by omega) (List.cons.inj e).1
   omega
theorem AK_key {q:Nat}: ∀{B:List Nat} {g:Nat→Nat},(∀b∈B,g b<q)→key B g∈AK q B.length
 | [],g,_=>by show ([]:List UInt8)∈[[]]; simp
 | b::B,g,h=>by
  show UInt8.ofNat (g b)::key B g∈_
  unfold AK
  exact List.mem_flatMap.2 ⟨g b,Qg.2 (h b Ql),Qo.2 ⟨_,AK_key fun c hc=>h c (Qf _ hc),rfl⟩⟩
theorem AK_sum {q:Nat}: ∀{B:List Nat},B.Nodup→∀(F:List UInt8→Nat) (f:Nat→Nat),sm (AK q B.length) F=S q B (fun g=>F (key B g)) f
 | [],_,F,f=>by show F []+0=F []; omega
 | b::B,hn,F,f=>by
  rw [Y1] at hn
  show sm ((List.range q).flatMap fun x=>(AK q B.length).map (UInt8.ofNat x:: ·)) F=sm (List.range q) fun x=>S q B (fun g=>F (key (b::B) g)) (upd f b x)
  rw [sm_flat]
  refine qfk fun x _=>?_
  rw [sm_map,AK_sum hn.2 (fun k=>F (UInt8.ofNat x::k)) (upd f b x)]
  refine qfn fun g h1 _=>?_
  show _=F (UInt8.ofNat (g b)::key B g)
  rw [h1 b hn.1,qgu]
theorem sat_sm {α:Type} {l:List α} {h h':α→Nat} (e: ∀a∈l,sat (h a)=sat (h' a)):sat (sm l h)=sat (sm l h'):=by
 induction l with
 | nil=>rfl
 | cons a l ih=>rw [qeh,qeh,←sat_addl,e a Ql,sat_addl,←sat_addr,ih fun b hb=>e b (Qf _ hb),sat_addr]
theorem sat_S {q:Nat} {h n:(Nat→Nat)→Nat}: ∀{l:List Nat} {f:Nat→Nat},sat (S q l (fun g=>sat (h g)*n g) f)=sat (S q l (fun g=>h g*n g) f)
 | [],f=>sat_mul _ _
 | a::l,f=>sat_sm fun x _=>sat_S
theorem un_congr {c c':Nat→Int} (h: ∀a,c a=-1↔c' a=-1): ∀l,un c l=un c' l
 | []=>rfl
 | a::l=>by
  unfold un
  rw [un_congr h l]
  by_cases e:c a=-1
  · rw [if_pos e,if_pos ((h a).1 e)]
  · rw [if_neg e,if_neg fun z=>e ((h a).2 z)]
theorem key_eq {B:List Nat} {g g':Nat→Nat} (h: ∀b∈B,g b<256) (h': ∀b∈B,g' b<256):key B g=key B g'↔∀b∈B,g b=g' b:=by
 constructor
 ·
  intro e b hb
  obtain ⟨i,hi,rfl⟩:=Y9.1 hb
  have h1:=congrArg (·[i]?) e
  unfold key at h1
  rw [Qm,Qm,gE hi] at h1
  exact of_inj (h _ hb) (h' _ hb) (Option.some.inj h1)
 ·
  intro e
  exact Xd fun b hb=>by rw [e b hb]
structure Inv (q:Nat) (tb:Nat→Nat→Nat) (D R:List Tri) (B El:List Nat) (m:Mp):Prop where
 en:El.Nodup
 bn:B.Nodup
 eb: ∀a∈El,a∉B
 ad: ∀a,arcsOf D a→a∈El∨a∈B
 ed: ∀a∈El,arcsOf D a
 bd: ∀a∈B,arcsOf D a
 er: ∀a∈El,¬arcsOf R a
 br: ∀a∈B,arcsOf R a
 ok:Ok m
 ks: ∀k∈m.map (·.1),∃g:Nat→Nat,(∀b∈B,g b<q)∧k=key B g
 vs: ∀g:Nat→Nat,(∀b∈B,g b<q)→vl m (key B g)=sat (S q El (ind tb D) g)
theorem Inv.start (q:Nat) (tb:Nat→Nat→Nat) (R:List Tri):Inv q tb [] R [] [] [([],1)]:=by
 refine ⟨Yn,Yn,(fun a h=>by cases h),fun a h=>?_,(fun a h=>by cases h),(fun a h=>by cases h),(fun a h=>by cases h),(fun a h=>by cases h),⟨by simp,fun e he=>?_⟩,fun k hk=>⟨fun _=>0,(fun b h=>by cases h),?_⟩,fun g _=>?_⟩
 · obtain ⟨r,hr,_⟩:=h; cases hr
 · rw [Qq.1 he]; unfold M1; decide
 ·
  have:k=[]:=by simpa using hk
  rw [this]; rfl
 ·
  have:S q [] (ind tb []) g=1:=by
   show ind tb [] g=1
   unfold ind
   rw [if_pos fun r hr=>by cases hr]
  rw [this]; rfl
section
variable {q : Nat} {tb : Nat → Nat → Nat} {T Z : List (List Int)} (Q : Qt q tb T Z)
include Q
theorem Inv.step {D R R':List Tri} {B B' El:List Nat} {m res:Mp} {r:Tri} (h:Inv q tb D R B El m) (hp:R.Perm (r::R')) (hn':B'.Nodup) (hB': ∀a,a∈B'↔(a∈B∨has r a)∧∃o∈R',has o a) (hr:Ok res)
  (hv: ∀k,vl res k=sat (sm m fun e=>e.2.toNat*Nn q tb r.1 r.2.1 r.2.2 B' (cK B e.1) k)) (hk: ∀k,k∈res.map (·.1)↔∃e∈m,0<Nn q tb r.1 r.2.1 r.2.2 B' (cK B e.1) k):
  ∃El',Inv q tb (r::D) R' B' El' res:=by
 have hq2:=Q.q2; have hq1:=Q.q1
 have hrR:r∈R:=hp.mem_iff.2 Ql
 have hRR: ∀o,o∈R'→o∈R:=fun o ho=>hp.mem_iff.2 (Qf _ ho)
 let U:=un (fun a=>if a∈B then (0:Int) else -1) [r.2.1,r.1,r.2.2]
 have hU: ∀a,a∈U↔has r a∧a∉B:=fun a=>by
  show a∈un _ _↔_
  rw [un_mem]
  unfold has
  simp only [Qp,Qh,or_false]
  constructor
  ·
   rintro ⟨z1,z2⟩
   refine ⟨by omega,fun z=>?_⟩
   rw [if_pos z] at z2; omega
  ·
   rintro ⟨z1,z2⟩
   exact ⟨by omega,if_neg z2⟩
 have hUn:U.Nodup:=un_nodup
 have hUc: ∀g:Nat→Nat,(∀b∈B,g b<q)→un (cK B (key B g)) [r.2.1,r.1,r.2.2]=U:=fun g hg=>by
  refine un_congr (fun a=>?_) _
  rw [cK_key h.bn fun b hb=>by have:=hg b hb; omega]
  dsimp only
  by_cases z:a∈B
  · rw [if_pos z,if_pos z]; omega
  · rw [if_neg z,if_neg z]
 let X:=(B++U).filter fun a=>decide (a∉B')
 have hBUn:(B++U).Nodup:=by
  rw [X8]
  exact ⟨h.bn,hUn,fun a ha b hb e=>((hU b).1 hb).2 (e▸ha)⟩
 have hXm: ∀a,a∈X↔(a∈B∨has r a)∧a∉B':=fun a=>by
  show a∈(B++U).filter _↔_
  rw [Qx,Qs,hU,decide_eq_true_eq]
  constructor
  ·
   rintro ⟨z | z,z2⟩
   · exact ⟨.inl z,z2⟩
   · exact ⟨.inr z.1,z2⟩
  ·
   rintro ⟨z | z,z2⟩
   · exact ⟨.inl z,z2⟩
   ·
    by_cases w:a∈B
    · exact ⟨.inl w,z2⟩
    · exact ⟨.inr ⟨z,w⟩,z2⟩
 have hXn:X.Nodup:=hBUn.filter _
 have hEBU: ∀a∈El,a∉B∧¬has r a:=fun a ha=>⟨h.eb a ha,fun z=>h.er a ha ⟨r,hrR,z⟩⟩
 have hEB': ∀a∈El,a∉B':=fun a ha z=>(((hB' a).1 z).1).elim (hEBU a ha).1 (hEBU a ha).2
 have hEX: ∀a∈El,a∉X:=fun a ha z=>(((hXm a).1 z).1).elim (hEBU a ha).1 (hEBU a ha).2
 have hperm:(B++U).Perm (X++B'):=by
  refine Yp.2 fun a=>?_
  have hXBn:(X++B').Nodup:=by
   rw [X8]
   exact ⟨hXn,hn',fun a ha b hb e=>((hXm a).1 ha).2 (e▸hb)⟩
  rw [hBUn.count,hXBn.count]
  have:a∈B++U↔a∈X++B':=by
   rw [Qs,Qs,hXm,hU]
   constructor
   ·
    rintro (z | z)
    ·
     by_cases w:a∈B'
     · exact .inr w
     · exact .inl ⟨.inl z,w⟩
    ·
     by_cases w:a∈B'
     · exact .inr w
     · exact .inl ⟨.inr z.1,w⟩
   ·
    rintro (z | z)
    ·
     rcases z.1 with w | w
     · exact .inl w
     ·
      by_cases w2:a∈B
      · exact .inl w2
      · exact .inr ⟨w,w2⟩
    ·
     rcases ((hB' a).1 z).1 with w | w
     · exact .inl w
     ·
      by_cases w2:a∈B
      · exact .inl w2
      · exact .inr ⟨w,w2⟩
  by_cases z:a∈B++U
  · rw [if_pos z,if_pos (this.1 z)]
  · rw [if_neg z,if_neg fun w=>z (this.2 w)]
 refine ⟨El++X,⟨?_,hn',?_,?_,?_,?_,?_,?_,hr,?_,?_⟩⟩
 ·
  rw [X8]
  exact ⟨h.en,hXn,fun a ha b hb e=>hEX a ha (e▸hb)⟩
 ·
  intro a ha
  rcases Qs.1 ha with z | z
  · exact hEB' a z
  · exact ((hXm a).1 z).2
 ·
  rintro a ⟨o,ho,hh⟩
  have key:a∈El∨a∈B∨has r a:=by
   rcases Qp.1 ho with z | z
   · subst z; exact .inr (.inr hh)
   · exact (h.ad a ⟨o,z,hh⟩).imp id .inl
  rcases key with z | z
  · exact .inl (Xu _ z)
  ·
   by_cases w:a∈B'
   · exact .inr w
   · exact .inl (Xq _ ((hXm a).2 ⟨z,w⟩))
 ·
  intro a ha
  rcases Qs.1 ha with z | z
  ·
   obtain ⟨o,ho,hh⟩:=h.ed a z
   exact ⟨o,Qf _ ho,hh⟩
  ·
   rcases ((hXm a).1 z).1 with w | w
   ·
    obtain ⟨o,ho,hh⟩:=h.bd a w
    exact ⟨o,Qf _ ho,hh⟩
   · exact ⟨r,Ql,w⟩
 ·
  intro a ha
  rcases ((hB' a).1 ha).1 with w | w
  ·
   obtain ⟨o,ho,hh⟩:=h.bd a w
   exact ⟨o,Qf _ ho,hh⟩
  · exact ⟨r,Ql,w⟩
 ·
  rintro a ha ⟨o,ho,hh⟩
  rcases Qs.1 ha with z | z
  · exact h.er a z ⟨o,hRR o ho,hh⟩
  ·
   obtain ⟨z1,z2⟩:=(hXm a).1 z
   exact z2 ((hB' a).2 ⟨z1,o,ho,hh⟩)
 ·
  intro a ha
  exact ((hB' a).1 ha).2
 ·
  intro k hkk
  obtain ⟨e,he,hpos⟩:=(hk k).1 hkk
  obtain ⟨g0,hg0,ek⟩:=h.ks e.1 (Qo.2 ⟨e,he,rfl⟩)
  unfold Nn at hpos
  rw [ek,hUc g0 hg0] at hpos
  obtain ⟨g,g1,g2,g3⟩:=S_pos hpos
  unfold phi at g3
  have hkey:key B' g=k:=by
   by_cases z:tb (g r.1) (g r.2.1)=g r.2.2∧key B' g=k
   · exact z.2
   · rw [if_neg z] at g3; omega
  refine ⟨g,fun b hb=>?_,hkey.symm⟩
  by_cases w:b∈U
  · exact g2 b w
  ·
   have hbB:b∈B:=by
    rcases ((hB' b).1 hb).1 with z | z
    · exact z
    · exact Classical.byContradiction fun z2=>w ((hU b).2 ⟨z,z2⟩)
   rw [g1 b w]
   unfold nat
   rw [cK_key h.bn fun b hb=>by have:=hg0 b hb; omega]
   dsimp only
   rw [if_pos hbB,Qb]
   exact hg0 b hbB
 ·
  intro g' hg'
  have hg'2: ∀b∈B',g' b<256:=fun b hb=>by have:=hg' b hb; omega
  rw [hv]
  -- over all keys
  have e1:=sum_keys h.ok (AK_nodup (q:=q) (by omega) B.length) (fun k hk9=>by
   obtain ⟨g,hg,rfl⟩:=h.ks k hk9
   exact AK_key hg) (fun k=>Nn q tb r.1 r.2.1 r.2.2 B' (cK B k) (key B' g'))
  rw [e1,AK_sum h.bn _ (fun _=>0)]
  have e2:S q B (fun g=>vl m (key B g)*Nn q tb r.1 r.2.1 r.2.2 B' (cK B (key B g)) (key B' g')) (fun _=>0)=S q B (fun g=>sat (S q El (ind tb D) g)*S q U (phi tb r.1 r.2.1 r.2.2 B' (key B' g')) g) (fun _=>0):=by
   refine qfn fun g _ hg=>?_
   have hgB: ∀b∈B,g b<q:=fun b hb=>hg b hb
   rw [h.vs g hgB]
   congr 1
   unfold Nn
   rw [hUc g hgB]
   refine S_ext (D:=fun a=>has r a∨a∈B') (fun x y e=>?_) fun b hb=>?_
   ·
    unfold phi
    rw [e _ (.inl (.inl rfl)),e _ (.inl (.inr (.inl rfl))),e _ (.inl (.inr (.inr rfl))),show key B' x=key B' y from Xd fun b hb=>by rw [e b (.inr hb)]]
   ·
    by_cases w:b∈U
    · exact .inl w
    ·
     right
     have hbB:b∈B:=by
      have:b∈B∨has r b:=hb.elim .inr fun z=>((hB' b).1 z).1
      rcases this with z | z
      · exact z
      · exact Classical.byContradiction fun z2=>w ((hU b).2 ⟨z,z2⟩)
     unfold nat
     rw [cK_key h.bn fun b hb=>by have:=hgB b hb; omega]
     dsimp only
     rw [if_pos hbB,Qb]
  rw [e2,sat_S]
  congr 1
  have e3:S q B (fun g=>S q El (ind tb D) g*S q U (phi tb r.1 r.2.1 r.2.2 B' (key B' g')) g) (fun _=>0)=S q (B++(El++U)) (fun g=>ind tb D g*phi tb r.1 r.2.1 r.2.2 B' (key B' g') g) (fun _=>0):=by
   rw [S_app]
   refine qfn fun g _ _=>?_
   refine (S_prod (ind_dep tb D) (D2:=fun a=>has r a∨a∈B') (fun x y e=>?_) (fun b hb z=>?_) fun b hb z=>?_).symm
   ·
    unfold phi
    rw [e _ (.inl (.inl rfl)),e _ (.inl (.inr (.inl rfl))),e _ (.inl (.inr (.inr rfl))),show key B' x=key B' y from Xd fun b hb=>by rw [e b (.inr hb)]]
   ·
    obtain ⟨z1,z2⟩:=(hU b).1 z
    rcases h.ad b hb with w | w
    · exact (hEBU b w).2 z1
    · exact z2 w
   ·
    rcases hb with w | w
    · exact (hEBU b z).2 w
    · exact hEB' b z w
  rw [e3]
  have p2:(B++(El++U)).Perm ((El++X)++B'):=by
   refine (List.perm_append_comm_assoc B El U).trans ?_
   rw [Ys]
   exact hperm.append_left El
  rw [S_perm p2,S_app]
  have e4: ∀g:Nat→Nat,S q B' (fun g=>ind tb D g*phi tb r.1 r.2.1 r.2.2 B' (key B' g') g) g=ind tb (r::D) (ovr B' g' g):=fun g=>by
   rw [←S_point hn' (φ:=ind tb (r::D)) hg']
   refine qfn fun x _ hx=>?_
   have hx2: ∀b∈B',x b<256:=fun b hb=>by have:=hx b hb; omega
   have hke:=key_eq hx2 hg'2
   have hi:ind tb (r::D) x=ind tb D x*(if okr tb x r then 1 else 0):=by
    rw [show r::D=[r]++D from rfl,ind_app,Yx]
    congr 1
    unfold ind
    simp
   unfold phi
   by_cases c: ∀b∈B',x b=g' b
   ·
    rw [if_pos c,hi]
    congr 1
    by_cases c2:okr tb x r
    · rw [if_pos c2,if_pos ⟨c2,hke.2 c⟩]
    · rw [if_neg c2,if_neg fun z=>c2 z.1]
   · rw [if_neg c,if_neg fun z=>c (hke.1 z.2),Zq]
  rw [qfn (ψ:=fun g=>ind tb (r::D) (ovr B' g' g)) fun g _ _=>e4 g]
  have hdep:Dep (fun a=>arcsOf (r::D) a∧a∉B') (fun g=>ind tb (r::D) (ovr B' g' g)):=fun x y e=>by
   refine ind_dep tb (r::D) _ _ fun b hb=>?_
   unfold ovr
   by_cases z:b∈B'
   · rw [if_pos z,if_pos z]
   · rw [if_neg z,if_neg z]; exact e b ⟨hb,z⟩
  rw [S_ext hdep (f:=fun _=>0) (f':=g') fun b hb=>.inl (by
   obtain ⟨⟨o,ho,hh⟩,hb2⟩:=hb
   have key:b∈El∨b∈B∨has r b:=by
    rcases Qp.1 ho with z | z
    · subst z; exact .inr (.inr hh)
    · exact (h.ad b ⟨o,z,hh⟩).imp id .inl
   rcases key with z | z
   · exact Xu _ z
   · exact Xq _ ((hXm b).2 ⟨z,hb2⟩))]
  refine qfn fun g hg1 _=>?_
  congr 1
  funext b
  unfold ovr
  by_cases z:b∈B'
  ·
   rw [if_pos z]
   refine (hg1 b fun w=>?_).symm
   rcases Qs.1 w with w | w
   · exact hEB' b w z
   · exact ((hXm b).1 w).2 z
  · rw [if_neg z]
