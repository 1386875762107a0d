import Derived.Test.YticemffhlapnnaaPLoop
import Derived.Test.YticemffhlapnnaaPRnext
set_option linter.all false
namespace Go.Proofs.Yticemffhlapnnaa
namespace Gl
open Ev
theorem two_loop {S1 S2 R1 R2:Type} {b1:S1→Option (S1⊕R1)} {b2:S2→Option (S2⊕R2)} {I:Nat→S1→S2→Prop} {Q:R1→R2→Prop} (m:Nat)
  (h: ∀k a b,k<m→I k a b→∃a' b',b1 a=some (.inl a')∧b2 b=some (.inl b')∧I (k+1) a' b')
  (he: ∀a b,I m a b→∃r1 r2,b1 a=some (.inr r1)∧b2 b=some (.inr r2)∧Q r1 r2):
  ∀(d k n:Nat) a b,k+d=m→d<n→I k a b→∃r1 r2,loopN n b1 a=some r1∧loopN n b2 b=some r2∧Q r1 r2
 | 0,k,n,a,b,hk,hn,hI=>by
  obtain ⟨n,rfl⟩: ∃n',n=n'+1:=⟨n-1,by omega⟩
  have:k=m:=by omega
  subst this
  obtain ⟨r1,r2,e1,e2,hQ⟩:=he a b hI
  exact ⟨r1,r2,by simp [loopN,e1],by simp [loopN,e2],hQ⟩
 | d+1,k,n,a,b,hk,hn,hI=>by
  obtain ⟨n,rfl⟩: ∃n',n=n'+1:=⟨n-1,by omega⟩
  obtain ⟨a',b',e1,e2,hI'⟩:=h k a b (by omega) hI
  obtain ⟨r1,r2,f1,f2,hQ⟩:=two_loop m h he d (k+1) n a' b' (by omega) (by omega) hI'
  exact ⟨r1,r2,by simp [loopN,e1,f1],by simp [loopN,e2,f2],hQ⟩
theorem index_eq {L R:List Int} {x:Int} (n:Nat) (hL:x∉L) (hl:L.length<1000000) (hn:L.length<n):F.qee n (L++x::R) x=some (L.length:Int):=by
 unfold F.qee
 have hlp:loopN n (F.qcf n (L++x::R) x) 0=some (.inr (L.length:Int)):=by
  refine qbp (body:=F.qcf n (L++x::R) x) (fun k=>(k:Int)) L.length (fun k hk=>?_) ?_ n hn
  ·
   unfold F.qcf
   have h1:(L++x::R)[k]? =some L[k]:=by rw [List.getElem?_append_left hk,gE hk]
   have h2:x≠L[k]:=fun e=>hL (e▸List.getElem_mem hk)
   have h3:((k:Nat):Int)<((L++x::R).length:Int):=by simp; omega
   dsimp only
   rw [dT h3,kT,get_at rfl h1,bB,dF h2,kF,qak (by omega) (by omega)]
   rfl
  ·
   unfold F.qcf
   have h1:(L++x::R)[L.length]? =some x:=by simp
   have h3:((L.length:Nat):Int)<((L++x::R).length:Int):=by simp; omega
   dsimp only
   rw [dT h3,kT,get_at rfl h1,bB,dT rfl,kT]
 rw [hlp]
 rfl
theorem insert0 {L R:List Int} {x f:Int} (n:Nat) (hl:(L++x::R).length<1000000):F.qcm n (L++x::R) (L.length:Int) [f]=some (L++f::x::R):=by
 unfold F.qcm insF
 rw [if_pos ⟨by omega,by simp; omega,by simp,by simp only [List.length_append,List.length_cons,List.length_nil] at hl⊢; omega⟩]
 simp
theorem insert1 {L R:List Int} {x f:Int} (n:Nat) (hl:(L++x::R).length<1000000):F.qcm n (L++x::R) ((L.length:Int)+1) [f]=some (L++x::f::R):=by
 unfold F.qcm insF
 rw [if_pos ⟨by omega,by simp; omega,by simp,by simp only [List.length_append,List.length_cons,List.length_nil] at hl⊢; omega⟩]
 have:((L.length:Int)+1).toNat=L.length+1:=by omega
 rw [this,List.take_length_add_append,List.drop_length_add_append]
 simp
open Gar Pg
section
variable {sg : List Int} {w : List Vis} (hw : ∀ v ∈ w, 0 ≤ v.1 ∧ v.1 < (sg.length : Int)) (hs : sg.length ≤ 64) {M : List Int} (hM : M.length = 4 * sg.length) (hwl : w.length ≤ 100000) (m : Nat) (hm : w.length < m)
include hw hs hM hwl hm
omit hs in
theorem join_loop:loopN m (F.qdv m (w.map (ps sg))) (0,M)=some ((w.length:Int),(prs sg w w.length).foldl setP M):=by
 refine qbp (body:=F.qdv m (w.map (ps sg))) (fun k:Nat=>((k:Int),(prs sg w k).foldl setP M)) w.length (fun k hk=>?_) ?_ m hm
 ·
  have hmod:(k+1)%w.length<w.length:=Nat.mod_lt _ (by omega)
  have ht:Int.tmod (((k:Nat):Int)+1) (w.length:Int)=(((k+1)%w.length:Nat):Int):=by
   rw [show ((k:Int)+1)=((k+1:Nat):Int) from by omega,Int.ofNat_tmod]
  have a:=hw _ (List.getElem_mem hk)
  have b:=hw _ (List.getElem_mem hmod)
  have la:=(ends_lt a.1 a.2).2
  have lb:=(ends_lt b.1 b.2).1
  have hlen:=fold_len (prs sg w k) M
  rw [prs_succ,List.foldl_append,qbl hk,qbl hmod]
  generalize (prs sg w k).foldl setP M=Q at hlen⊢
  have g1:Ev.get (w.map (ps sg)) (k:Int)=some (ps sg w[k]):=get_at rfl (by rw [List.getElem?_map,gE hk]; rfl)
  have g2:Ev.get (w.map (ps sg)) (((k+1)%w.length:Nat):Int)=some (ps sg w[(k+1)%w.length]):=get_at rfl (by rw [List.getElem?_map,gE hmod]; rfl)
  have p1:(ps sg w[k]).2=((outH sg w[k]:Nat):Int):=rfl
  have p2:(ps sg w[(k+1)%w.length]).1=((inH sg w[(k+1)%w.length]:Nat):Int):=rfl
  have hc:F.qfi m (k:Int) (w.map (ps sg))=some (((k+1)%w.length:Nat):Int):=by
   unfold F.qfi
   rw [List.length_map,qak (by omega) (by omega),bB,nz_ok (by omega),bB,ht]
  unfold F.qdv
  dsimp only
  rw [List.length_map,dT (by omega),kT,g1,bB,hc,bB,g2,bB,p1,p2,get_ok (by omega) (by rw [Int.toNat_natCast,hlen]; omega),bB,Int.toNat_natCast,get_ok (by omega) (by rw [Int.toNat_natCast,List.length_set,hlen]; omega),bB,qak (by omega) (by omega),bB,Int.toNat_natCast]
  rfl
 ·
  unfold F.qdv
  dsimp only
  rw [List.length_map,dF (by omega),kF]
omit hs in
theorem join_eq (lo:Int) (h0:0≤lo) (h1:lo≤1000):F.qfm m sg M lo (w.map (ps sg))=some ((prs sg w w.length).foldl setP M,if w=[] then lo+1 else lo):=by
 have h3:=join_loop hw hM hwl m hm
 unfold F.qfm F.qfh
 by_cases he:w=[]
 · rw [dT (by subst he; rfl),kT,qak (by omega) (by omega),bB,h3,bB,if_pos he]
 ·
  have:0<w.length:=List.length_pos_iff.2 he
  rw [dF (by rw [List.length_map]; omega),kF,h3,bB,if_neg he]
end
def Cyc (nx:Nat→Nat) (v:List Nat):Prop:=v≠[]∧∀i,i<v.length→v[(i+1)%v.length]? =(v[i]?).map nx
inductive Run (nx:Nat→Nat) (n:Nat):Nat→List Bool→List (List Nat)→Prop
 | zero:Run nx n 0 (List.replicate n false) []
 | skip {k:Nat} {s:List Bool} {vs:List (List Nat)} (h:Run nx n k s vs) (hs:s[k]? =some true):Run nx n (k+1) s vs
 | add {k:Nat} {s s':List Bool} {c':Nat} {v:List Nat} {vs:List (List Nat)} (h:Run nx n k s vs) (hs:s[k]? =some false) (hw:Wk nx s k v s' c'):Run nx n (k+1) s' (vs++[v])
structure OrbI (n:Nat) (nx:Nat→Nat) (k:Nat) (s:List Bool) (vs:List (List Nat)):Prop where
 sl:s.length=n
 mem: ∀c,c<n→(s[c]? =some true↔c∈vs.flatten)
 lt: ∀c∈vs.flatten,c<n
 nd:vs.flatten.Nodup
 cov: ∀c,c<k→c∈vs.flatten
 cyc: ∀v∈vs,Cyc nx v
 vl:vs.length≤k
 run:Run nx n k s vs
theorem Wk.orbit {nx:Nat→Nat} {n:Nat} (hn: ∀c,c<n→nx c<n) {s s':List Bool} {c c':Nat} {v:List Nat} (h:Wk nx s c v s' c'):s.length=n→c<n→
  v.Nodup∧(∀a∈v,a<n∧s[a]? =some false)∧(∀a,a<n→(s'[a]? =some true↔s[a]? =some true∨a∈v))∧(∀i,i+1<v.length→v[i+1]? =(v[i]?).map nx)∧(v=[]∧c'=c∨v[0]? =some c∧(v[v.length-1]?).map nx=some c')∧s'[c']? =some true∧c'<n:=by
 induction h with
 | done h=>exact fun _ hc=>⟨List.nodup_nil,fun a ha=>absurd ha (by simp),fun a _=>by simp,fun i hi=>by simp at hi,.inl ⟨rfl,rfl⟩,h,hc⟩
 | @step s s' c c' v h t ih=>
  intro hs hc
  obtain ⟨i1,i2,i3,i4,i5,i6,i7⟩:=ih (by rw [List.length_set,hs]) (hn c hc)
  have hcv:c∉v:=fun hm=>by
   have:=(i2 c hm).2
   rw [List.getElem?_set_self (by omega)] at this
   cases this
  refine ⟨List.nodup_cons.2 ⟨hcv,i1⟩,fun a ha=>?_,fun a ha=>?_,fun i hi=>?_,.inr ⟨rfl,?_⟩,i6,i7⟩
  ·
   rcases List.mem_cons.1 ha with rfl | ha
   · exact ⟨hc,h⟩
   ·
    have:=i2 a ha
    rw [List.getElem?_set_ne (fun e=>hcv (by rw [e]; exact ha))] at this
    exact this
  ·
   rw [i3 a ha,List.mem_cons]
   by_cases e:c=a
   ·
    subst e
    rw [List.getElem?_set_self (by omega)]
    exact ⟨fun _=>.inr (.inl rfl),fun _=>.inl rfl⟩
   ·
    rw [List.getElem?_set_ne e]
    exact ⟨fun q=>q.elim .inl fun q=>.inr (.inr q),fun q=>q.elim .inl fun q=>q.elim (fun q=>absurd q.symm e) .inr⟩
  ·
   rw [List.length_cons] at hi
   cases i with
   | zero=>
    rcases i5 with ⟨rfl,_⟩ | ⟨q,_⟩
    · simp at hi
    · simp [q]
   | succ i=>
    have:=i4 i (by omega)
    simpa using this
  ·
   rcases i5 with ⟨rfl,e⟩ | ⟨_,q⟩
   · simp [e]
   ·
    have hv:v≠[]:=fun e=>by subst e; simp at q
    have:0<v.length:=List.length_pos_iff.2 hv
    rw [List.length_cons,show v.length+1-1=(v.length-1)+1 by omega,List.getElem?_cons_succ]
    exact q
theorem OrbI.add {n:Nat} {nx:Nat→Nat} (hn: ∀c,c<n→nx c<n) (hi: ∀a b,a<n→b<n→nx a=nx b→a=b) {k:Nat} (hk:k<n) {s s':List Bool} {vs:List (List Nat)} (h:OrbI n nx k s vs) (hs:s[k]? =some false) {v:List Nat} {c':Nat} (hw:Wk nx s k v s' c'):
  OrbI n nx (k+1) s' (vs++[v]):=by
 obtain ⟨i1,i2,i3,i4,i5,i6,i7⟩:=hw.orbit hn h.sl hk
 have hv:v≠[]:=fun e=>by
  subst e
  cases hw with
  | done q=>rw [hs] at q; cases q
 have hpos:0<v.length:=List.length_pos_iff.2 hv
 obtain ⟨q1,q2⟩:v[0]? =some k∧(v[v.length-1]?).map nx=some c':=by
  rcases i5 with ⟨e,_⟩ | q
  · exact absurd e hv
  · exact q
 have hlast:v[v.length-1]? =some v[v.length-1]:=gE (by omega)
 have hlm:=i2 _ (List.mem_of_getElem? hlast)
 rw [hlast] at q2
 have hnx:nx v[v.length-1]=c':=Option.some.inj q2
 have hnot: ∀a∈v,a∉vs.flatten:=fun a ha hm=>by
  have:=(h.mem a (i2 a ha).1).2 hm
  rw [(i2 a ha).2] at this; cases this
 have hc:c'=k:=by
  rcases (i3 c' i7).1 i6 with hm | hm
  ·
   exfalso
   rw [h.mem c' i7,List.mem_flatten] at hm
   obtain ⟨u,hu,hcu⟩:=hm
   obtain ⟨hu1,hu2⟩:=h.cyc u hu
   obtain ⟨j,hj,e⟩:=List.getElem_of_mem hcu
   have hup:0<u.length:=List.length_pos_iff.2 hu1
   -- the place before j
   obtain ⟨i,hi2,hij⟩: ∃i,i<u.length∧(i+1)%u.length=j:=by
    rcases Nat.eq_zero_or_pos j with z | z
    · exact ⟨u.length-1,by omega,by rw [show u.length-1+1=u.length by omega,Nat.mod_self]; exact z.symm⟩
    · exact ⟨j-1,by omega,by rw [show j-1+1=j by omega,Nat.mod_eq_of_lt hj]⟩
   have h3:=hu2 i hi2
   rw [hij,gE hj,gE hi2,e] at h3
   have h4:c'=nx u[i]:=Option.some.inj h3
   have hmu:u[i]∈vs.flatten:=List.mem_flatten.2 ⟨u,hu,List.getElem_mem hi2⟩
   have h5:=hi _ _ hlm.1 (h.lt _ hmu) (hnx.trans h4)
   exact hnot _ (List.mem_of_getElem? hlast) (h5▸hmu)
  ·
   obtain ⟨i,hi1,e⟩:=List.getElem_of_mem hm
   cases i with
   | zero=>rw [gE hi1,e] at q1; exact Option.some.inj q1
   | succ i=>
    exfalso
    have h3:=i4 i hi1
    rw [gE hi1,gE (by omega:i<v.length),e] at h3
    have h4:c'=nx v[i]:=Option.some.inj h3
    have hmi:v[i]∈v:=List.getElem_mem _
    have h5:=hi _ _ hlm.1 (i2 _ hmi).1 (hnx.trans h4)
    have h6:v[v.length-1]? =v[i]? :=by rw [hlast,gE (by omega:i<v.length),h5]
    have:=(List.getElem?_inj (by omega) i1).1 h6
    omega
 refine ⟨?_,fun c hcn=>?_,fun c hm=>?_,?_,fun c hck=>?_,fun u hu=>?_,?_,.add h.run hs hw⟩
 · rw [hw.len.2,h.sl]
 · rw [i3 c hcn,h.mem c hcn]; simp
 ·
  simp only [List.flatten_append,List.flatten_cons,List.flatten_nil,List.append_nil,List.mem_append] at hm
  rcases hm with hm | hm
  · exact h.lt c hm
  · exact (i2 c hm).1
 ·
  simp only [List.flatten_append,List.flatten_cons,List.flatten_nil,List.append_nil]
  rw [List.nodup_append]
  exact ⟨h.nd,i1,fun a ha b hb e=>hnot b hb (e▸ha)⟩
 ·
  simp only [List.flatten_append,List.flatten_cons,List.flatten_nil,List.append_nil,List.mem_append]
  rcases Nat.lt_or_ge c k with q | q
  · exact .inl (h.cov c q)
  ·
   have:c=k:=by omega
   subst this
   exact .inr (List.mem_of_getElem? q1)
 ·
  rcases List.mem_append.1 hu with hu | hu
  · exact h.cyc u hu
  ·
   rw [List.mem_singleton] at hu
   subst hu
   refine ⟨hv,fun i hi1=>?_⟩
   rcases Nat.lt_or_ge (i+1) u.length with q | q
   · rw [Nat.mod_eq_of_lt q]; exact i4 i q
   ·
    have:i=u.length-1:=by omega
    rw [show i+1=u.length by omega,Nat.mod_self,q1,this,hlast]
    show some k=some (nx u[u.length-1])
    rw [hnx,hc]
 ·
  rw [List.length_append,List.length_singleton]
  have:=h.vl; omega
theorem OrbI.skip {n:Nat} {nx:Nat→Nat} {k:Nat} (hk:k<n) {s:List Bool} {vs:List (List Nat)} (h:OrbI n nx k s vs) (hs:s[k]? =some true):OrbI n nx (k+1) s vs:=
 ⟨h.sl,h.mem,h.lt,h.nd,fun c hc=>by
  rcases Nat.lt_or_ge c k with q | q
  · exact h.cov c q
  ·
   have:c=k:=by omega
   subst this
   exact (h.mem c hk).1 hs,h.cyc,by have:=h.vl; omega,.skip h.run hs⟩
def csOf (n:Nat) (x o cx co:Nat→Nat) (vs:List (List Nat)):List (List Vis):=(vs.map fun v=>v.flatMap (part n x o cx co)).filter fun w=>!w.isEmpty
def loOf (n:Nat) (x o cx co:Nat→Nat) (vs:List (List Nat)):Int:=(((vs.map fun v=>v.flatMap (part n x o cx co)).filter fun w=>w.isEmpty).length:Int)
theorem allP_snoc (sg:List Int) (cs:List (List Vis)) (w:List Vis):allP sg (cs++[w])=allP sg cs++prs sg w w.length:=by
 unfold allP
 rw [List.flatMap_append]; simp
section
variable {n : Nat} {x o cx co : Nat → Nat}
theorem cs_add (sg:List Int) (vs:List (List Nat)) (v:List Nat) (M:List Int):(allP sg (csOf n x o cx co (vs++[v]))).foldl setP M=(prs sg (v.flatMap (part n x o cx co)) (v.flatMap (part n x o cx co)).length).foldl setP ((allP sg (csOf n x o cx co vs)).foldl setP M):=by
 unfold csOf
 rw [List.map_append,List.filter_append]
 by_cases h:v.flatMap (part n x o cx co)=[]
 · simp [h,prs]
 ·
  have:([v].map fun v=>v.flatMap (part n x o cx co)).filter (fun w=>!w.isEmpty)=[v.flatMap (part n x o cx co)]:=by
   simp only [List.map_cons,List.map_nil,List.filter_cons,List.filter_nil]
   rw [if_pos (by simp only [Bool.not_eq_true',List.isEmpty_eq_false_iff]; exact h)]
  rw [this,allP_snoc,List.foldl_append]
theorem lo_add (vs:List (List Nat)) (v:List Nat):loOf n x o cx co (vs++[v])=if v.flatMap (part n x o cx co)=[] then loOf n x o cx co vs+1 else loOf n x o cx co vs:=by
 unfold loOf
 rw [List.map_append,List.filter_append,List.length_append]
 by_cases h:v.flatMap (part n x o cx co)=[]
 ·
  rw [if_pos h]
  simp only [List.map_cons,List.map_nil,List.filter_cons,List.filter_nil]
  rw [if_pos (by simp only [List.isEmpty_iff]; exact h)]
  rfl
 ·
  rw [if_neg h]
  simp only [List.map_cons,List.map_nil,List.filter_cons,List.filter_nil]
  rw [if_neg (by simp only [List.isEmpty_iff]; exact h)]
  rfl
theorem lo_le (vs:List (List Nat)):0≤loOf n x o cx co vs∧loOf n x o cx co vs≤(vs.length:Int):=by
 unfold loOf
 have:=List.length_filter_le (fun w:List Vis=>w.isEmpty) (vs.map fun v=>v.flatMap (part n x o cx co))
 rw [List.length_map] at this
 omega
end
section
variable {n : Nat} {x o cx co : Nat → Nat} (g : Gd n x o cx co)
include g
theorem Gd.ways_len {v:List Nat} (hv: ∀c∈v,c<n):(v.flatMap (part n x o cx co)).length≤80*v.length:=by
 induction v with
 | nil=>simp
 | cons c v ih=>
  have h1:=g.part_len (hv c (by simp))
  have h2:=ih fun c hc=>hv c (by simp [hc])
  rw [List.flatMap_cons,List.length_append,List.length_cons]; omega
theorem Gd.ways_vis {v:List Nat} (hv: ∀c∈v,c<n): ∀u∈v.flatMap (part n x o cx co),0≤u.1∧u.1<((sgl n x o cx co).length:Int):=by
 intro u hu
 obtain ⟨c,hc,h⟩:=List.mem_flatMap.1 hu
 exact g.part_vis (hv c hc) u h
theorem Gd.nx_inj (a b:Nat) (ha:a<n) (hb:b<n) (h:cx (o a)=cx (o b)):a=b:=g.po.inj (g.px.symm.inj h)
end
open Gar Pg
section
variable {n : Nat} {x o cx co : Nat → Nat} (g : Gd n x o cx co)
include g
theorem Gd.diag1 (hL:(crl n x o cx co).length≤64) (m:Nat) (hm:10000<m): ∃s vs,OrbI n (fun c=>cx (o c)) n s vs∧
  F.qex m (li n x) (li n o)=some (sgl n x o cx co,mtS (sgl n x o cx co) (csOf n x o cx co vs),loOf n x o cx co vs,0):=by
 have hn:=g.hi
 have hsl:(sgl n x o cx co).length≤64:=by rw [g.sgl_len]; exact hL
 let M0:List Int:=List.replicate (4*(sgl n x o cx co).length) 0
 have hmain:=two_loop (b1:=F.qcy m (li n x) (li n o) (sgl n x o cx co,tabC n x o cx co,tabR n x o cx co)) (b2:=fun j:Nat=>if j<n then some (Sum.inl (j+1)) else some (Sum.inr j:Nat⊕Nat))
  (I:=fun k a b=> ∃s vs,OrbI n (fun c=>cx (o c)) k s vs∧a=((k:Int),(allP (sgl n x o cx co) (csOf n x o cx co vs)).foldl setP M0,loOf n x o cx co vs,li n cx,s)∧k=b)
  (Q:=fun a b=> ∃s vs,OrbI n (fun c=>cx (o c)) n s vs∧a=((n:Int),(allP (sgl n x o cx co) (csOf n x o cx co vs)).foldl setP M0,loOf n x o cx co vs,li n cx,s)∧n=b) n
  (fun k a b hk ⟨s,vs,hO,ha,hb⟩=>by
   subst ha hb
   obtain ⟨bb,hbb⟩: ∃bb,s[k]? =some bb:=⟨_,gE (by rw [hO.sl]; exact hk)⟩
   cases bb with
   | true=>
    refine ⟨_,_,?_,?_,s,vs,hO.skip hk hbb,rfl,rfl⟩
    ·
     unfold F.qcy
     dsimp only
     rw [li_len,dT (show (k:Int)<(n:Int) by omega),kT,get_at rfl hbb,bB,kT,qak (by omega) (by omega),bB]
     rfl
    · exact if_pos hk
   | false=>
    obtain ⟨v,s',c',hw⟩:=Wk.exists (nx:=fun c=>cx (o c)) (n:=n) (fun c hc=>g.nxl hc) (s.countP fun b=>!b) s k hO.sl hk (Nat.le_refl _)
    have hadd:=hO.add (fun c hc=>g.nxl hc) g.nx_inj hk hbb hw
    have hvl:=hw.len.1
    rw [hO.sl] at hvl
    have hvn: ∀c∈v,c<n:=fun c hc=>hadd.lt c (by simp; exact .inr hc)
    have hwl:=g.ways_len hvn
    have hwv:=g.ways_vis hvn
    obtain ⟨lo0,lo1⟩:=lo_le (n:=n) (x:=x) (o:=o) (cx:=cx) (co:=co) vs
    have hvsl:=hO.vl
    have hMl:((allP (sgl n x o cx co) (csOf n x o cx co vs)).foldl setP M0).length=4*(sgl n x o cx co).length:=by rw [fold_len]; exact List.length_replicate ..
    have hca:=cs_add (n:=n) (x:=x) (o:=o) (cx:=cx) (co:=co) (sgl n x o cx co) vs v M0
    have hla:=lo_add (n:=n) (x:=x) (o:=o) (cx:=cx) (co:=co) vs v
    refine ⟨_,_,?_,?_,s',vs++[v],hadd,rfl,rfl⟩
    ·
     obtain ⟨y,y1,y2⟩:=g.gather hw m hm hk (by omega) (sgl n x o cx co) (by unfold pss; rw [List.length_map]; omega)
     have hj:=join_eq hwv hMl (by omega) m (by omega) (loOf n x o cx co vs) lo0 (by omega)
     unfold F.qcy
     dsimp only
     rw [li_len,dT (show (k:Int)<(n:Int) by omega),kT,get_at rfl hbb,bB,kF,y1,bB,y2,bB]
     dsimp only
     unfold pss
     rw [hj,bB,qak (by omega) (by omega),bB,hca,hla]
     rfl
    · exact if_pos hk)
  (fun a b ⟨s,vs,hO,ha,hb⟩=>by
   subst ha hb
   unfold F.qcy
   dsimp only
   rw [li_len,dF (show¬(n:Int)<(n:Int) by omega),kF]
   exact ⟨_,n,rfl,if_neg (by omega),s,vs,hO,rfl,rfl⟩) n 0 m (0,M0,0,li n cx,List.replicate n false) 0 (by omega) (by omega)
  ⟨List.replicate n false,[],⟨by simp,fun c hc=>by simp [List.getElem?_replicate,hc],by simp,by simp,fun c hc=>by omega,by simp,by simp,.zero⟩,rfl,rfl⟩
 obtain ⟨r1,r2,e1,e2,s,vs,hO,h1,h2⟩:=hmain
 subst h1 h2
 obtain ⟨r,v1,v2⟩:=gridValid (li n x) (li n o) m (by omega)
 have hv:=v2.2 g.vg
 refine ⟨s,vs,hO,?_⟩
 ·
  unfold F.qex
  rw [v1,bB,hv,Bool.not_true,kF,g.gridCrossings m (by omega),bB,List.length_map,dF (by omega),kF,g.segments hL m (by omega),bB,qak (by omega) (by omega),bB,pos_ok (by omega) (by omega),bB,
   linkInverse g.px (by omega) m (by omega),bB,li_len,pos_ok (by omega) (by omega),bB,Int.toNat_natCast,show (4*((crl n x o cx co).length:Int)).toNat=4*(sgl n x o cx co).length by rw [g.sgl_len]; omega]
  have e1':=e1
  unfold tabC tabR at e1'
  rw [e1',bB]
  rfl
