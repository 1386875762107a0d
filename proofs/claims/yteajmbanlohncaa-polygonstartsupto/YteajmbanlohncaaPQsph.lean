import Derived.Test.YteajmbanlohncaaPQeuler
set_option linter.unusedVariables false
set_option linter.unusedSimpArgs false
namespace Go.Proofs.Yteajmbanlohncaa
open Ev
namespace Pg
def iL (N:Nat) (f:Nat→Int):List Int:=(List.range N).map f
theorem iL_len (N:Nat) (f:Nat→Int):(iL N f).length=N:=by simp [iL]
theorem iL_get {N:Nat} {f:Nat→Int} {k:Nat} (h:k<N):(iL N f)[k]? =some (f k):=by
 unfold iL
 rw [List.getElem?_map,List.getElem?_range h]; rfl
theorem iL_set {N:Nat} {f:Nat→Int} {k:Nat} {v:Int}:(iL N f).set k v=iL N (fun j=>if j=k then v else f j):=by
 apply List.ext_getElem?
 intro j
 rw [List.getElem?_set]
 by_cases hj:j<N
 ·
  rw [iL_get hj,iL_get hj,iL_len]
  by_cases hk:k=j
  · subst hk; simp [hj]
  · rw [if_neg hk,if_neg (fun h=>hk h.symm)]
 ·
  rw [List.getElem?_eq_none (by rw [iL_len]; omega),List.getElem?_eq_none (by rw [iL_len]; omega),iL_len]
  split
  · rw [if_neg (by omega)]
  · rfl
theorem iL_congr {N:Nat} {f g:Nat→Int} (h: ∀k,k<N→f k=g k):iL N f=iL N g:=List.map_congr_left fun k hk=>h k (List.mem_range.1 hk)
theorem iL_rep (N:Nat) (v:Int):List.replicate N v=iL N (fun _=>v):=by
 apply List.ext_getElem?
 intro j
 rw [List.getElem?_replicate]
 by_cases hj:j<N
 · rw [iL_get hj,if_pos hj]
 · rw [List.getElem?_eq_none (by rw [iL_len]; omega),if_neg hj]
noncomputable def rp {adj:Nat→Nat→Prop} (hs: ∀a b,adj a b→adj b a) (c:Nat):Nat:=Classical.choose (rep_of hs c)
theorem rp_spec {adj:Nat→Nat→Prop} (hs: ∀a b,adj a b→adj b a) (c:Nat):rp hs c≤c∧Cn adj (rp hs c) c∧Rep adj (rp hs c):=Classical.choose_spec (rep_of hs c)
theorem rep_eq {adj:Nat→Nat→Prop} (hs: ∀a b,adj a b→adj b a) {r r':Nat} (h:Rep adj r) (h':Rep adj r') (hc:Cn adj r r'):r=r':=by
 rcases Nat.lt_trichotomy r r' with q | q | q
 · exact absurd hc (h' r q)
 · exact q
 · exact absurd (hc.symm hs) (h r' q)
noncomputable def lab {adj:Nat→Nat→Prop} (hs: ∀a b,adj a b→adj b a) (c:Nat):Int:=(cls (rp hs c) adj:Int)
theorem cls_mono {adj:Nat→Nat→Prop} {a b:Nat} (h:a≤b):cls a adj≤cls b adj:=by
 induction b with
 | zero=>
      obtain rfl:a=0:=by omega
      exact Nat.le_refl _
 | succ b ih=>
  rcases Nat.lt_or_ge a (b+1) with q | q
  ·
   have:=ih (by omega)
   by_cases hr:Rep adj b
   · rw [cls_succ_rep hr]; omega
   · rw [cls_succ_not hr]; exact this
  ·
   obtain rfl:a=b+1:=by omega
   exact Nat.le_refl _
theorem cls_rep_lt {adj:Nat→Nat→Prop} {r b:Nat} (h:Rep adj r) (hb:r<b):cls r adj<cls b adj:=by
 have:=cls_mono (adj:=adj) (show r+1≤b from hb)
 rw [cls_succ_rep h] at this
 omega
theorem lab_rep {adj:Nat→Nat→Prop} (hs: ∀a b,adj a b→adj b a) {r c:Nat} (h:Rep adj r):lab hs c=(cls r adj:Int)↔Cn adj r c:=by
 obtain ⟨_,h2,h3⟩:=rp_spec hs c
 unfold lab
 constructor
 ·
  intro e
  have e:cls (rp hs c) adj=cls r adj:=by omega
  have:rp hs c=r:=by
   rcases Nat.lt_trichotomy (rp hs c) r with q | q | q
   · have:=cls_rep_lt h3 q; omega
   · exact q
   · have:=cls_rep_lt h q; omega
  rw [←this]; exact h2
 ·
  intro q
  rw [rep_eq hs h h3 (q.trans (h2.symm hs))]
theorem lab_lt {adj:Nat→Nat→Prop} (hs: ∀a b,adj a b→adj b a) {c n:Nat} (hc:c<n):0≤lab hs c∧lab hs c<(cls n adj:Int):=by
 obtain ⟨h1,h2,h3⟩:=rp_spec hs c
 have:=cls_rep_lt (b:=n) h3 (by omega)
 unfold lab
 omega
theorem rep_at {adj:Nat→Nat→Prop} {p:Nat}: ∀{n:Nat},p<cls n adj→∃r,r<n∧Rep adj r∧cls r adj=p
 | 0,h=>by simp [cls,reps] at h
 | n+1,h=>by
  by_cases hr:Rep adj n
  ·
   rw [cls_succ_rep hr] at h
   rcases Nat.lt_or_ge p (cls n adj) with q | q
   ·
    obtain ⟨r,h1,h2⟩:=rep_at q
    exact ⟨r,by omega,h2⟩
   · exact ⟨n,by omega,hr,by omega⟩
  ·
   rw [cls_succ_not hr] at h
   obtain ⟨r,h1,h2⟩:=rep_at h
   exact ⟨r,by omega,h2⟩
def lbl (n:Nat) (o:Nat→Int) (v:Int) (S R:Nat→Bool):List Int:=iL n fun c=>if S c=true then o c else if R c=true then v else -1
theorem lbl_count {n:Nat} {o:Nat→Int} {v:Int} {S R:Nat→Bool} (ho: ∀c,0≤o c) (hv:0≤v) (hSR: ∀g,S g=true→R g=true):(lbl n o v S R).countP (fun x=>decide (x<0))=(bset n R).countP (fun b=>!b):=by
 unfold lbl iL bset
 rw [List.countP_map,List.countP_map]
 refine List.countP_congr fun c _=>?_
 show decide ((if S c=true then o c else if R c=true then v else -1)<0)=true↔(!R c)=true
 rw [decide_eq_true_iff]
 have:=ho c
 by_cases h1:S c=true
 · rw [if_pos h1,hSR c h1]; simp; omega
 ·
  rw [if_neg h1]
  by_cases h2:R c=true
  · rw [if_pos h2,h2]; simp; omega
  ·
   rw [if_neg h2]
   have:R c=false:=by simpa using h2
   rw [this]; simp
theorem lbl_add {n:Nat} {o:Nat→Int} {v:Int} {S R:Nat→Bool} {c:Nat} (hS: ¬S c=true):(lbl n o v S R).set c v=lbl n o v S (fun j=>decide (j=c) || R j):=by
 unfold lbl
 rw [iL_set]
 refine iL_congr fun j hj=>?_
 show (if j=c then v else (if S j=true then o j else if R j=true then v else -1))=(if S j=true then o j else if (decide (j=c) || R j)=true then v else -1)
 by_cases e:j=c
 · subst e; simp [hS]
 · simp [e]
theorem lbl_len (n:Nat) (o:Nat→Int) (v:Int) (S R:Nat→Bool):(lbl n o v S R).length=n:=iL_len _ _
theorem nbr_loop2 {n:Nat} {M:List Int} {μ:Nat→Nat} (hM:MT (4*n) M μ) (hn:n≤100) {c:Nat} (hc:c<n) (l:List Nat) (hl:l.length≤100000) (o:Nat→Int) (ho: ∀c,0≤o c) (v:Int) (hv:0≤v) (S R:Nat→Bool) (hSR: ∀g,S g=true→R g=true) (m:Nat) (hm:4<m) (m':Nat):
  loopN m (F.diagram_label_b3 m' M v (c:Int)) (castL l,0,lbl n o v S R)=some (castL (nbrs μ c (l,R) 4).1,((4:Nat):Int),lbl n o v S (nbrs μ c (l,R) 4).2):=by
 refine count_loop (fun k:Nat=>(castL (nbrs μ c (l,R) k).1,(k:Int),lbl n o v S (nbrs μ c (l,R) k).2)) 4 (fun k hk=>?_) ?_ m hm
 ·
  obtain ⟨new,h1,_,h3,_,_,h6⟩:=nbrs_spec hM hc l R k (by omega)
  have hlen:(nbrs μ c (l,R) k).1.length≤100004:=by rw [h1,List.length_append]; omega
  have hSR': ∀g,S g=true→(nbrs μ c (l,R) k).2 g=true:=fun g hg=>(h3 g).2 (.inl (hSR g hg))
  clear h1 h6 h3
  rw [nbrs_succ]
  generalize nbrs μ c (l,R) k=a at*
  have hmt:=hM.2 (4*c+k) (by omega)
  have hx:μ (4*c+k)/ 4<n:=by omega
  have ht:Int.tdiv ((μ (4*c+k):Nat):Int) 4=((μ (4*c+k)/ 4:Nat):Int):=Int.ofNat_tdiv _ 4
  unfold F.diagram_label_b3
  dsimp only
  have hget: ∀R',Ev.get (lbl n o v S R') ((μ (4*c+k)/ 4:Nat):Int)=some (if S (μ (4*c+k)/ 4)=true then o (μ (4*c+k)/ 4) else if R' (μ (4*c+k)/ 4)=true then v else -1):=fun R'=>by
   rw [get_nat]; exact iL_get hx
  rw [dT (by omega),kT,chk_ok (by omega) (by omega),bB,chk_ok (by omega) (by omega),bB,show 4*(c:Int)+(k:Int)=((4*c+k:Nat):Int) from by omega,get_nat,hmt.1,bB,nz_ok (by decide),bB,ht,chk_ok (by omega) (by omega),bB,hget,bB]
  unfold nbr
  cases hr:a.2 (μ (4*c+k)/ 4) with
  | true=>
   have hneg: ¬((if S (μ (4*c+k)/ 4)=true then o (μ (4*c+k)/ 4) else if true=true then v else -1)<0):=by
    have:=ho (μ (4*c+k)/ 4)
    split
    · omega
    · rw [if_pos rfl]; omega
   rw [dF hneg,kF,chk_ok (by omega) (by omega),bB,if_pos rfl]
   rfl
  | false=>
   have hSf: ¬S (μ (4*c+k)/ 4)=true:=fun h=>by rw [hSR' _ h] at hr; cases hr
   rw [if_neg hSf,if_neg (by simp),dT (by decide),kT,bB,lim_ok (by rw [castL_len]; simp; omega),bB,chk_ok (by omega) (by omega),bB,Int.toNat_natCast,if_neg (by simp)]
   dsimp only
   have e:(lbl n o v S a.2).set (μ (4*c+k)/ 4) v=lbl n o v S (fun j=>decide (j=μ (4*c+k)/ 4) || a.2 j):=lbl_add hSf
   rw [e]
   unfold castL
   rw [List.map_append]
   rfl
 ·
  unfold F.diagram_label_b3
  dsimp only
  rw [dF (by omega),kF]
open Classical in
theorem part_loop2 {n:Nat} {M:List Int} {μ:Nat→Nat} (hM:MT (4*n) M μ) (hn:n≤100) (o:Nat→Int) (ho: ∀c,0≤o c) (v:Int) (hv:0≤v) (S:Nat→Bool) (hS: ∀a b,S a=true→adjP n μ a b→S b=true) {c:Nat} (hc:c<n) (hx:S c=false) (m:Nat) (hm:300<m):
  loopN m (F.diagram_label_b2 m M v) ([(c:Int)],(lbl n o v S S).set c v)=some ([],lbl n o v S (fun g=>S g || decide (Cn (adjP n μ) c g))):=by
 have e0:(lbl n o v S S).set c v=lbl n o v S (fun g=>decide (g=c) || S g):=lbl_add (by rw [hx]; simp)
 rw [e0]
 obtain ⟨r,h1,h2⟩:=loop_spec (body:=F.diagram_label_b2 m M v)
  (fun s=> ∃(l:List Nat) (R:Nat→Bool),s=(castL l,lbl n o v S R)∧l.length+(bset n R).countP (fun b=>!b)≤1000∧(∀g,S g=true→R g=true)∧R c=true∧(∀g,R g=true→S g=true∨Cn (adjP n μ) c g)∧(∀x∈l,x<n∧R x=true∧Cn (adjP n μ) c x)∧(∀g,g<n→R g=true→S g=false→g∉l→∀d,adjP n μ g d→R d=true))
  (fun s=>s.1.length+2*s.2.countP (fun x=>decide (x<0)))
  (fun r=>r=([],lbl n o v S (fun g=>S g || decide (Cn (adjP n μ) c g))))
  (fun s hs=>by
   obtain ⟨l,R,rfl,hl,i1,i2,i3,i4,i5⟩:=hs
   cases l with
   | nil=>
    right
    unfold F.diagram_label_b2
    dsimp only
    rw [show castL []=[] from rfl,dF (by simp),kF]
    refine ⟨_,rfl,?_⟩
    congr 1
    unfold lbl
    refine iL_congr fun g hg=>?_
    have:R g=(S g || decide (Cn (adjP n μ) c g)):=by
     rw [←Bool.decide_coe (R g),←Bool.decide_coe (S g || decide (Cn (adjP n μ) c g))]
     refine decide_eq_decide.mpr ⟨fun h=>?_,fun h=>?_⟩
     ·
      rcases i3 g h with h | h
      · rw [h,Bool.true_or]
      · rw [dT h,Bool.or_true]
     ·
      rw [Bool.or_eq_true,decide_eq_true_iff] at h
      rcases h with h | h
      · exact i1 g h
      ·
       refine (Cn.closed (S:=fun g=>g<n∧R g=true∧S g=false) (fun a b ha hab=>?_) h ⟨hc,i2,hx⟩).2.1
       refine ⟨hab.2.1,i5 a ha.1 ha.2.1 ha.2.2 (by simp) b hab,?_⟩
       cases hb:S b with
       | false=>rfl
       | true=>
        have:=hS b a hb (adjP_symm hM a b hab)
        rw [ha.2.2] at this; cases this
    rw [this]
   | cons x q=>
    left
    have hxm:=i4 x List.mem_cons_self
    have hlq:q.length≤999:=by rw [List.length_cons] at hl; omega
    obtain ⟨new,n1,n2,n3,n4,n5,n6⟩:=nbrs_spec hM hxm.1 q R 4 (by omega)
    refine ⟨(castL (nbrs μ x (q,R) 4).1,lbl n o v S (nbrs μ x (q,R) 4).2),?_,⟨(nbrs μ x (q,R) 4).1,(nbrs μ x (q,R) 4).2,rfl,?_,?_,?_,?_,?_,?_⟩,?_⟩
    ·
     have e1:((castL (x::q)).length:Int)=(q.length:Int)+1:=by rw [castL_len]; simp
     have e2:Ev.get (castL (x::q)) 0=some (x:Int):=rfl
     have e3:(castL (x::q)).drop (1:Int).toNat=castL q:=rfl
     unfold F.diagram_label_b2
     dsimp only
     rw [e1,dT (by omega),kT,e2,bB,cut_ok (by omega) (by omega) (by rw [e1]; omega),bB,e3,nbr_loop2 hM hn hxm.1 q (by omega) o ho v hv S R i1 m (by omega),bB]
    ·
     rw [n1,List.length_append]
     rw [List.length_cons] at hl
     omega
    · exact fun g hg=>(n3 g).2 (.inl (i1 g hg))
    · exact (n3 c).2 (.inl i2)
    ·
     intro g hg
     rcases (n3 g).1 hg with h | h
     · exact i3 g h
     · exact .inr (.step hxm.2.2 (n2 g h).2.2)
    ·
     intro y hy
     rw [n1] at hy
     rcases List.mem_append.1 hy with hy | hy
     ·
      have:=i4 y (List.mem_cons_of_mem _ hy)
      exact ⟨this.1,(n3 y).2 (.inl this.2.1),this.2.2⟩
     · exact ⟨(n2 y hy).2.1,(n3 y).2 (.inr hy),.step hxm.2.2 (n2 y hy).2.2⟩
    ·
     intro g hg hR hSg hgl d hd
     rw [n1,List.mem_append,not_or] at hgl
     rcases (n3 g).1 hR with h | h
     ·
      by_cases hgx:g=x
      ·
       subst hgx
       obtain ⟨_,_,s,hs,rfl⟩:=hd
       exact n4 s hs
      ·
       refine (n3 d).2 (.inl (i5 g hg h hSg ?_ d hd))
       rw [List.mem_cons,not_or]
       exact ⟨hgx,hgl.1⟩
     · exact absurd h hgl.2
    ·
     dsimp only
     rw [lbl_count ho hv i1,lbl_count ho hv (fun g hg=>(n3 g).2 (.inl (i1 g hg))),castL_len,castL_len,n1,List.length_append,List.length_cons]
     omega)
  m ([(c:Int)],lbl n o v S (fun g=>decide (g=c) || S g)) ⟨[c],fun g=>decide (g=c) || S g,rfl,by have:=(bset n (fun g=>decide (g=c) || S g)).countP_le_length (p:=fun b=>!b); rw [bset_len] at this; simp only [List.length_singleton]; omega,fun g hg=>by show (decide (g=c) || S g)=true; rw [hg,Bool.or_true],by simp,fun g hg=>by
    rw [Bool.or_eq_true,decide_eq_true_iff] at hg
    rcases hg with rfl | hg
    · exact .inr (.refl _)
    · exact .inl hg,fun x hx=>by
    rw [List.mem_singleton] at hx
    subst hx
    exact ⟨hc,by simp,.refl _⟩,fun g hg hR hSg hgl=>by
    rw [Bool.or_eq_true,decide_eq_true_iff] at hR
    rcases hR with rfl | hR
    · exact absurd (List.mem_singleton_self _) hgl
    · rw [hSg] at hR; cases hR⟩ (by
   dsimp only
   have:=(lbl n o v S (fun g=>decide (g=c) || S g)).countP_le_length (p:=fun x=>decide (x<0))
   rw [lbl_len] at this
   simp only [List.length_singleton]
   omega)
 rw [h1,h2]
open Classical in
theorem label_eq {n:Nat} {M sg:List Int} {μ:Nat→Nat} (hM:MT (4*n) M μ) (hn:n≤64) (hsg:sg.length=n) (lo:Int) (m:Nat) (hm:300<m):
  F.diagram_label m sg M lo=some (iL n (lab (adjP_symm hM)),(cls n (adjP n μ):Int)):=by
 have hsl:((List.replicate (sg.length:Int).toNat (0:Int)).length:Int)=(n:Int):=by rw [List.length_replicate,hsg]; simp
 have hl0:loopN m (F.diagram_label_b0 m sg) (0,List.replicate (sg.length:Int).toNat (0:Int))=some ((n:Int),iL n (fun _=>-1)):=by
  have h0:((0:Int),List.replicate (sg.length:Int).toNat (0:Int))=(fun k:Nat=>((k:Int),iL n (fun c=>if c<k then -1 else 0))) 0:=by
   rw [hsg,Int.toNat_natCast,iL_rep]
   dsimp only
   congr 1
  rw [h0]
  refine count_loop (fun k:Nat=>((k:Int),iL n (fun c=>if c<k then -1 else 0))) n (fun k hk=>?_) ?_ m (by omega)
  ·
   unfold F.diagram_label_b0
   dsimp only
   rw [hsl,dT (by omega),kT,get_nat,iL_get hk,bB,chk_ok (by omega) (by omega),bB,Int.toNat_natCast,iL_set]
   rw [show ((k:Int)+1)=((k+1:Nat):Int) from by omega]
   congr 3
   refine iL_congr fun j hj=>?_
   by_cases e:j=k
   · subst e; rw [if_pos rfl,if_pos (by omega)]
   ·
    rw [if_neg e]
    by_cases h:j<k
    · rw [if_pos h,if_pos (by omega)]
    · rw [if_neg h,if_neg (by omega)]
  ·
   unfold F.diagram_label_b0
   dsimp only
   rw [hsl,dF (by omega),kF]
   congr 3
   refine iL_congr fun j hj=>by rw [if_pos hj]
 have hs:=adjP_symm hM
 have hl1:loopN m (F.diagram_label_b1 m sg M) (0,0,iL n (fun _=>-1))=some ((cls n (adjP n μ):Int),(n:Int),iL n (lab hs)):=by
  have h0:((0:Int),(0:Int),iL n (fun _=>-1))=(fun k:Nat=>((cls k (adjP n μ):Int),(k:Int),iL n (fun c=>if before (adjP n μ) k c=true then lab hs c else -1))) 0:=by
   dsimp only
   rw [before_zero]
   rfl
  have he:((cls n (adjP n μ):Int),(n:Int),iL n (lab hs))=(fun k:Nat=>((cls k (adjP n μ):Int),(k:Int),iL n (fun c=>if before (adjP n μ) k c=true then lab hs c else -1))) n:=by
   dsimp only
   congr 2
   refine iL_congr fun c hc=>?_
   obtain ⟨q1,q2,_⟩:=rp_spec hs c
   rw [if_pos]
   unfold before
   exact dT ⟨_,by omega,q2⟩
  rw [h0,he]
  refine count_loop (fun k:Nat=>((cls k (adjP n μ):Int),(k:Int),iL n (fun c=>if before (adjP n μ) k c=true then lab hs c else -1))) n (fun k hk=>?_) ?_ m (by omega)
  ·
   have hc:=cls_le k (adjP n μ)
   have hlo: ∀c,0≤lab hs c:=fun c=>by unfold lab; omega
   unfold F.diagram_label_b1
   dsimp only
   rw [hsl,dT (by omega),kT,get_nat,iL_get hk,bB]
   cases hb:before (adjP n μ) k k with
   | true=>
    have hr: ¬Rep (adjP n μ) k:=fun h=>by rw [before_rep.2 h] at hb; cases hb
    have:=hlo k
    rw [if_pos rfl,dT this,kT,chk_ok (by omega) (by omega),bB,before_same hs hb,cls_succ_not hr]
    rfl
   | false=>
    have hr:Rep (adjP n μ) k:=before_rep.1 hb
    have hpl:=part_loop2 hM (by omega) (lab hs) hlo (cls k (adjP n μ):Int) (by omega) (before (adjP n μ) k) (fun a b=>before_closed) hk hb m hm
    have e1:iL n (fun c=>if before (adjP n μ) k c=true then lab hs c else -1)=lbl n (lab hs) (cls k (adjP n μ):Int) (before (adjP n μ) k) (before (adjP n μ) k):=by
     unfold lbl
     refine iL_congr fun c _=>?_
     split
     · rfl
     · rfl
    rw [if_neg (by simp),dF (by decide),kF,bB,Int.toNat_natCast,e1,hpl,bB]
    dsimp only
    rw [chk_ok (by omega) (by omega),bB,chk_ok (by omega) (by omega),bB,cls_succ_rep hr,←before_next]
    have e2:lbl n (lab hs) (cls k (adjP n μ):Int) (before (adjP n μ) k) (before (adjP n μ) (k+1))=iL n (fun c=>if before (adjP n μ) (k+1) c=true then lab hs c else -1):=by
     unfold lbl
     refine iL_congr fun c _=>?_
     by_cases q:before (adjP n μ) k c=true
     · rw [if_pos q,if_pos (by rw [before_next]; dsimp only; rw [q,Bool.true_or])]
     ·
      rw [if_neg q]
      by_cases q2:before (adjP n μ) (k+1) c=true
      ·
       rw [if_pos q2,if_pos q2]
       have:Cn (adjP n μ) k c:=by
        rw [before_next] at q2
        have q3:(before (adjP n μ) k c || decide _)=true:=q2
        rw [Bool.or_eq_true,decide_eq_true_iff] at q3
        rcases q3 with q3 | q3
        · exact absurd q3 q
        · exact q3
       exact ((lab_rep hs hr).2 this).symm
      · rw [if_neg q2,if_neg q2]
    rw [e2]
    rfl
  ·
   unfold F.diagram_label_b1
   dsimp only
   rw [hsl,dF (by omega),kF]
 unfold F.diagram_label
 rw [pos_ok (by omega) (by omega),bB,hl0,bB]
 dsimp only
 rw [hl1,bB]
theorem sph_inner (m:Nat) (M:List Int):F.diagram_spherical_b2 m M=F.gauss_genus_b1 m M:=rfl
theorem spherical_true {n:Nat} {M sg:List Int} {μ:Nat→Nat} (hM:MT (4*n) M μ) (hg:gen2 n μ=0) (hn:n≤64) (hsg:sg.length=n) (lo:Int) (m:Nat) (hm:300<m):
  F.diagram_spherical m sg M lo=some true:=by
 have hs:=adjP_symm hM
 have hP:=cls_le n (adjP n μ)
 have hl:=hM.1
 unfold F.diagram_spherical
 rw [label_eq hM hn hsg lo m hm,bB]
 dsimp only
 rw [pos_ok (by omega) (by omega),bB,Int.toNat_natCast]
 have lb: ∀{c:Nat},c<n→∃p:Nat,lab hs c=(p:Int)∧p<cls n (adjP n μ):=fun {c} hc=>by
  have:=lab_lt hs hc
  exact ⟨(lab hs c).toNat,by omega,by omega⟩
 have h1:loopN m (F.diagram_spherical_b0 m (iL n (lab hs),(cls n (adjP n μ):Int))) (0,List.replicate (cls n (adjP n μ)) (0:Int))=some ((n:Int),iL (cls n (adjP n μ)) (fun p=>-(cnt n (fun c=>lab hs c=(p:Int)):Int))):=by
  have h0:((0:Int),List.replicate (cls n (adjP n μ)) (0:Int))=(fun k:Nat=>((k:Int),iL (cls n (adjP n μ)) (fun p=>-(cnt k (fun c=>lab hs c=(p:Int)):Int)))) 0:=by
   rw [iL_rep]; rfl
  rw [h0]
  refine count_loop (fun k:Nat=>((k:Int),iL (cls n (adjP n μ)) (fun p=>-(cnt k (fun c=>lab hs c=(p:Int)):Int)))) n (fun k hk=>?_) ?_ m (by omega)
  ·
   obtain ⟨q,hq1,hq2⟩:=lb hk
   have hb:=cnt_le k (fun c=>lab hs c=(q:Int))
   unfold F.diagram_spherical_b0
   dsimp only
   rw [iL_len,dT (by omega),kT,get_nat,iL_get hk,bB,hq1,get_nat,iL_get hq2,bB,chk_ok (by omega) (by omega),bB,bB,chk_ok (by omega) (by omega),bB,Int.toNat_natCast,iL_set]
   rw [show ((k:Int)+1)=((k+1:Nat):Int) from by omega]
   congr 3
   refine iL_congr fun p hp=>?_
   by_cases e:p=q
   ·
    subst e
    rw [if_pos rfl,cnt_succ_yes (p:=fun c=>lab hs c=(p:Int)) hq1]
    omega
   · rw [if_neg e,cnt_succ_no (p:=fun c=>lab hs c=(p:Int)) (fun h=>e (by rw [hq1] at h; omega))]
  ·
   unfold F.diagram_spherical_b0
   dsimp only
   rw [iL_len,dF (by omega),kF]
 rw [h1,bB]
 dsimp only
 rw [pos_ok (by omega) (by omega),bB]
 have h2:loopN m (F.diagram_spherical_b1 m M (iL n (lab hs),(cls n (adjP n μ):Int))) (0,iL (cls n (adjP n μ)) (fun p=>-(cnt n (fun c=>lab hs c=(p:Int)):Int)),List.replicate (M.length:Int).toNat false)=
   some (((4*n:Nat):Int),iL (cls n (adjP n μ)) (fun p=>-(cnt n (fun c=>lab hs c=(p:Int)):Int)+(cnt (4*n) (fun h=>lab hs (h/ 4)=(p:Int)∧Rep (adjF n μ) h):Int)),bset (4*n) (before (adjF n μ) (4*n))):=by
  have h0:((0:Int),iL (cls n (adjP n μ)) (fun p=>-(cnt n (fun c=>lab hs c=(p:Int)):Int)),List.replicate (M.length:Int).toNat false)=
    (fun k:Nat=>((k:Int),iL (cls n (adjP n μ)) (fun p=>-(cnt n (fun c=>lab hs c=(p:Int)):Int)+(cnt k (fun h=>lab hs (h/ 4)=(p:Int)∧Rep (adjF n μ) h):Int)),bset (4*n) (before (adjF n μ) k))) 0:=by
   rw [Int.toNat_natCast,bset_rep,hM.1]
   dsimp only
   rw [before_zero]
   congr 2
   refine iL_congr fun p _=>?_
   show _=_+((0:Nat):Int)
   omega
  rw [h0]
  refine count_loop (fun k:Nat=>((k:Int),iL (cls n (adjP n μ)) (fun p=>-(cnt n (fun c=>lab hs c=(p:Int)):Int)+(cnt k (fun h=>lab hs (h/ 4)=(p:Int)∧Rep (adjF n μ) h):Int)),bset (4*n) (before (adjF n μ) k))) (4*n) (fun k hk=>?_) ?_ m (by omega)
  ·
   obtain ⟨q,hq1,hq2⟩:=lb (show k/ 4<n by omega)
   have hb1:=cnt_le n (fun c=>lab hs c=(q:Int))
   have hb2:=cnt_le k (fun h=>lab hs (h/ 4)=(q:Int)∧Rep (adjF n μ) h)
   have ht:Int.tdiv ((k:Nat):Int) 4=((k/ 4:Nat):Int):=Int.ofNat_tdiv _ 4
   unfold F.diagram_spherical_b1
   dsimp only
   rw [dT (by omega),kT,get_nat,bset_get hk,bB]
   cases hbf:before (adjF n μ) k k with
   | true=>
    have hr: ¬Rep (adjF n μ) k:=fun h=>by rw [before_rep.2 h] at hbf; cases hbf
    rw [kT,chk_ok (by omega) (by omega),bB,before_same adjF_symm hbf]
    rw [show ((k:Int)+1)=((k+1:Nat):Int) from by omega]
    congr 4
    refine iL_congr fun p _=>?_
    rw [cnt_succ_no (p:=fun h=>lab hs (h/ 4)=(p:Int)∧Rep (adjF n μ) h) (fun h=>hr h.2)]
   | false=>
    have hr:Rep (adjF n μ) k:=before_rep.1 hbf
    obtain ⟨v,hv⟩:=face_loop hM (by omega) (before (adjF n μ) k) (fun a b=>before_closed) hk hbf m (by omega) m
    rw [kF,nz_ok (by decide),bB,ht,chk_ok (by omega) (by omega),bB,get_nat,iL_get (show k/ 4<n by omega),bB,hq1,get_nat,iL_get hq2,bB,chk_ok (by omega) (by omega),bB,bB,sph_inner,hv,bB]
    dsimp only
    rw [chk_ok (by omega) (by omega),bB,←before_next,Int.toNat_natCast,iL_set]
    rw [show ((k:Int)+1)=((k+1:Nat):Int) from by omega]
    congr 4
    refine iL_congr fun p hp=>?_
    by_cases e:p=q
    ·
     subst e
     rw [if_pos rfl,cnt_succ_yes (p:=fun h=>lab hs (h/ 4)=(p:Int)∧Rep (adjF n μ) h) ⟨hq1,hr⟩]
     omega
    · rw [if_neg e,cnt_succ_no (p:=fun h=>lab hs (h/ 4)=(p:Int)∧Rep (adjF n μ) h) (fun h=>e (by have:=h.1; rw [hq1] at this; omega))]
  ·
   unfold F.diagram_spherical_b1
   dsimp only
   rw [dF (by omega),kF]
 rw [h2,bB]
 dsimp only
 have two: ∀p,p<cls n (adjP n μ)→-(cnt n (fun c=>lab hs c=(p:Int)):Int)+(cnt (4*n) (fun h=>lab hs (h/ 4)=(p:Int)∧Rep (adjF n μ) h):Int)=2:=by
  intro p hp
  obtain ⟨r,hr1,hr2,hr3⟩:=rep_at hp
  have:=sphere hM hg (S:=fun c=>lab hs c=(p:Int)) hr1 (fun c hc=>by rw [←hr3]; exact lab_rep hs hr2)
  omega
 have h3:=scan_loop (body:=F.diagram_spherical_b3 m (iL n (lab hs),(cls n (adjP n μ):Int)) (iL (cls n (adjP n μ)) (fun p=>-(cnt n (fun c=>lab hs c=(p:Int)):Int)+(cnt (4*n) (fun h=>lab hs (h/ 4)=(p:Int)∧Rep (adjF n μ) h):Int)))) (fun k=>(k:Int)) (cls n (adjP n μ)) (fun k=>(none:Option Bool)) (e:=(cls n (adjP n μ):Int)) (fun k hk=>by
  unfold F.diagram_spherical_b3
  dsimp only
  rw [List.length_replicate,Int.toNat_natCast,dT (by omega),kT,get_nat,iL_get hk,bB,two k hk,dT rfl,Bool.not_true,kF,chk_ok (by omega) (by omega),bB]
  rfl) (by
  unfold F.diagram_spherical_b3
  dsimp only
  rw [List.length_replicate,Int.toNat_natCast,dF (by omega),kF]) m (by omega)
 rw [show (0:Int)=(fun k:Nat=>(k:Int)) 0 from rfl,h3,findSome_none (fun _ _=>rfl)]
 rfl
def Outg (sg:List Int) (h:Nat):Prop:=h%4=2∨(h%4=1∧sg.getD (h/ 4) 0=1)∨(h%4=3∧sg.getD (h/ 4) 0=-1)
instance (sg:List Int) (h:Nat):Decidable (Outg sg h):=by unfold Outg; infer_instance
theorem outg_eq {sg:List Int} {h:Nat} (hh:h<4*sg.length) (hs:sg.length≤64) (M:List Int) (lo:Int) (m:Nat):F.diagram_outgoing m sg M lo (h:Int)=some (decide (Outg sg h)):=by
 have e1:Int.tmod (h:Int) 4=((h%4:Nat):Int):=Int.ofNat_tmod h 4
 have e2:Int.tdiv (h:Int) 4=((h/ 4:Nat):Int):=Int.ofNat_tdiv h 4
 have hl:h/ 4<sg.length:=by omega
 have hO:Outg sg h↔h%4=2∨(h%4=1∧sg[h/ 4]=1)∨(h%4=3∧sg[h/ 4]=-1):=by unfold Outg; rw [getD_of' hl]
 unfold F.diagram_outgoing
 rw [nz_ok (by decide),bB,e1,e2]
 by_cases c1:h%4=1
 ·
  rw [dT (by omega),kT,bB,chk_ok (by omega) (by omega),bB,get_nat,gE hl,bB]
  refine congrArg some (decide_eq_decide.mpr ?_)
  rw [hO]
  omega
 rw [dF (by omega),kF]
 by_cases c2:h%4=2
 ·
  rw [dT (by omega),kT]
  exact congrArg some (dT (hO.2 (.inl c2))).symm
 rw [dF (by omega),kF]
 by_cases c3:h%4=3
 ·
  rw [dT (by omega),kT,bB,chk_ok (by omega) (by omega),bB,get_nat,gE hl,bB]
  refine congrArg some (decide_eq_decide.mpr ?_)
  rw [hO]
  omega
 ·
  rw [dF (by omega),kF]
  exact congrArg some (dF (fun h=>by have:=hO.1 h; omega)).symm
theorem outg_out {sg:List Int} {v:Vis} (h0:0≤v.1) (h1:v.1<(sg.length:Int)) (hs: ∀s∈sg,s=1∨s=-1):Outg sg (outH sg v):=by
 have hv:=hs _ (List.getElem_mem (show v.1.toNat<sg.length by omega))
 unfold Outg outH
 rw [getD_of' (show v.1.toNat<sg.length by omega)]
 split
 ·
  split
  · rw [show (4*v.1.toNat+1)/ 4=v.1.toNat from by omega,getD_of' (show v.1.toNat<sg.length by omega)]; omega
  · rw [show (4*v.1.toNat+3)/ 4=v.1.toNat from by omega,getD_of' (show v.1.toNat<sg.length by omega)]; omega
 · omega
theorem outg_in {sg:List Int} {v:Vis} (h0:0≤v.1) (h1:v.1<(sg.length:Int)) (hs: ∀s∈sg,s=1∨s=-1): ¬Outg sg (inH sg v):=by
 have hv:=hs _ (List.getElem_mem (show v.1.toNat<sg.length by omega))
 unfold Outg inH
 rw [getD_of' (show v.1.toNat<sg.length by omega)]
 split
 ·
  split
  · rw [show (4*v.1.toNat+3)/ 4=v.1.toNat from by omega,getD_of' (show v.1.toNat<sg.length by omega)]; omega
  · rw [show (4*v.1.toNat+1)/ 4=v.1.toNat from by omega,getD_of' (show v.1.toNat<sg.length by omega)]; omega
 · omega
structure DV (sg M:List Int) (lo:Int) (μ:Nat→Nat):Prop where
 n:sg.length≤64
 lo0:0≤lo
 lo1:lo≤64
 sgn: ∀s∈sg,s=1∨s=-1
 mt:MT (4*sg.length) M μ
 out: ∀h,h<4*sg.length→(Outg sg (μ h)↔¬Outg sg h)
 g0:gen2 sg.length μ=0
theorem dvalid_true {sg M:List Int} {lo:Int} {μ:Nat→Nat} (D:DV sg M lo μ) (m:Nat) (hm:300<m):F.diagram_Valid m sg M lo=some true:=by
 have h64:=D.n
 have hl:=D.mt.1
 have h1:=D.lo0
 have h2:=D.lo1
 have hsg:loopN m (F.diagram_Valid_b0 m sg) 0=some (.inl (sg.length:Int)):=by
  have:=gv_signs sg m (by omega) h64
  rw [if_pos D.sgn] at this
  exact this
 have hb1:=scan_loop (body:=F.diagram_Valid_b1 m sg M lo) (fun k=>(k:Int)) (4*sg.length) (fun k=>(none:Option Bool)) (e:=((4*sg.length:Nat):Int)) (fun k hk=>by
  obtain ⟨q1,q2,q3,q4⟩:=D.mt.2 k hk
  obtain ⟨r1,_⟩:=D.mt.2 _ q2
  have ho:=D.out k hk
  unfold F.diagram_Valid_b1
  dsimp only
  rw [dT (by omega),kT,get_nat,q1,bB,dF (by omega),kF,chk_ok (by omega) (by omega),bB,dF (by omega),kF,dF (by omega),kF,get_nat,r1,bB,q3,dT rfl,Bool.not_true,kF,outg_eq hk h64,bB,outg_eq q2 h64,bB]
  have:(decide (Outg sg k) == decide (Outg sg (μ k)))=false:=by
   by_cases c:Outg sg k
   ·
    have: ¬Outg sg (μ k):=fun h=>ho.1 h c
    simp [c,this]
   ·
    have:Outg sg (μ k):=ho.2 c
    simp [c,this]
  rw [this,kF,chk_ok (by omega) (by omega),bB]
  rfl) (by
  unfold F.diagram_Valid_b1
  dsimp only
  rw [dF (by omega),kF]) m (by omega)
 unfold F.diagram_Valid
 rw [dF (by omega),kF,chk_ok (by omega) (by omega),bB,dT (by omega),Bool.not_true,kF,dF (by omega),kF,dF (by omega),kF,hsg,bB]
 dsimp only
 rw [show (0:Int)=(fun k:Nat=>(k:Int)) 0 from rfl,hb1,findSome_none (fun _ _=>rfl),bB]
 dsimp only
 rw [spherical_true D.mt D.g0 h64 rfl lo m hm,bB]
theorem GV.dv {cs:List (List Vis)} {sg:List Int} {lo:Int} (h:GV cs sg lo) (hg:Int.tdiv (gen2 sg.length (muS sg cs)) 2=0):DV sg (mtS sg cs) lo (muS sg cs):=by
 have hr:=h.2.2.2.2.2.1
 refine ⟨h.1,h.2.1,h.2.2.1,h.2.2.2.1,h.mt,fun k hk=>?_,gen2_zero h.mt hg⟩
 have ends: ∀p∈allP sg cs,Outg sg p.1∧¬Outg sg p.2:=by
  intro p hp
  constructor
  ·
   have:p.1∈(allP sg cs).map (·.1):=List.mem_map.2 ⟨p,hp,rfl⟩
   rw [allP_out] at this
   obtain ⟨v,hv,e⟩:=List.mem_map.1 this
   rw [←e]
   exact outg_out (hr v hv).1 (hr v hv).2 h.2.2.2.1
  ·
   have:p.2∈(allP sg cs).map (·.2):=List.mem_map.2 ⟨p,hp,rfl⟩
   rw [(allP_in sg cs).mem_iff] at this
   obtain ⟨v,hv,e⟩:=List.mem_map.1 this
   rw [←e]
   exact outg_in (hr v hv).1 (hr v hv).2 h.2.2.2.1
 rcases h.pairs.2.2.2.2.2 k hk with hx | hx
 ·
  obtain ⟨⟨a,b⟩,hp,rfl⟩:=List.mem_map.1 hx
  obtain ⟨_,_,q3,_⟩:=muS_pair h hp
  have:=ends _ hp
  dsimp only at this⊢
  rw [q3]
  exact ⟨fun q=>absurd q this.2,fun q=>absurd this.1 q⟩
 ·
  obtain ⟨⟨a,b⟩,hp,rfl⟩:=List.mem_map.1 hx
  obtain ⟨_,_,_,q4,_⟩:=muS_pair h hp
  have:=ends _ hp
  dsimp only at this⊢
  rw [q4]
  exact ⟨fun _=>this.2,fun _=>this.1⟩
end Pg
end Go.Proofs.Yteajmbanlohncaa
