import Derived.Test.YtkjpldmelafooaaSort
set_option linter.all false
namespace Go.Proofs.Ytkjpldmelafooaa
namespace Ev
open Go.RowKit Go.Shelf Go.Sort
theorem div_mod_of {N p q:Nat} (hq:q<N):(p*N+q)/ N=p∧(p*N+q)%N=q:=by
  have h0:0<N:=by omega
  have h1:(p*N+q)/ N=p:=(blk_iff N p (p*N+q) h0).1 ⟨by omega,by omega⟩
  refine ⟨h1,?_⟩
  have:=Nat.div_add_mod (p*N+q) N
  rw [h1,Nat.mul_comm] at this
  omega
theorem flatK_chunk {α:Type} [Inhabited α] {enc:α→List Value} {N:Nat} (hk: ∀x,(enc x).length=N) (D:Array α) {p:Nat} (hp:p<D.size):((flatK enc N D).toList.drop (p*N)).take N=enc D[p]! :=by
  have hin:p*N+N≤D.size*N:=by
    have:=Nat.mul_le_mul_right N (show p+1≤D.size by omega)
    rwa [Nat.succ_mul] at this
  apply List.ext_getElem?
  intro q
  rcases Nat.lt_or_ge q N with hq | hq
  · obtain ⟨h1,h2⟩:=div_mod_of (p:=p) hq
    have hl:p*N+q<(flatK enc N D).size:=by rw [size_flatK]; omega
    have:=get_flatK enc N D (p*N+q) (by omega)
    rw [h1,h2,getElem!_pos (flatK enc N D) (p*N+q) hl,getElem!_pos (enc D[p]!) q (by rw [hk]; exact hq)] at this
    rw [List.getElem?_take_of_lt hq,List.getElem?_drop,Array.getElem?_toList,Array.getElem?_eq_getElem hl,this,List.getElem?_eq_getElem (by rw [hk]; exact hq)]
  · rw [List.getElem?_eq_none (by rw [List.length_take]; omega),List.getElem?_eq_none (by rw [hk]; omega)]
section
variable {I : Nat → Prop} {O0 : List Nat} {w0 w w' : World} {L : List Fact}
theorem Cx.sortK {P:Program} {ρ:Ren} (Y:SlLaysF0.n6 P ρ) (h:Cx I O0 w0 w L) {i:Nat} {e:TypeId} {s:Sh} (aE: ∀w,(isAgg (ρ.t 24)).run P w=.ok true w) (zE: ∀w,(Go.sizeOf (ρ.t 24)).run P w=.ok s.n w) {A:Option Addr} {m c:Nat} {xs:List s.T} (hi:L[i]? =some (.own e s (.slice A m c) xs)) {g:Nat} {cb:Array Value}
    (eg: ∀args w,(callFunc g args).run P w=.ok (.enter g args) w) (cf:s.T→s.T→Int) (hsw:swoL cf xs=true) (hlen:xs.length≤1099511627776)
    (hcmp: ∀(W:World) (x y:s.T) (u v:List Value),x∈xs→y∈xs→Fr (fun b=>blkOf (.slice A m c)=some b) w W→Rep (O0++blocks L) W s u x→Rep (O0++blocks L) W s v y→Calls P g (#[.agg u.toArray,.agg v.toArray]++cb) W fun r W'=>r=.returned (.int .i64 (cf x y))∧Fr (fun _=>False) W W'):
    Calls P (ρ.f 6) #[.slice A m c,.func (.func g) #[] cb] w fun r w'=> ∃v,r=.returned v∧v=.tuple #[]∧Cx I O0 w0 w' (L.set i (.own e s (.slice A m c) (sortL cf xs)))∧Fr (fun b=>blkOf (.slice A m c)=some b) w w':=by
  have hown:Own (O0++blocks L) w e s (.slice A m c) xs (blkOf (.slice A m c)):=h.ow hi
  have hG: ∀k,blkOf (.slice A m c)=some k→k∈O0++blocks L:=fun k hk=>List.mem_append_right _ (blk_in hi k hk)
  have hN0:0<s.n:=s.n_pos
  obtain ⟨hm,hmc,hc⟩:=hown.qah
  match hk:xs.length with
  | 0=>
    obtain rfl:=List.eq_nil_of_length_eq_zero hk
    have hm0:m=0:=hm
    subst hm0
    refine (AnyF.slices_SortFunc_none Y A c (.func (.func g) #[] cb) w).mono fun r w' hr=>?_
    have e2:L.set i (.own e s (.slice A 0 c) (sortL cf ([]:List s.T)))=L:=by
      obtain ⟨hlt,hge⟩:=List.getElem?_eq_some_iff.1 hi
      have:sortL cf ([]:List s.T)=[]:=by unfold sortL; rfl
      rw [this,←hge]; exact List.set_getElem_self hlt
    rw [e2]
    obtain ⟨he,hw⟩:=hr
    subst hw
    exact ⟨_,he,rfl,h,Fr.refl _ _⟩
  | k+1=>
    obtain ⟨cs,h1,h2⟩:=hown
    rcases h1.2 with ⟨_,h00,_⟩ | ⟨G,o,cap,cur,hv,hg,hb,hn1,hc1,hsz,ht⟩
    · omega
    injection hv with e1 e2 e3
    subst e1 e2 e3
    have hcl:cs.length=xs.length*s.n:=h2.1
    have hk':xs.length=k+1:=hk
    have hin: ∀p,p<xs.length→p*s.n+s.n≤xs.length*s.n:=fun p hp=>by
      have:=Nat.mul_le_mul_right s.n (show p+1≤xs.length by omega)
      rwa [Nat.succ_mul] at this
    have hcapn:xs.length*s.n≤c*s.n:=Nat.mul_le_mul_right s.n hn1
    have hcur: ∀p:Nat,p<xs.length*s.n→cur[o+p]? =cs[p]? :=fun p hp=>by
      have:((cur.toList.drop o).take (xs.length*s.n))[p]? =cs[p]? :=by rw [ht]
      rw [List.getElem?_take_of_lt hp,List.getElem?_drop] at this
      rw [←this]; simp
    let enc:Fin (k+1)→List Value:=fun p=>(cs.drop (p.1*s.n)).take s.n
    have hcell: ∀p:Fin (k+1),Rep (O0++blocks L) w s (enc p) (xs[p.1]'(by omega)):=fun p=>h2.2 p.1 _ (List.getElem?_eq_getElem (by omega))
    have hkl: ∀p,(enc p).length=s.n:=fun p=>(hcell p).len
    have h1c: ∀p,∀v∈enc p,v.oneCell'=true:=fun p=>(hcell p).one
    have hsize:(Array.ofFn fun p:Fin (k+1)=>p).size=k+1:=by simp
    have hH:HoldsK enc s.n w G o (Array.ofFn fun p:Fin (k+1)=>p):=fun j hj=>by
      rw [size_flatK,hsize,←hk'] at hj
      refine ⟨?_,frozen_of_row hb⟩
      have hdm:=Nat.div_add_mod j s.n
      have hmod:=Nat.mod_lt j hN0
      have hdiv:j/ s.n<k+1:=by
        rw [←hk']; exact (Nat.div_lt_iff_lt_mul hN0).2 hj
      have hf:=get_flatK enc s.n (Array.ofFn fun p:Fin (k+1)=>p) j (by rw [hsize,←hk']; exact hj)
      have hy:(Array.ofFn fun p:Fin (k+1)=>p)[j/ s.n]! =⟨j/ s.n,hdiv⟩:=by rw [getElem!_pos (Array.ofFn fun p:Fin (k+1)=>p) (j/ s.n) (by rw [hsize]; exact hdiv)]; simp
      rw [hf,hy,getElem!_pos (enc ⟨j/ s.n,hdiv⟩) (j%s.n) (by rw [hkl]; exact hmod),cell_of_row hb,hcur j hj]
      show cs[j]? =some (((cs.drop (j/ s.n*s.n)).take s.n)[j%s.n]'_)
      rw [←List.getElem?_eq_getElem,List.getElem?_take_of_lt hmod,List.getElem?_drop]
      congr 1
      rw [Nat.mul_comm]; exact hdm.symm
    have frS: ∀(q:Nat) (dk:Array (Fin (k+1))) (os:Array Obj),Fr (fun b=>blkOf (.slice (some ⟨G,o,none⟩) xs.length c)=some b) w (sortWorldK enc s.n w G o q dk os):=fun q dk os=>by
      refine ⟨rfl,rfl,rfl,by simp [sortWorldK,putRowK,grow,putRow,mapBlock,Sort.ahead],fun b hb' hn'=>?_,Nat.le_add_right _ _⟩
      have hgk:G≠b:=fun h=>hn' (by rw [←h]; rfl)
      simp only [sortWorldK,putRowK,grow,putRow,mapBlock,Sort.ahead]
      rw [Array.getElem?_append_left (by simpa using hb'),Array.getElem?_modify,if_neg hgk]
    have hC:CmpLays P g cb enc s.n (fun p q:Fin (k+1)=>cf (xs[p.1]'(by omega)) (xs[q.1]'(by omega))) G o (Array.ofFn fun p:Fin (k+1)=>p).size w:=by
      intro q os dk hds x y
      have hf:=frS q dk os
      refine (hcmp _ (xs[x.1]'(by omega)) (xs[y.1]'(by omega)) (enc x) (enc y) (List.getElem_mem _) (List.getElem_mem _) hf ?_ ?_).mono fun r W' ⟨hr,hw⟩=>⟨hr,grow_of_fr hw⟩
      · exact Rep.fr hf (fun b hb'=>hG b hb') (hcell x)
      · exact Rep.fr hf (fun b hb'=>hG b hb') (hcell y)
    have hr:=AnyQ.slices_SortFunc_eq Y s.n aE zE enc hkl h1c (fun p q:Fin (k+1)=>cf (xs[p.1]'(by omega)) (xs[q.1]'(by omega))) (swoL_swo hsw hk) g cb G o c (Array.ofFn fun p:Fin (k+1)=>p) w eg hC hH (own_lt hb) (by rw [hsize]; omega)
    rw [hsize] at hr
    have em:#[Value.slice (some ⟨G,o,none⟩) xs.length c,.func (.func g) #[] cb]=#[Value.slice (some ⟨G,o,none⟩) (k+1) c,.func (.func g) #[] cb]:=by rw [hk]
    rw [em]
    refine hr.mono fun r w' ⟨he,q,os,hw'⟩=>?_
    obtain ⟨⟨p1,_,_⟩,_⟩:=pdq_sorts _ (swoL_swo hsw hk) (Array.ofFn fun i=>i) 0 (k+1) (Lib.bitLen (k+1)) true true (Nat.zero_le _) (by simp) (Or.inl rfl)
    have hsl:sortL cf xs=(sortIdx k fun p q=>decide (cf (xs[p.1]'(by omega)) (xs[q.1]'(by omega))<0)).toList.map fun p=>xs[p.1]'(by omega):=by
      unfold sortL
      split
      · omega
      · rename_i k' hk'
        obtain rfl:k'=k:=by omega
        rfl
    have hidx:pdq (ltOf fun p q:Fin (k+1)=>cf (xs[p.1]'(by omega)) (xs[q.1]'(by omega))) (Array.ofFn fun p:Fin (k+1)=>p) 0 (k+1) (Lib.bitLen (k+1)) true true=sortIdx k fun p q=>decide (cf (xs[p.1]'(by omega)) (xs[q.1]'(by omega))<0):=rfl
    rw [hidx] at hw' p1
    generalize (sortIdx k fun p q=>decide (cf (xs[p.1]'(by omega)) (xs[q.1]'(by omega))<0))=D at hw' p1 hsl
    rw [hsize] at p1
    have hf:Fr (fun b=>blkOf (.slice (some ⟨G,o,none⟩) xs.length c)=some b) w w':=by rw [hw']; exact frS q D os
    have hlenS:(sortL cf xs).length=xs.length:=by rw [hsl,List.length_map,Array.length_toList,p1,hk]
    have hDn:D.size*s.n=xs.length*s.n:=by rw [p1,hk]
    refine ⟨_,he,rfl,h.turn hi hf (.inl rfl) fun O hO=>?_,hf⟩
    have hheap:w'.heap[G]? =some (.cells (putCells id o (flatK enc s.n D) cur) e (0,0)):=by
      rw [hw']
      simp only [sortWorldK,putRowK,grow,putRow,mapBlock,Sort.ahead]
      rw [Array.getElem?_append_left (by simpa using own_lt hb),Array.getElem?_modify,if_pos rfl,hb]
      rfl
    show Own O w' e s _ _ (some G)
    refine ⟨(flatK enc s.n D).toList,⟨by rw [Array.length_toList,size_flatK,hDn,hlenS],.inr ⟨G,o,c,_,by rw [hlenS],rfl,hheap,by omega,hc,by simpa [putCells] using hsz,?_⟩⟩,?_,fun p x hx=>?_⟩
    · rw [hlenS]
      apply List.ext_getElem?
      intro p
      rcases Nat.lt_or_ge p (xs.length*s.n) with hp | hp
      · have hpD:p<(flatK enc s.n D).size:=by rw [size_flatK,hDn]; exact hp
        rw [List.getElem?_take_of_lt hp,List.getElem?_drop,Array.getElem?_toList,Array.getElem?_toList,Array.getElem?_eq_getElem (xs:=flatK enc s.n D) hpD]
        simp only [putCells,Array.getElem?_mapIdx]
        have hoc:o+p<cur.size:=by omega
        rw [Array.getElem?_eq_getElem hoc]
        simp only [Option.map_some]
        rw [if_pos (by omega),show o+p-o=p by omega,getElem!_pos (flatK enc s.n D) p hpD]
        rfl
      · rw [List.getElem?_eq_none (by rw [List.length_take]; omega),List.getElem?_eq_none (by rw [Array.length_toList,size_flatK,hDn]; omega)]
    · rw [Array.length_toList,size_flatK,hDn,hlenS]
    · rw [hsl,List.getElem?_map,Array.getElem?_toList] at hx
      obtain ⟨q0,hq1,hq2⟩:=Option.map_eq_some_iff.1 hx
      subst hq2
      have hpD:p<D.size:=(Array.getElem?_eq_some_iff.1 hq1).1
      have hq0:D[p]! =q0:=by
        rw [getElem!_pos D p hpD]
        rw [Array.getElem?_eq_getElem hpD] at hq1
        exact Option.some.inj hq1
      rw [flatK_chunk hkl D hpD,hq0]
      exact Rep.step hf (fun b hb'=>hG b hb') hO (hcell q0)
theorem Fr.same {S:Nat→Prop} (h:Fr S w w') (hs: ∀k,S k→k<w.heap.size→w'.heap[k]? =w.heap[k]?):Fr (fun _=>False) w w':=
  ⟨h.os,h.tape,h.output,h.size,fun i hi _=>by
    by_cases hS:S i
    · exact hs i hS hi
    · exact h.block i hi hS,h.drawn⟩
def isBox:Fact→Bool
  | .box .. =>true
  | _=>false
theorem sortKB {P:Program} {ρ:Ren} (Y:SlLaysF0.n6 P ρ) (hO: ∀k∈O0,k<w.heap.size) {e:TypeId} {s:Sh} (hfl:s.flat=true) (aE: ∀w,(isAgg (ρ.t 24)).run P w=.ok true w) (zE: ∀w,(Go.sizeOf (ρ.t 24)).run P w=.ok s.n w) {A:Option Addr} {m c:Nat} {xs:List s.T} {B:List Fact} (hB:B.all isBox=true)
    (hio:Tk O0 w (.own e s (.slice A m c) xs::B)) {g:Nat} {cb:Array Value} (eg: ∀args w,(callFunc g args).run P w=.ok (.enter g args) w) (cf:s.T→s.T→Int) (hsw:swoL cf xs=true) (hlen:xs.length≤1099511627776)
    (hcmp: ∀(W:World) (x y:s.T) (u v:List Value),x∈xs→y∈xs→Rep O0 W s u x→Rep O0 W s v y→Tk O0 W B→(∀{s':Sh} {cs:List Value} {z:s'.T},Rep O0 w s' cs z→Rep O0 W s' cs z)→(∀k∈O0,k<W.heap.size)→
      Calls P g (#[.agg u.toArray,.agg v.toArray]++cb) W fun r W'=> ∃q,r=.returned q∧q=.int .i64 (cf x y)∧Cx (fun k=>k∈blocks B) O0 W W' B):
    Calls P (ρ.f 6) #[.slice A m c,.func (.func g) #[] cb] w fun r w'=> ∃v,r=.returned v∧v=.tuple #[]∧Cx (fun k=>k∈blocks (.own e s (.slice A m c) xs::B)) O0 w w' (.own e s (.slice A m c) (sortL cf xs)::B):=by
  have hC:=Cx.startTk hO hio
  have hrow: ∀k,blkOf (.slice A m c)=some k→k∈O0:=fun k hk=>hio.2.2 k (List.mem_filterMap.2 ⟨_,List.mem_cons_self,hk⟩)
  refine (hC.sortK Y aE zE (i:=0) rfl eg cf hsw hlen ?_).mono ?_
  · intro W x y u v hx hy hf hu hv
    have hTk:Tk O0 W B:=by
      refine ⟨fun f hfm=>?_,?_,fun k hk=>hio.2.2 k ?_⟩
      · have hb:=List.all_eq_true.1 hB f hfm
        cases f with
        | box gb t cs=>
          have h1:Blk w gb t cs:=hio.1 _ (List.mem_cons_of_mem _ hfm)
          refine h1.fr hf fun hS=>?_
          obtain ⟨j,hj⟩:=List.mem_iff_getElem?.1 hfm
          exact nd_other hio.2.1 (i:=0) (j:=j+1) rfl (by simpa using hj) (by omega) hS rfl
        | ro=>cases hb
        | own=>cases hb
        | obj=>cases hb
        | rbox=>cases hb
        | mp=>cases hb
      · have:=hio.2.1
        unfold blocks at this⊢
        rw [List.filterMap_cons] at this
        split at this
        · exact this
        · exact (List.nodup_cons.1 this).2
      · obtain ⟨f,h1,h2⟩:=List.mem_filterMap.1 hk
        exact List.mem_filterMap.2 ⟨f,List.mem_cons_of_mem _ h1,h2⟩
    refine (hcmp W x y u v hx hy (Rep.flat hfl hu) (Rep.flat hfl hv) hTk (fun h=>Rep.fr hf hrow h) (fun k hk=>Nat.lt_of_lt_of_le (hO k hk) hf.size)).mono ?_
    rintro r W' ⟨q,rfl,rfl,hK⟩
    refine ⟨rfl,hK.fr.same fun k hk hkl=>?_⟩
    obtain ⟨f,h1,h2⟩:=List.mem_filterMap.1 hk
    have hb:=List.all_eq_true.1 hB f h1
    cases f with
    | box gb t cs=>
      have a1:Blk W gb t cs:=hTk.1 _ h1
      have a2:Blk W' gb t cs:=hK.all _ h1
      have:gb=k:=Option.some.inj h2
      subst this
      exact a2.trans a1.symm
    | ro=>cases hb
    | own=>cases hb
    | obj=>cases hb
    | rbox=>cases hb
    | mp=>cases hb
  · rintro r w' ⟨v,rfl,rfl,hK,-⟩
    exact ⟨_,rfl,rfl,hK⟩
