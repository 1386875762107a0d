import Derived.Test.YtpnppjlnfhlmpaaGreatCells
import Derived.Shelf.SlSortCmp.NoneTotal
set_option linter.all false
namespace Go.Proofs.YtpnppjlnfhlmpaaGreat
namespace Ev
open Go.RowKit Go.Shelf Go.Sort
def sortIdx (n:Nat) (lt:Fin (n+1)→Fin (n+1)→Bool):Array (Fin (n+1)):=pdq lt (Array.ofFn fun i=>i) 0 (n+1) (Lib.bitLen (n+1)) true true
def sortL {α:Type} (cf:α→α→Int) (xs:List α):List α:=
  match h:xs.length with
  | 0=>[]
  | k+1=>(sortIdx k fun p q=>decide (cf (xs[p.1]'(by omega)) (xs[q.1]'(by omega))<0)).toList.map fun p=>xs[p.1]'(by omega)
def swoL {α:Type} (cf:α→α→Int) (xs:List α):Bool:=
  xs.all fun x=>(!decide (cf x x<0))&&xs.all fun y=>xs.all fun z=>(!(decide (cf x y<0)&&decide (cf y z<0)) || decide (cf x z<0))&&(decide (cf x y<0) || decide (cf y z<0) || !decide (cf x z<0))
theorem swoL_swo {α:Type} {cf:α→α→Int} {xs:List α} (h:swoL cf xs=true) {k:Nat} (hk:xs.length=k+1):SWO (ltOf fun p q:Fin (k+1)=>cf (xs[p.1]'(by omega)) (xs[q.1]'(by omega))):=by
  have hx:=List.all_eq_true.1 h
  have m: ∀p:Fin (k+1),xs[p.1]'(by omega)∈xs:=fun p=>List.getElem_mem _
  refine ⟨fun p=>?_,fun p q r h1 h2=>?_,fun p q r h1 h2=>?_⟩
  · have:=hx _ (m p)
    rw [Bool.and_eq_true] at this
    simpa [ltOf] using this.1
  · have h3:=hx _ (m p)
    rw [Bool.and_eq_true] at h3
    have h4:=List.all_eq_true.1 (List.all_eq_true.1 h3.2 _ (m q)) _ (m r)
    unfold ltOf at h1 h2⊢
    rw [h1,h2] at h4
    simpa using h4
  · have h3:=hx _ (m p)
    rw [Bool.and_eq_true] at h3
    have h4:=List.all_eq_true.1 (List.all_eq_true.1 h3.2 _ (m q)) _ (m r)
    unfold ltOf at h1 h2⊢
    rw [h1,h2] at h4
    simpa using h4
theorem grow_of_fr {w w':World} (h:Fr (fun _=>False) w w'): ∃q os,w'=grow (w.drewN q) os:=by
  refine ⟨w'.drawn-w.drawn,w'.heap.extract w.heap.size w'.heap.size,?_⟩
  have h1:w'.heap=w.heap++w'.heap.extract w.heap.size w'.heap.size:=by
    apply Array.ext_getElem?
    intro i
    rcases Nat.lt_or_ge i w.heap.size with hi | hi
    · rw [Array.getElem?_append_left hi,h.block i hi id]
    · rw [Array.getElem?_append_right hi,Array.getElem?_extract]
      by_cases h2:i<w'.heap.size
      · rw [if_pos (by omega),show w.heap.size+(i-w.heap.size)=i by omega]
      · rw [if_neg (by have:=h.size; omega),Array.getElem?_eq_none (by omega)]
  have h2:=h.os
  have h3:=h.tape
  have h4:=h.output
  have h5:=h.drawn
  cases w with
  | mk hp tp dr os ou=>
    cases w' with
    | mk hp' tp' dr' os' ou'=>
      simp only [grow,World.drewN] at*
      subst h2 h3 h4
      rw [←h1]
      congr 1
      omega
section
variable {I : Nat → Prop} {O0 : List Nat} {w0 w w' : World} {L : List Fact}
theorem Cx.sort1 {P:Program} {ρ:Ren} (Y:SlLaysF.n6 P ρ) (h:Cx I O0 w0 w L) {i:Nat} {e:TypeId} {s:Sh} (hn:s.n=1) {A:Option Addr} {m c:Nat} {xs:List s.T} (hi:L[i]? =some (.own e s (.slice A m c) xs)) {g:Nat} {cb:Array Value}
    (eg: ∀args w,(callFunc g args).run P w=.ok (.enter g args) w) (cf:s.T→s.T→Int) (hsw:swoL cf xs=true) (hlen:xs.length≤1099511627776)
    (hcmp: ∀(W:World) (x y:s.T) (u v:Value),x∈xs→y∈xs→Fr (fun b=>blkOf (.slice A m c)=some b) w W→Rep (O0++blocks L) W s [u] x→Rep (O0++blocks L) W s [v] y→Calls P g (#[u,v]++cb) W fun r W'=>r=.returned (.int .i64 (cf x y))∧Fr (fun _=>False) W W'):
    Calls P (ρ.f 6) #[.slice A m c,.func (.func g) #[] cb] w fun r w'=> ∃v,r=.returned v∧v=.tuple #[]∧Cx I O0 w0 w' (L.set i (.own e s (.slice A m c) (sortL cf xs)))∧Fr (fun b=>blkOf (.slice A m c)=some b) w w':=by
  have hown:Own (O0++blocks L) w e s (.slice A m c) xs (blkOf (.slice A m c)):=h.ow hi
  have hG: ∀k,blkOf (.slice A m c)=some k→k∈O0++blocks L:=fun k hk=>List.mem_append_right _ (blk_in hi k hk)
  obtain ⟨hm,hmc,hc⟩:=hown.qad
  match hk:xs.length with
  | 0=>
    obtain rfl:=List.eq_nil_of_length_eq_zero hk
    have hm0:m=0:=hm
    subst hm0
    refine (AnyF.slices_SortFunc_none { Y with } A c (.func (.func g) #[] cb) w).mono fun r w' hr=>?_
    have e2:L.set i (.own e s (.slice A 0 c) (sortL cf ([]:List s.T)))=L:=by
      obtain ⟨hlt,hge⟩:=List.getElem?_eq_some_iff.1 hi
      have:sortL cf ([]:List s.T)=[]:=by unfold sortL; rfl
      rw [this,←hge]; exact List.set_getElem_self hlt
    rw [e2]
    obtain ⟨he,hw⟩:=hr
    subst hw
    exact ⟨_,he,rfl,h,Fr.refl _ _⟩
  | k+1=>
    obtain ⟨cs,h1,h2⟩:=hown
    rcases h1.2 with ⟨_,h00,_⟩ | ⟨G,o,cap,cur,hv,hg,hb,hn1,hc1,hsz,ht⟩
    · omega
    injection hv with e1 e2 e3
    subst e1 e2 e3
    rw [hn,Nat.mul_one] at hsz ht
    have hcl:cs.length=xs.length:=by rw [h2.1,hn,Nat.mul_one]
    have hcell: ∀p:Nat,(hp:p<xs.length)→Rep (O0++blocks L) w s [cs[p]'(by omega)] (xs[p]'hp):=fun p hp=>by
      have:=h2.2 p _ (List.getElem?_eq_getElem hp)
      rw [hn,Nat.mul_one] at this
      have e4:(cs.drop p).take 1=[cs[p]'(by omega)]:=by
        rw [←List.getElem_cons_drop (show p<cs.length by omega)]; rfl
      rwa [e4] at this
    have hcur: ∀p:Nat,(hp:p<xs.length)→cur[o+p]? =some (cs[p]'(by omega)):=fun p hp=>by
      have:((cur.toList.drop o).take xs.length)[p]? =cs[p]? :=by rw [ht]
      rw [List.getElem?_take_of_lt hp,List.getElem?_drop] at this
      rw [←List.getElem?_eq_getElem (show p<cs.length by omega),←this]; simp
    let enc:Fin (k+1)→Value:=fun p=>cs[p.1]'(by omega)
    have h1c:OneCell enc:=fun p=>(hcell p.1 (by omega)).one _ (List.mem_singleton.2 rfl)
    have hH:Holds enc w G o (Array.ofFn fun p:Fin (k+1)=>p):=fun j hj=>by
      have hj':j<k+1:=by simpa using hj
      refine ⟨?_,frozen_of_row hb⟩
      have hy:(Array.ofFn fun p:Fin (k+1)=>p)[j]! =⟨j,hj'⟩:=by rw [getElem!_pos (Array.ofFn fun p:Fin (k+1)=>p) j hj]; simp
      rw [cell_of_row hb,hy,hcur j (by omega)]
    have hsize:(Array.ofFn fun p:Fin (k+1)=>p).size=k+1:=by simp
    have frS: ∀(q:Nat) (dk:Array (Fin (k+1))) (os:Array Obj),Fr (fun b=>blkOf (.slice (some ⟨G,o,none⟩) xs.length c)=some b) w (sortWorld enc w G o q dk os):=fun q dk os=>by
      refine ⟨rfl,rfl,rfl,by simp [sortWorld,grow,putRow,mapBlock,Sort.ahead],fun b hb' hn'=>?_,Nat.le_add_right _ _⟩
      have hgk:G≠b:=fun h=>hn' (by rw [←h]; rfl)
      simp only [sortWorld,grow,putRow,mapBlock,Sort.ahead]
      rw [Array.getElem?_append_left (by simpa using hb'),Array.getElem?_modify,if_neg hgk]
    have hC:CmpLays1 P g cb enc (fun p q:Fin (k+1)=>cf (xs[p.1]'(by omega)) (xs[q.1]'(by omega))) G o (Array.ofFn fun p:Fin (k+1)=>p).size w:=by
      intro q os dk hds x y
      have hf:=frS q dk os
      refine (hcmp _ (xs[x.1]'(by omega)) (xs[y.1]'(by omega)) (enc x) (enc y) (List.getElem_mem _) (List.getElem_mem _) hf ?_ ?_).mono fun r W' ⟨hr,hw⟩=>⟨hr,grow_of_fr hw⟩
      · exact Rep.fr hf (fun b hb'=>hG b hb') (hcell x.1 (by omega))
      · exact Rep.fr hf (fun b hb'=>hG b hb') (hcell y.1 (by omega))
    have hr:=Any.slices_SortFunc_eq Y enc h1c (fun p q:Fin (k+1)=>cf (xs[p.1]'(by omega)) (xs[q.1]'(by omega))) (swoL_swo hsw hk) g cb G o c (Array.ofFn fun p:Fin (k+1)=>p) w eg hC hH (own_lt hb) (by rw [hsize]; omega)
    rw [hsize] at hr
    have em:#[Value.slice (some ⟨G,o,none⟩) xs.length c,.func (.func g) #[] cb]=#[Value.slice (some ⟨G,o,none⟩) (k+1) c,.func (.func g) #[] cb]:=by rw [hk]
    rw [em]
    refine hr.mono fun r w' ⟨he,q,os,hw'⟩=>?_
    obtain ⟨⟨p1,_,_⟩,_⟩:=pdq_sorts _ (swoL_swo hsw hk) (Array.ofFn fun i=>i) 0 (k+1) (Lib.bitLen (k+1)) true true (Nat.zero_le _) (by simp) (Or.inl rfl)
    have hsl:sortL cf xs=(sortIdx k fun p q=>decide (cf (xs[p.1]'(by omega)) (xs[q.1]'(by omega))<0)).toList.map fun p=>xs[p.1]'(by omega):=by
      unfold sortL
      split
      · omega
      · rename_i k' hk'
        obtain rfl:k'=k:=by omega
        rfl
    have hidx:pdq (ltOf fun p q:Fin (k+1)=>cf (xs[p.1]'(by omega)) (xs[q.1]'(by omega))) (Array.ofFn fun p:Fin (k+1)=>p) 0 (k+1) (Lib.bitLen (k+1)) true true=sortIdx k fun p q=>decide (cf (xs[p.1]'(by omega)) (xs[q.1]'(by omega))<0):=rfl
    rw [hidx] at hw' p1
    generalize (sortIdx k fun p q=>decide (cf (xs[p.1]'(by omega)) (xs[q.1]'(by omega))<0))=D at hw' p1 hsl
    rw [hsize] at p1
    have hf:Fr (fun b=>blkOf (.slice (some ⟨G,o,none⟩) xs.length c)=some b) w w':=by rw [hw']; exact frS q D os
    have hlenS:(sortL cf xs).length=xs.length:=by rw [hsl,List.length_map,Array.length_toList,p1,hk]
    refine ⟨_,he,rfl,h.turn hi hf (.inl rfl) fun O hO=>?_,hf⟩
    have hheap:w'.heap[G]? =some (.cells (putCells enc o D cur) e (0,0)):=by
      rw [hw']
      simp only [sortWorld,grow,putRow,mapBlock,Sort.ahead]
      rw [Array.getElem?_append_left (by simpa using own_lt hb),Array.getElem?_modify,if_pos rfl,hb]
      rfl
    show Own O w' e s _ _ (some G)
    refine ⟨D.toList.map enc,⟨by rw [List.length_map,Array.length_toList,p1,hlenS,hn,hk]; omega,.inr ⟨G,o,c,_,by rw [hlenS],rfl,hheap,by omega,hc,by rw [hn]; simpa [putCells] using hsz,?_⟩⟩,?_,fun p x hx=>?_⟩
    · rw [hlenS,hn,Nat.mul_one]
      apply List.ext_getElem?
      intro p
      rcases Nat.lt_or_ge p xs.length with hp | hp
      · have hpD:p<D.size:=by omega
        rw [List.getElem?_take_of_lt hp,List.getElem?_drop,List.getElem?_map,Array.getElem?_toList,Array.getElem?_toList,Array.getElem?_eq_getElem (xs:=D) hpD]
        simp only [putCells,Array.getElem?_mapIdx]
        have hoc:o+p<cur.size:=by omega
        rw [Array.getElem?_eq_getElem hoc]
        simp only [Option.map_some]
        rw [if_pos (by omega),show o+p-o=p by omega,getElem!_pos D p hpD]
      · rw [List.getElem?_eq_none (by rw [List.length_take]; omega),List.getElem?_eq_none (by rw [List.length_map,Array.length_toList,p1]; omega)]
    · rw [List.length_map,Array.length_toList,p1,hlenS,hn,hk]; omega
    · rw [hsl,List.getElem?_map,Array.getElem?_toList] at hx
      obtain ⟨q0,hq1,hq2⟩:=Option.map_eq_some_iff.1 hx
      subst hq2
      rw [hn,Nat.mul_one]
      have e4:((D.toList.map enc).drop p).take 1=[enc q0]:=by
        have hl:p<(D.toList.map enc).length:=by
          have:=(Array.getElem?_eq_some_iff.1 hq1).1
          rw [List.length_map,Array.length_toList]; exact this
        rw [←List.getElem_cons_drop hl]
        have:(D.toList.map enc)[p]=enc q0:=by
          have h9:(D.toList.map enc)[p]? =some (enc q0):=by rw [List.getElem?_map,Array.getElem?_toList,hq1]; rfl
          rw [List.getElem?_eq_getElem hl] at h9
          exact Option.some.inj h9
        rw [this]; rfl
      rw [e4]
      exact Rep.step hf (fun b hb'=>hG b hb') hO (hcell q0.1 (by omega))
