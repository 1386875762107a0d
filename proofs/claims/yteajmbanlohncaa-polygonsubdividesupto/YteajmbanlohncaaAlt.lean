import Derived.Test.YteajmbanlohncaaEv
set_option linter.unusedVariables false
namespace Go.Proofs.Yteajmbanlohncaa
namespace Ev
section
variable {P : Program} {ops : Array Oper} {C : Frm} {K : Act → World → Prop}
def pairX (S:List Nat) (ops:Array Oper) (p:Nat) (ms:List Nat) (i x:Nat):Bool:=(x == p&&i == p+1) || match ops[x]?,ops[i]? with | some ox,some oi=>pairB S ops (ms.getD i 0) ox oi x | _,_=>true
def effX (S:List Nat) (ops:Array Oper) (p:Nat) (ms:List Nat) (i:Nat):Bool:=i == p || i == p+1 || !effB S ops i || ((ms.getD i 0).testBit p&&(ms.getD i 0).testBit (p+1))
def altB (S:List Nat) (ops:Array Oper) (p:Nat):Bool:=decide (p+1<ops.size)&&(ops.all noSel&&backB ops)&&((List.range ops.size).all fun i=>(List.range i).all fun x=>pairX S ops p (masks ops.toList []) i x)&&((List.range ops.size).all fun i=>effX S ops p (masks ops.toList []) i)
theorem altB_pair {S:List Nat} {p:Nat} (h:altB S ops p=true) {x i:Nat} {ox oi:Oper} (hx:ops[x]? =some ox) (hi:ops[i]? =some oi) (hlt:x<i) (hn: ¬(x=p∧i=p+1)):Waits ops i x∨(ox.apart ops oi=true∧okPair (kdS S ox) (kdS S oi)=true):=by
 simp only [altB,Bool.and_eq_true] at h
 have h1:=List.all_eq_true.1 h.1.2 i (List.mem_range.2 (Array.getElem?_eq_some_iff.1 hi).1)
 have h2:=List.all_eq_true.1 h1 x (List.mem_range.2 hlt)
 unfold pairX at h2
 rw [hx,hi] at h2
 simp only [pairB,Bool.or_eq_true,Bool.and_eq_true,beq_iff_eq] at h2
 rcases h2 with h2 | h2 | h2
 · exact absurd h2 hn
 · exact .inl (masks_sound ops.toList [] rfl (fun i x h=>by simp at h) i x h2)
 · exact .inr h2
theorem altB_eff {S:List Nat} {p:Nat} (h:altB S ops p=true) {i:Nat} {oi:Oper} (hi:ops[i]? =some oi) (h1:i≠p) (h2:i≠p+1) (he:isEff (kdS S oi)=true):Waits ops i p:=by
 simp only [altB,Bool.and_eq_true] at h
 have h3:=List.all_eq_true.1 h.2 i (List.mem_range.2 (Array.getElem?_eq_some_iff.1 hi).1)
 unfold effX effB at h3
 rw [hi] at h3
 simp only [he,Bool.or_eq_true,beq_iff_eq,Bool.and_eq_true,Bool.not_true,Bool.false_eq_true,or_false] at h3
 rcases h3 with (h3 | h3) | h3
 · exact absurd h3 h1
 · exact absurd h3 h2
 · exact masks_sound ops.toList [] rfl (fun i x h=>by simp at h) i p h3.1
theorem mix_frontG {listed:Array Bool} (hc:Closed ops listed) (hsel:ops.all noSel=true) {i:Nat} {oi:Oper} (hi:ops[i]? =some oi)
  (hready: ∀e∈oi.after,Region.binds .any e=true→listed.getD e.on false=true) (L2:List Nat):
  ∀(L1:List Nat),(∀x∈L1,listed.getD x false=false∧∃ox,ops[x]? =some ox∧(Waits ops i x∨(ox.apart ops oi=true∧okPair (kdS C.S ox) (kdS C.S oi)=true)))→∀(a:Act) (w:World),mix P ops C K (opsAt ops (L1++i::L2)) a w→
   one P ops C oi (mix P ops C K (opsAt ops (L1++L2))) a w
 | [],_,a,w,h=>by simpa [opsAt,hi,mix] using h
 | x::L1,hx,a,w,h=>by
  obtain ⟨hl,ox,hox,h0⟩:=hx x (by simp)
  have hp:ox.apart ops oi=true∧okPair (kdS C.S ox) (kdS C.S oi)=true:=by
   rcases h0 with h1 | h1
   ·
    have:=waits_listed hc h1 fun o ho e he hb=>by rw [hi] at ho; injection ho with ho; subst ho; exact hready e he hb
    rw [hl] at this; cases this
   · exact h1
  have sel: ∀(j:Nat) (o:Oper),ops[j]? =some o→∀cs b,o.op≠.select cs b:=fun j o ho cs b he=>by
   have hjl:=(Array.getElem?_eq_some_iff.1 ho).1
   have:=Array.all_eq_true.1 hsel j hjl
   rw [(Array.getElem?_eq_some_iff.1 ho).2] at this
   simp [noSel,he] at this
  have e1:opsAt ops (x::L1++i::L2)=ox::opsAt ops (L1++i::L2):=by simp [opsAt,hox]
  have e2:opsAt ops (x::L1++L2)=ox::opsAt ops (L1++L2):=by simp [opsAt,hox]
  rw [e1] at h
  rw [e2]
  simp only [mix] at h⊢
  refine one_swap (sel x ox hox) (sel i oi hi) hp.1 hp.2 (one_mono (fun a w hh=>?_) h)
  exact mix_frontG hc hsel hi hready L2 L1 (fun y hy=>hx y (by simp [hy])) a w hh
def pendR (listed:Array Bool) (s n:Nat):List Nat:=(List.range' s n).filter fun i=>!listed.getD i true
theorem pendR_cut {listed:Array Bool} {s n i:Nat} (h1:s≤i) (h2:i<s+n) (hl:listed.getD i true=false) (hs:i<listed.size):
  ∃L1 L2,pendR listed s n=L1++i::L2∧pendR (listed.setIfInBounds i true) s n=L1++L2∧∀x∈L1,x<i∧s≤x∧listed.getD x true=false:=by
 obtain ⟨m,rfl⟩: ∃m,n=(i-s)+(m+1):=⟨n-(i-s)-1,by omega⟩
 have hcut:List.range' s ((i-s)+(m+1))=List.range' s (i-s)++i::List.range' (i+1) m:=by
  rw [←List.range'_append_1,List.range'_succ,show s+(i-s)=i by omega]
 refine ⟨(List.range' s (i-s)).filter fun i=>!listed.getD i true,(List.range' (i+1) m).filter fun i=>!listed.getD i true,?_,?_,?_⟩
 ·
  unfold pendR
  rw [hcut,List.filter_append,List.filter_cons,if_pos (by simp [hl])]
 ·
  unfold pendR
  rw [hcut,List.filter_append,List.filter_cons]
  have hi:(listed.setIfInBounds i true).getD i true=true:=by simp [hs]
  rw [if_neg (by simp [hi])]
  congr 1
  ·
   refine List.filter_congr fun x hx=>?_
   rw [getD_set_ne true (by have:=(List.mem_range'_1.1 hx).2; omega)]
  ·
   refine List.filter_congr fun x hx=>?_
   rw [getD_set_ne true (by have:=(List.mem_range'_1.1 hx).1; omega)]
 ·
  intro x hx
  obtain ⟨h3,h4⟩:=List.mem_filter.1 hx
  have:=List.mem_range'_1.1 h3
  refine ⟨by omega,by omega,?_⟩
  cases hq:listed.getD x true with
  | false=>rfl
  | true=>rw [hq] at h4; cases h4
theorem pendR_out {listed:Array Bool} {s n i:Nat} (h:i<s∨s+n≤i):pendR (listed.setIfInBounds i true) s n=pendR listed s n:=by
 unfold pendR
 refine List.filter_congr fun x hx=>?_
 have:=List.mem_range'_1.1 hx
 rw [getD_set_ne true (by omega)]
theorem pendR_one1 {listed:Array Bool} {s:Nat} (h:listed.getD s true=false):pendR listed s 1=[s]:=by
 show ([s].filter fun i=>!listed.getD i true)=[s]
 rw [List.filter_cons,if_pos (by rw [h]; rfl)]; rfl
theorem pendR_one0 {listed:Array Bool} {s:Nat} (h:listed.getD s true=true):pendR listed s 1=[]:=by
 show ([s].filter fun i=>!listed.getD i true)=[]
 rw [List.filter_cons,if_neg (by rw [h]; simp)]; rfl
theorem pend_all {listed:Array Bool}:pend ops listed=pendR listed 0 ops.size:=by
 unfold pend pendR
 rw [List.range_eq_range']
theorem pend_pq {listed:Array Bool} {p:Nat} (hp:p+1<ops.size) (h1:listed.getD p true=false) (h2:listed.getD (p+1) true=false):pend ops listed=pendR listed 0 p++p::(p+1)::pendR listed (p+2) (ops.size-(p+2)):=by
 rw [pend_all]
 unfold pendR
 have:List.range' 0 ops.size=List.range' 0 p++p::(p+1)::List.range' (p+2) (ops.size-(p+2)):=by
  have e:ops.size=p+(1+(1+(ops.size-(p+2)))):=by omega
  conv=>lhs; rw [e]
  rw [←List.range'_append_1,Nat.add_comm 1 (1+_),Nat.add_comm 1 (ops.size-(p+2)),List.range'_succ,List.range'_succ]
  simp
 rw [this,List.filter_append,List.filter_cons,List.filter_cons,if_pos (by simp [h1]),if_pos (by simp [h2])]
theorem unl {listed:Array Bool} {x:Nat} (h:listed.getD x true=false):listed.getD x false=false∧x<listed.size:=by
 by_cases hx:x<listed.size
 · simp [hx] at h⊢; exact h
 · simp [hx] at h
theorem any_of_one {r:Option Nat} {n:Nat} {p:Nat} (hB:altB C.S ops p=true) {Q:Exit→Act→World→Prop} (hQ: ∀a w,K a w→Q .normal a w): ∀(fuel:Nat) (listed:Array Bool),listed.size=ops.size→Closed ops listed→¬(listed.getD p true=false∧listed.getD (p+1) true=false)→
  (pend ops listed).length≤fuel→∀(a:Act) (w:World),mix P ops C K (opsAt ops (pend ops listed)) a w→wpAnyIn (wF r) n P .any ops Q fuel listed a w:=by
 have hB':=hB
 simp only [altB,Bool.and_eq_true] at hB'
 have emp: ∀(listed:Array Bool),listed.size=ops.size→Region.ready .any ops listed=[]→pend ops listed=[]:=by
  intro listed hs hr
  refine List.filter_eq_nil_iff.2 fun i hi=>?_
  have hlt:i<ops.size:=by simpa using hi
  cases hl:listed.getD i true with
  | true=>simp
  | false=>exact absurd hr (some_ready hB'.1.1.2.2 hs i hlt hl)
 intro fuel
 induction fuel with
 | zero=>
  intro listed hs hc hpq hlen a w h
  have h0:pend ops listed=[]:=List.eq_nil_of_length_eq_zero (by omega)
  refine ⟨?_,?_⟩
  ·
   refine List.eq_nil_iff_forall_not_mem.2 fun i hi=>?_
   obtain ⟨hl,o,ho,_⟩:=mem_ready.1 hi
   have:i∈pend ops listed:=List.mem_filter.2 ⟨by simpa using (Array.getElem?_eq_some_iff.1 ho).1,by simp [hl]⟩
   rw [h0] at this; cases this
  · rw [h0] at h; exact hQ _ _ h
 | succ fuel ih=>
  intro listed hs hc hpq hlen a w h
  refine ⟨fun hr=>?_,fun i hi=>?_⟩
  · rw [emp listed hs hr] at h; exact hQ _ _ h
  ·
   obtain ⟨hl,o,ho,hready⟩:=mem_ready.1 hi
   have hlt:=(Array.getElem?_eq_some_iff.1 ho).1
   obtain ⟨L1,L2,e1,e2,hL1⟩:=pend_cut (ops:=ops) hlt hl hs
   rw [e1] at h hlen
   refine wpOp_of_one (C:=C) (noSel_defer (by have:=Array.all_eq_true.1 hB'.1.1.2.1 i hlt; rwa [(Array.getElem?_eq_some_iff.1 ho).2] at this)) ho (one_mono (fun a' w' hh=>?_) (mix_frontG hc hB'.1.1.2.1 ho hready L2 L1 (fun x hx=>?_) a w h))
   ·
    refine ih _ (by simpa using hs) (closed_set hc ho hready) (fun ⟨q1,q2⟩=>hpq ?_) ?_ a' w' (by rw [e2]; exact hh)
    ·
     by_cases ep:i=p
     ·
      subst ep
      simp [hs,hlt] at q1
     ·
      by_cases eq:i=p+1
      ·
       subst eq
       simp [hs,hlt] at q2
      ·
       rw [getD_set_ne true (fun e=>ep e)] at q1
       rw [getD_set_ne true (fun e=>eq e)] at q2
       exact ⟨q1,q2⟩
    · rw [e2]; have:=pend_len (L1:=L1) (L2:=L2) (i:=i); omega
   ·
    obtain ⟨hxi,hxl⟩:=hL1 x hx
    obtain ⟨ox,hox⟩: ∃o,ops[x]? =some o:=⟨ops[x],Array.getElem?_eq_getElem (by omega)⟩
    refine ⟨hxl,ox,hox,altB_pair hB hox ho hxi fun ⟨e1,e2⟩=>hpq ?_⟩
    have hxs:x<listed.size:=by omega
    subst e1 e2
    refine ⟨?_,hl⟩
    simp [hxs] at hxl⊢
    exact hxl
theorem any_of_alt {r:Option Nat} {n:Nat} {p:Nat} (hB:altB C.S ops p=true) {Q:Exit→Act→World→Prop} (hQ: ∀a w,K a w→Q .normal a w): ∀(fuel:Nat) (listed:Array Bool),listed.size=ops.size→Closed ops listed→listed.getD p true=false→listed.getD (p+1) true=false→
  (pend ops listed).length≤fuel→∀(a:Act) (w:World),mix P ops C K (opsAt ops (pendR listed 0 p++p::(p+1)::pendR listed (p+2) (ops.size-(p+2)))) a w→mix P ops C K (opsAt ops (pendR listed 0 p++(p+1)::p::pendR listed (p+2) (ops.size-(p+2)))) a w→wpAnyIn (wF r) n P .any ops Q fuel listed a w:=by
 have hB':=hB
 simp only [altB,Bool.and_eq_true,decide_eq_true_eq] at hB'
 have hpn:=hB'.1.1.1
 have hsel:=hB'.1.1.2.1
 intro fuel
 induction fuel with
 | zero=>
  intro listed hs hc h1 h2 hlen
  rw [pend_pq hpn h1 h2] at hlen
  simp at hlen
 | succ fuel ih=>
  intro listed hs hc h1 h2 hlen a w m1 m2
  have hpend:=pend_pq hpn h1 h2
  refine ⟨fun hr=>absurd hr (some_ready hB'.1.1.2.2 hs p (by omega) h1),fun i hi=>?_⟩
  obtain ⟨hl,o,ho,hready⟩:=mem_ready.1 hi
  have hlt:=(Array.getElem?_eq_some_iff.1 ho).1
  obtain ⟨L1,L2,e1,e2,hL1⟩:=pend_cut (ops:=ops) hlt hl hs
  have hlen':(pend ops (listed.setIfInBounds i true)).length≤fuel:=by
   rw [e1] at hlen
   rw [e2]; have:=pend_len (L1:=L1) (L2:=L2) (i:=i); omega
  have hnd: ∀c,o.op≠.defer c:=noSel_defer (by have:=Array.all_eq_true.1 hsel i hlt; rwa [(Array.getElem?_eq_some_iff.1 ho).2] at this)
  have below: ∀(s n x:Nat),x∈pendR listed s n→s≤x∧x<s+n∧listed.getD x true=false:=fun s n x hx=>by
   obtain ⟨h3,h4⟩:=List.mem_filter.1 hx
   have:=List.mem_range'_1.1 h3
   refine ⟨by omega,by omega,?_⟩
   cases hq:listed.getD x true with
   | false=>rfl
   | true=>rw [hq] at h4; cases h4
  have good: ∀x,listed.getD x true=false→x<i→¬(x=p∧i=p+1)→listed.getD x false=false∧∃ox,ops[x]? =some ox∧(Waits ops i x∨(ox.apart ops o=true∧okPair (kdS C.S ox) (kdS C.S o)=true)):=fun x hx hxi hne=>by
   obtain ⟨u1,u2⟩:=unl hx
   obtain ⟨ox,hox⟩: ∃o,ops[x]? =some o:=⟨ops[x],Array.getElem?_eq_getElem (by omega)⟩
   exact ⟨u1,ox,hox,altB_pair hB hox ho hxi hne⟩
  by_cases ep:i=p
  ·
   subst ep
   refine wpOp_of_one (C:=C) hnd ho (one_mono (fun a' w' hh=>?_) (mix_frontG hc hsel ho hready _ _ (fun x hx=>good x (below _ _ x hx).2.2 (by have:=below _ _ x hx; omega) (by omega)) a w m1))
   refine any_of_one hB hQ fuel _ (by simpa using hs) (closed_set hc ho hready) (fun ⟨q1,_⟩=>by simp [hs,hlt] at q1) hlen' a' w' ?_
   have e3:pend ops (listed.setIfInBounds i true)=pendR listed 0 i++(i+1)::pendR listed (i+2) (ops.size-(i+2)):=by
    rw [e2]
    have hx:L1++i::L2=pendR listed 0 i++i::(i+1)::pendR listed (i+2) (ops.size-(i+2)):=by rw [←e1,hpend]
    rw [pend_all] at e2
    rw [←e2]
    have:pendR (listed.setIfInBounds i true) 0 ops.size=pendR (listed.setIfInBounds i true) 0 i++(pendR (listed.setIfInBounds i true) i 1++(pendR (listed.setIfInBounds i true) (i+1) 1++pendR (listed.setIfInBounds i true) (i+2) (ops.size-(i+2)))):=by
     unfold pendR
     rw [←List.filter_append,←List.filter_append,←List.filter_append]
     congr 1
     have e:ops.size=i+(1+(1+(ops.size-(i+2)))):=by omega
     conv=>lhs; rw [e]
     rw [←List.range'_append_1,←List.range'_append_1,←List.range'_append_1]
     simp
    rw [this,pendR_out (by omega),pendR_out (i:=i) (s:=i+2) (by omega),pendR_out (i:=i) (s:=i+1) (by omega)]
    rw [pendR_one0 (by simp [hs,hlt]),pendR_one1 h2]
    rfl
   rw [e3]; exact hh
  ·
   by_cases eq:i=p+1
   ·
    subst eq
    refine wpOp_of_one (C:=C) hnd ho (one_mono (fun a' w' hh=>?_) (mix_frontG hc hsel ho hready _ _ (fun x hx=>good x (below _ _ x hx).2.2 (by have:=below _ _ x hx; omega) (by have:=below _ _ x hx; omega)) a w m2))
    refine any_of_one hB hQ fuel _ (by simpa using hs) (closed_set hc ho hready) (fun ⟨_,q2⟩=>by simp [hs,hlt] at q2) hlen' a' w' ?_
    have e3:pend ops (listed.setIfInBounds (p+1) true)=pendR listed 0 p++p::pendR listed (p+2) (ops.size-(p+2)):=by
     rw [pend_all]
     have:pendR (listed.setIfInBounds (p+1) true) 0 ops.size=pendR (listed.setIfInBounds (p+1) true) 0 p++(pendR (listed.setIfInBounds (p+1) true) p 1++(pendR (listed.setIfInBounds (p+1) true) (p+1) 1++pendR (listed.setIfInBounds (p+1) true) (p+2) (ops.size-(p+2)))):=by
      unfold pendR
      rw [←List.filter_append,←List.filter_append,←List.filter_append]
      congr 1
      have e:ops.size=p+(1+(1+(ops.size-(p+2)))):=by omega
      conv=>lhs; rw [e]
      rw [←List.range'_append_1,←List.range'_append_1,←List.range'_append_1]
      simp
     rw [this,pendR_out (by omega),pendR_out (i:=p+1) (s:=p+2) (by omega),pendR_out (i:=p+1) (s:=p) (by omega)]
     rw [pendR_one0 (s:=p+1) (by simp [hs,hlt]),pendR_one1 h1]
     rfl
    rw [e3]; exact hh
   ·
    have he:isEff (kdS C.S o)=false:=by
     cases hq:isEff (kdS C.S o) with
     | false=>rfl
     | true=>
      have:=waits_listed hc (altB_eff hB ho ep eq hq) fun o' ho' e he hb=>by rw [ho] at ho'; injection ho' with ho'; subst ho'; exact hready e he hb
      rw [(unl h1).1] at this; cases this
    have hpl:(listed.setIfInBounds i true).getD p true=false:=by rw [getD_set_ne true ep]; exact h1
    have hql:(listed.setIfInBounds i true).getD (p+1) true=false:=by rw [getD_set_ne true eq]; exact h2
    rcases Nat.lt_or_ge i p with hip | hip
    ·
     obtain ⟨A1,A2,f1,f2,f3⟩:=pendR_cut (listed:=listed) (s:=0) (n:=p) (Nat.zero_le i) (by omega) hl (by omega)
     rw [f1,List.append_assoc,List.cons_append] at m1 m2
     have g1:=mix_frontG hc hsel ho hready _ _ (fun x hx=>good x (f3 x hx).2.2 (f3 x hx).1 (by have:=f3 x hx; omega)) a w m1
     have g2:=mix_frontG hc hsel ho hready _ _ (fun x hx=>good x (f3 x hx).2.2 (f3 x hx).1 (by have:=f3 x hx; omega)) a w m2
     refine wpOp_of_one (C:=C) hnd ho (one_mono (fun a' w' hh=>?_) (one_and he g1 g2))
     refine ih _ (by simpa using hs) (closed_set hc ho hready) hpl hql hlen' a' w' ?_ ?_
     · rw [f2,pendR_out (by omega),List.append_assoc]; exact hh.1
     · rw [f2,pendR_out (by omega),List.append_assoc]; exact hh.2
    ·
     obtain ⟨A1,A2,f1,f2,f3⟩:=pendR_cut (listed:=listed) (s:=p+2) (n:=ops.size-(p+2)) (i:=i) (by omega) (by omega) hl (by omega)
     have q1:pendR listed 0 p++p::(p+1)::(A1++i::A2)=(pendR listed 0 p++p::(p+1)::A1)++i::A2:=by simp
     have q2:pendR listed 0 p++(p+1)::p::(A1++i::A2)=(pendR listed 0 p++(p+1)::p::A1)++i::A2:=by simp
     rw [f1,q1] at m1
     rw [f1,q2] at m2
     have all: ∀x,x∈pendR listed 0 p∨x=p∨x=p+1∨x∈A1→listed.getD x true=false∧x<i:=fun x hx=>by
      rcases hx with hx | rfl | rfl | hx
      · have:=below _ _ x hx; exact ⟨this.2.2,by omega⟩
      · exact ⟨h1,by omega⟩
      · exact ⟨h2,by omega⟩
      · exact ⟨(f3 x hx).2.2,(f3 x hx).1⟩
     have g1:=mix_frontG hc hsel ho hready _ _ (fun x hx=>by
      have:=all x (by simpa [or_assoc] using hx)
      exact good x this.1 this.2 (by omega)) a w m1
     have g2:=mix_frontG hc hsel ho hready _ _ (fun x hx=>by
      have:=all x (by
       simp only [List.mem_append,List.mem_cons] at hx
       rcases hx with hx | hx | hx | hx
       · exact .inl hx
       · exact .inr (.inr (.inl hx))
       · exact .inr (.inl hx)
       · exact .inr (.inr (.inr hx)))
      exact good x this.1 this.2 (by omega)) a w m2
     refine wpOp_of_one (C:=C) hnd ho (one_mono (fun a' w' hh=>?_) (one_and he g1 g2))
     refine ih _ (by simpa using hs) (closed_set hc ho hready) hpl hql hlen' a' w' ?_ ?_
     ·
      rw [f2,pendR_out (by omega)]
      have:=hh.1
      rw [List.append_assoc,List.cons_append,List.cons_append] at this
      exact this
     ·
      rw [f2,pendR_out (by omega)]
      have:=hh.2
      rw [List.append_assoc,List.cons_append,List.cons_append] at this
      exact this
def altP (n p:Nat):Plan:=chainP (List.range p) (.alt (chainP [p] (chainP ((p+1)::List.range' (p+2) (n-(p+2))) .done)) (chainP [p+1] (chainP (p::List.range' (p+2) (n-(p+2))) .done)))
theorem mixP_chain: ∀{l:List Nat} {q:Plan} {l2:List Nat} {a:Act} {w:World},(∀a w,mixP P ops C K q a w→mix P ops C K (opsAt ops l2) a w)→mixP P ops C K (chainP l q) a w→mix P ops C K (opsAt ops (l++l2)) a w
 | [],q,l2,a,w,hq,h=>hq a w h
 | i::l,q,l2,a,w,hq,h=>by
  have hc:mixP P ops C K (.op i (chainP l q)) a w:=h
  simp only [mixP] at hc
  cases ho:ops[i]? with
  | none=>
   rw [ho] at hc
   have e:opsAt ops (i::l++l2)=opsAt ops (l++l2):=by simp [opsAt,ho]
   rw [e]
   exact mixP_chain hq hc
  | some o=>
   rw [ho] at hc
   have e:opsAt ops (i::l++l2)=o::opsAt ops (l++l2):=by simp [opsAt,ho]
   rw [e]
   exact one_mono (fun a w hh=>mixP_chain hq hh) hc
theorem wp_region_alt {r:Option Nat} {n:Nat} {id:Nat} {Q:Exit→Act→World→Prop} {a:Act} {w:World} (C:Frm) (p:Nat) (hm:P.follows .mixedOrders=true) (hB:altB C.S ops p=true)
  (h:mixP P ops C (fun a w=>Q .normal a w) (altP ops.size p) a { w with drawn:=w.drawn+1 }):(Code.region id ops true).wpIn (wF r) n P Q a w:=by
 have hB':=hB
 simp only [altB,Bool.and_eq_true,decide_eq_true_eq] at hB'
 have hpn:=hB'.1.1.1
 have hrep: ∀x,x<ops.size→(Array.replicate ops.size false).getD x true=false:=fun x hx=>by simp [hx]
 have hR: ∀s n,s+n≤ops.size→pendR (Array.replicate ops.size false) s n=List.range' s n:=fun s n hsn=>by
  unfold pendR
  refine List.filter_eq_self.2 fun x hx=>?_
  have:=List.mem_range'_1.1 hx
  rw [hrep x (by omega)]; rfl
 refine wpIn_region_any hm (any_of_alt (C:=C) hB (fun _ _ h=>h) _ _ (by simp) ?_ (hrep p (by omega)) (hrep _ hpn) ?_ a _ ?_ ?_)
 ·
  intro i o ho hl
  have hlt:=(Array.getElem?_eq_some_iff.1 ho).1
  simp [hlt] at hl
 ·
  unfold pend
  exact Nat.le_trans (List.length_filter_le _ _) (by simp)
 ·
  rw [hR 0 p (by omega),hR (p+2) _ (by omega),←List.range_eq_range']
  refine mixP_chain (fun a w hq=>?_) h
  have:=mixP_chain (l:=[p]) (fun a w hq2=>mixP_chain (q:=.done) (l:=(p+1)::List.range' (p+2) (ops.size-(p+2))) (l2:=[]) (fun a w h=>h) hq2) hq.1
  simpa using this
 ·
  rw [hR 0 p (by omega),hR (p+2) _ (by omega),←List.range_eq_range']
  refine mixP_chain (fun a w hq=>?_) h
  have:=mixP_chain (l:=[p+1]) (fun a w hq2=>mixP_chain (q:=.done) (l:=p::List.range' (p+2) (ops.size-(p+2))) (l2:=[]) (fun a w h=>h) hq2) hq.2
  simpa using this
theorem Wc.regionAlt {r:Option Nat} {m:Bool} {N:Nat} {nrm rt:Asn} {ex:List (Nat×Asn)} {E:Env} {w:World} {id:Nat} (S:List Nat) (C:World→Frm) (p:Nat) (hS: ∀w,(C w).S=S) (hm:P.follows .mixedOrders=true) (hB:altB S ops p=true) (hd:ops.all (dstOk N)=true) {pl:Plan} (hpl:altP ops.size p=pl)
  (h: ∀w',w'=w.drew→mixPE P ops (C w') nrm pl E w'):WcM r m P N (.region id ops true) nrm rt ex E w:=fun rm a hs=>
 wp_region_alt (C w.drew) p hm (by rw [hS]; exact hB) (by rw [hpl]; exact mixPE_sound (N:=N) (fun a E w hs hk=>⟨E,hs,hk⟩) hd pl a E _ hs (h _ rfl))
end
end Ev
end Go.Proofs.Yteajmbanlohncaa
