import Derived.Test.YteajmbanlohncaaArr
import Derived.Laws.CopyRow
set_option linter.unusedVariables false
namespace Go.Proofs.Yteajmbanlohncaa
namespace Ev
section
variable {P : Program} {ρ : Operand → Value} {d : Option Tmp} {ty : TypeId} {pos : String} {af : Array Edge} {gd : Option (Nat × Bool)} {x y : Operand}
variable {I : Nat → Prop} {O0 : List Nat} {w0 w : World} {L : List Fact}
theorem run_storeVar_at (w:World) (g o:Nat) (t te:TypeId) {i:TypeInfo} (cur:Array Value) (ds:List Value) (hg:w.heap[g]? =some (.cells cur t (0,0))) (hi:P.info? te=some i) (hs:i.size=ds.length) (ho:o+ds.length≤cur.size) (h1: ∀u∈ds,u.oneCell'=true):
    (storeVar te ⟨g,o,none⟩ (.agg ds.toArray)).run P w=.ok () (w.setRow g (cur.toList.take o++ds++cur.toList.drop (o+ds.length)).toArray):=by
  have:=run_storeCells_at P g o t ds 0 cur w hg (by simpa using ho) h1
  simp only [Nat.add_zero] at this
  simp [storeVar,sizeOf,typeInfo,hi,Value.cells,hs,this]
theorem Cx.putS (h:Cx I O0 w0 w L) {i:Nat} {e te:TypeId} {ti:TypeInfo} {s:Sh} {ad:Addr} {m c:Nat} {xs:List s.T} (hi:L[i]? =some (.own te s (.slice (some ad) m c) xs)) (ht:P.info? e=some ti) (hs:ti.size=s.n)
    {k:Nat} (hk:k<xs.length) {a:s.T} {ds:List Value} (hl:ds.length=s.n) (h1:ds.all (·.oneCell')=true) (hu:Rep (O0++blocks L) w s ds a) (hx:ρ x=.pointer (some (ad.add (k*s.n)))) (hy:ρ y=.agg ds.toArray):
    Sk P ρ ⟨d,.store e x y,ty,pos,af,gd⟩ w fun w'=>Cx I O0 w0 w' (L.set i (.own te s (.slice (some ad) m c) (xs.set k a)))∧Fr (fun k=>blkOf (.slice (some ad) m c)=some k) w w':=by
  have hown:Own (O0++blocks L) w te s (.slice (some ad) m c) xs (blkOf (.slice (some ad) m c)):=h.at_ hi
  have hG: ∀g,blkOf (.slice (some ad) m c)=some g→g∈O0++blocks L:=fun g hg=>List.mem_append_right _ (List.mem_filterMap.2 ⟨_,List.mem_of_getElem? hi,hg⟩)
  obtain ⟨cs,o1,o2⟩:=hown
  rcases o1.2 with ⟨h0,_,_⟩ | ⟨g,b,cap,cur,hv,hg,hb,hnc,hcm,hsz,htk⟩
  · injection h0 with h0; cases h0
  injection hv with hA hm hc
  injection hA with hA
  subst hA hm hc
  have hin:k*s.n+s.n≤xs.length*s.n:=by
    have:=Nat.mul_le_mul_right s.n (show k+1≤xs.length by omega)
    rwa [Nat.succ_mul] at this
  have hcn:xs.length*s.n≤c*s.n:=Nat.mul_le_mul_right s.n hnc
  have hall: ∀u∈ds,u.oneCell'=true:=fun u hu=>(List.all_eq_true.1 h1) u hu
  have hst:=run_storeVar_at (P:=P) w g (b+k*s.n) te e cur ds hb ht (by rw [hs,hl]) (by omega) hall
  have hfr:Fr (fun k=>blkOf (.slice (some ⟨g,b,none⟩) xs.length c)=some k) w (w.setRow g (cur.toList.take (b+k*s.n)++ds++cur.toList.drop (b+k*s.n+ds.length)).toArray):=Fr.setRow (S:=fun k=>blkOf (.slice (some ⟨g,b,none⟩) xs.length c)=some k) w (.inl rfl) _
  have hcl:cur.toList.length=cur.size:=by simp
  refine ⟨_,?_,h.turn hi hfr (.inl rfl) fun O hO=>?_,hfr⟩
  · have hx':ρ x=.pointer (some ⟨g,b+k*s.n,none⟩):=by rw [hx,add_lit]
    simp [execOp,hx',hy,Instr.storeAt,Instr.sureAddr,hst]
  · have hnew:Own (O0++blocks L) (w.setRow g (cur.toList.take (b+k*s.n)++ds++cur.toList.drop (b+k*s.n+ds.length)).toArray) te s (.slice (some ⟨g,b,none⟩) xs.length c) (xs.set k a) (blkOf (.slice (some ⟨g,b,none⟩) xs.length c)):=by
      refine ⟨cs.take (k*s.n)++ds++cs.drop (k*s.n+s.n),⟨?_,.inr ⟨g,b,c,_,by rw [List.length_set],rfl,setRow_heap w g cur _ te _ hb,by rw [List.length_set]; exact hnc,hcm,?_,?_⟩⟩,?_,fun j z hj=>?_⟩
      · simp only [List.length_append,List.length_take,List.length_drop,List.length_set,o1.1,hl]; omega
      · simp only [List.size_toArray,List.length_append,List.length_take,List.length_drop,hcl,hl]; omega
      · rw [List.length_set]
        apply List.ext_getElem?
        intro p
        have hcell: ∀p,p<xs.length*s.n→cur.toList[b+p]? =cs[p]? :=fun p hp=>by
          have:((cur.toList.drop b).take (xs.length*s.n))[p]? =cs[p]? :=by rw [htk]
          rwa [List.getElem?_take_of_lt hp,List.getElem?_drop] at this
        rcases Nat.lt_or_ge p (xs.length*s.n) with hp | hp
        · rw [List.getElem?_take_of_lt hp,List.getElem?_drop]
          rcases Nat.lt_or_ge p (k*s.n) with q | q
          · rw [List.append_assoc,List.append_assoc,List.getElem?_append_left (by rw [List.length_take,hcl]; omega),List.getElem?_append_left (by rw [List.length_take,o1.1]; omega),List.getElem?_take_of_lt (by omega),List.getElem?_take_of_lt q,hcell p hp]
          · have l1:(cur.toList.take (b+k*s.n)).length=b+k*s.n:=by rw [List.length_take,hcl]; omega
            have l2:(cs.take (k*s.n)).length=k*s.n:=by rw [List.length_take,o1.1]; omega
            rw [List.append_assoc,List.append_assoc,List.getElem?_append_right (l₁:=cur.toList.take (b+k*s.n)) (by omega),List.getElem?_append_right (l₁:=cs.take (k*s.n)) (by omega),l1,l2]
            rw [show b+p-(b+k*s.n)=p-k*s.n from by omega]
            rcases Nat.lt_or_ge (p-k*s.n) ds.length with q2 | q2
            · rw [List.getElem?_append_left q2,List.getElem?_append_left q2]
            · rw [List.getElem?_append_right q2,List.getElem?_append_right q2,List.getElem?_drop,List.getElem?_drop,hl]
              rw [show b+k*s.n+s.n+(p-k*s.n-s.n)=b+p from by omega,show k*s.n+s.n+(p-k*s.n-s.n)=p from by omega,hcell p hp]
        · rw [List.getElem?_eq_none (by rw [List.length_take]; omega),List.getElem?_eq_none (by simp only [List.length_append,List.length_take,List.length_drop,o1.1,hl]; omega)]
      · simp only [List.length_append,List.length_take,List.length_drop,List.length_set,o1.1,hl]; omega
      · rw [List.getElem?_set] at hj
        have hlt:(cs.take (k*s.n)).length=k*s.n:=by rw [List.length_take,o1.1]; omega
        by_cases e1:k=j
        · subst e1
          rw [if_pos rfl,if_pos hk] at hj
          obtain rfl:=Option.some.inj hj
          have:((cs.take (k*s.n)++ds++cs.drop (k*s.n+s.n)).drop (k*s.n)).take s.n=ds:=by
            rw [List.append_assoc,List.drop_left' hlt,List.take_left' hl]
          rw [this]
          exact Rep.fr hfr (fun q hq=>hG q hq) hu
        · rw [if_neg e1] at hj
          have hjl:=(List.getElem?_eq_some_iff.1 hj).1
          have hz:=o2.2 j z hj
          have:((cs.take (k*s.n)++ds++cs.drop (k*s.n+s.n)).drop (j*s.n)).take s.n=(cs.drop (j*s.n)).take s.n:=by
            have hjn:j*s.n+s.n≤xs.length*s.n:=by
              have:=Nat.mul_le_mul_right s.n (show j+1≤xs.length by omega)
              rwa [Nat.succ_mul] at this
            apply List.ext_getElem?
            intro p
            rcases Nat.lt_or_ge p s.n with hp | hp
            · rw [List.getElem?_take_of_lt hp,List.getElem?_take_of_lt hp,List.getElem?_drop,List.getElem?_drop]
              rcases Nat.lt_or_ge j k with q | q
              · have:j*s.n+s.n≤k*s.n:=by
                  have:=Nat.mul_le_mul_right s.n (show j+1≤k by omega)
                  rwa [Nat.succ_mul] at this
                rw [List.append_assoc,List.getElem?_append_left (by omega),List.getElem?_take_of_lt (by omega)]
              · have:k*s.n+s.n≤j*s.n:=by
                  have:=Nat.mul_le_mul_right s.n (show k+1≤j by omega)
                  rwa [Nat.succ_mul] at this
                rw [List.append_assoc,List.getElem?_append_right (by omega),List.getElem?_append_right (by omega),List.getElem?_drop,hlt,hl]
                congr 1; omega
            · rw [List.getElem?_eq_none (by rw [List.length_take]; omega),List.getElem?_eq_none (by rw [List.length_take]; omega)]
          rw [this]
          exact Rep.fr hfr (fun q hq=>hG q hq) hz
    refine Own.step (O:=O0++blocks L) (S:=fun _=>False) hnew (Fr.refl _ _) (fun _ h=>h.elim) (fun k hk=>?_) (fun _ _ h=>h)
    rcases hO k hk with h2 | h2
    · exact .inl h2
    · exact .inr (by simpa using h2)
end
end Ev
end Go.Proofs.Yteajmbanlohncaa
