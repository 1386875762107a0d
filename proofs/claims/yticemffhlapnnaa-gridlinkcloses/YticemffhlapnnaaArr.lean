import Derived.Test.YticemffhlapnnaaMore
import Derived.ChangeKeysEq
set_option linter.all false
namespace Go.Proofs.Yticemffhlapnnaa
namespace Ev
theorem chunk_ne {i j n o q:Nat} (h:j≠i) (ho:o<n) (hq:q<n):i*n+o≠j*n+q:=by
 intro e
 rcases Nat.lt_or_ge i j with hij | hij
 ·
  have:=Nat.mul_le_mul_right n (show i+1≤j by omega)
  rw [Nat.succ_mul] at this; omega
 ·
  have:=Nat.mul_le_mul_right n (show j+1≤i by omega)
  rw [Nat.succ_mul] at this; omega
theorem set_chunk {α:Type} {cs:List α} {i n o:Nat} {u:α} (ho:o<n) (j:Nat):((cs.set (i*n+o) u).drop (j*n)).take n=if j=i then ((cs.drop (i*n)).take n).set o u else (cs.drop (j*n)).take n:=by
 apply List.ext_getElem?
 intro q
 by_cases hj:j=i
 ·
  rw [if_pos hj]
  subst hj
  rcases Nat.lt_or_ge q n with hq | hq
  ·
   rw [List.getElem?_take_of_lt hq,List.getElem?_drop,List.getElem?_set,List.getElem?_set]
   by_cases e:o=q
   ·
    subst e
    rw [if_pos rfl,if_pos rfl,List.length_take,List.length_drop]
    by_cases h:j*n+o<cs.length
    · rw [if_pos h,if_pos (by omega)]
    · rw [if_neg h,if_neg (by omega)]
   · rw [if_neg (by omega),if_neg e,List.getElem?_take_of_lt hq,List.getElem?_drop]
  · rw [List.getElem?_eq_none (by rw [List.length_take]; omega),List.getElem?_eq_none (by rw [List.length_set,List.length_take]; omega)]
 ·
  rw [if_neg hj]
  rcases Nat.lt_or_ge q n with hq | hq
  · rw [List.getElem?_take_of_lt hq,List.getElem?_take_of_lt hq,List.getElem?_drop,List.getElem?_drop,List.getElem?_set_ne (chunk_ne hj ho hq)]
  · rw [List.getElem?_eq_none (by rw [List.length_take]; omega),List.getElem?_eq_none (by rw [List.length_take]; omega)]
theorem store_at {O:List Nat} {w:World} {e:TypeId} {s:Sh} {A:Option Addr} {m c:Nat} {xs:List s.T} {G:Option Nat} (hown:Own O w e s (.slice A m c) xs G) (hG: ∀g,G=some g→g∈O)
  {i o:Nat} (hi:i<xs.length) (ho:o<s.n) (u:Value):
  ∃(ad:Addr) (cs0:List Value),A=some ad∧cs0.length=s.n∧(∀j v,cs0[j]? =some v→w.cell? ((ad.add (i*s.n)).add j)=some v)∧w.frozen? ((ad.add (i*s.n)).add o)=false∧
   Fr (fun k=>G=some k) w (w.setCell ((ad.add (i*s.n)).add o) u)∧∀x:s.T,Rep O w s (cs0.set o u) x→Own O (w.setCell ((ad.add (i*s.n)).add o) u) e s (.slice A m c) (xs.set i x) G:=by
 obtain ⟨cs,h1,h2⟩:=hown
 rcases h1.2 with ⟨h0,h00,_⟩ | ⟨g,b,cap,cur,hv,hg,hb,hnc,hcm,hsz,ht⟩
 · omega
 ·
  injection hv with hA hm hc
  subst hA hm hc hg
  have hin:i*s.n+s.n≤xs.length*s.n:=by
   have:=Nat.mul_le_mul_right s.n (show i+1≤xs.length by omega)
   rwa [Nat.succ_mul] at this
  have hcn:xs.length*s.n≤c*s.n:=Nat.mul_le_mul_right s.n hnc
  have hfr:Fr (fun k=>some g=some k) w (w.setCell ⟨g,b+i*s.n+o,none⟩ u):=Fr.setCell (S:=fun k=>some g=some k) w (.inl rfl) u
  have hcell: ∀p,p<xs.length*s.n→cur[b+p]? =cs[p]? :=fun p hp=>by
   have:((cur.toList.drop b).take (xs.length*s.n))[p]? =cs[p]? :=by rw [ht]
   rw [List.getElem?_take_of_lt hp,List.getElem?_drop] at this
   rw [←this]; simp
  refine ⟨⟨g,b,none⟩,(cs.drop (i*s.n)).take s.n,rfl,?_,fun j v hj=>?_,?_,?_,fun x hx=>?_⟩
  · rw [List.length_take,List.length_drop,h1.1]; omega
  ·
   rw [add_lit,add_lit,cell_of_row w g _ cur e (0,0) hb]
   have hjn:j<s.n:=by
    have:=(List.getElem?_eq_some_iff.1 hj).1
    rw [List.length_take] at this; omega
   rw [List.getElem?_take_of_lt hjn,List.getElem?_drop] at hj
   rw [Nat.add_assoc,hcell _ (by omega)]
   exact hj
  · rw [add_lit,add_lit]; exact frozen_of_row w g _ cur e hb
  · rw [add_lit,add_lit]; exact hfr
  ·
   rw [add_lit,add_lit]
   refine ⟨cs.set (i*s.n+o) u,⟨by rw [List.length_set,List.length_set]; exact h1.1,.inr ⟨g,b,c,cur.setIfInBounds (b+i*s.n+o) u,by rw [List.length_set],rfl,?_,by rw [List.length_set]; exact hnc,hcm,by simpa using hsz,?_⟩⟩,by rw [List.length_set,List.length_set]; exact h2.1,fun j y hj=>?_⟩
   · rw [setCell_eq_setRow w g (b+i*s.n+o) cur e (0,0) u hb]; exact setRow_heap w g cur _ e _ hb
   ·
    rw [List.length_set]
    apply List.ext_getElem?
    intro p
    rcases Nat.lt_or_ge p (xs.length*s.n) with hp | hp
    ·
     rw [List.getElem?_take_of_lt hp,List.getElem?_drop,Array.toList_setIfInBounds,List.getElem?_set,List.getElem?_set]
     have hs:b+p<cur.size:=by omega
     have hc2:=hcell p hp
     by_cases e:i*s.n+o=p
     ·
      subst e
      rw [if_pos (by omega),if_pos rfl,if_pos (by rw [Array.length_toList]; omega),if_pos (by rw [h1.1]; omega)]
     · rw [if_neg (by omega),if_neg e,←hc2]; simp
    · rw [List.getElem?_eq_none (by rw [List.length_take]; omega),List.getElem?_eq_none (by rw [List.length_set,h1.1]; omega)]
   ·
    rw [set_chunk ho j]
    have hfr':Fr (fun k=>some g=some k) w (w.setCell ⟨g,b+i*s.n+o,none⟩ u):=hfr
    rw [List.getElem?_set] at hj
    by_cases e:i=j
    ·
     subst e
     rw [if_pos rfl,if_pos hi] at hj
     obtain rfl:=Option.some.inj hj
     rw [if_pos rfl]
     exact Rep.fr hfr' (fun k hk=>hG k hk) hx
    ·
     rw [if_neg e] at hj
     rw [if_neg (Ne.symm e)]
     exact Rep.fr hfr' (fun k hk=>hG k hk) (h2.2 j y hj)
section
variable {P : Program} {ρ : Operand → Value} {d : Option Tmp} {ty : TypeId} {pos : String} {af : Array Edge} {gd : Option (Nat × Bool)} {x y : Operand}
variable {I : Nat → Prop} {O0 : List Nat} {w0 w : World} {L : List Fact}
theorem Cx.putAt (h:Cx I O0 w0 w L) {i:Nat} {e te:TypeId} {s:Sh} {ad:Addr} {m c:Nat} {xs:List s.T} (hi:L[i]? =some (.own te s (.slice (some ad) m c) xs)) (hs: ∀w,(sizeOf e).run P w=.ok 1 w)
  {k o:Nat} {a0 a:s.T} (hk:xs[k]? =some a0) {cs0:List Value} (hl0:cs0.length=s.n) (hc0: ∀j u,cs0[j]? =some u→w.cell? ((ad.add (k*s.n)).add j)=some u) (ho:o<s.n) {u:Value} (h1:u.oneCell'=true)
  (hu:Rep (O0++blocks L) w s (cs0.set o u) a) (hx:ρ x=.pointer (some ((ad.add (k*s.n)).add o))) (hy:ρ y=u):
  Sk P ρ ⟨d,.store e x y,ty,pos,af,gd⟩ w fun w'=>Cx I O0 w0 w' (L.set i (.own te s (.slice (some ad) m c) (xs.set k a)))∧Fr (fun k=>blkOf (.slice (some ad) m c)=some k) w w':=by
 have hown:Own (O0++blocks L) w te s (.slice (some ad) m c) xs (blkOf (.slice (some ad) m c)):=h.at_ hi
 have hmem: ∀g,blkOf (.slice (some ad) m c)=some g→g∈O0++blocks L:=fun g hg=>List.mem_append_right _ (List.mem_filterMap.2 ⟨_,List.mem_of_getElem? hi,hg⟩)
 obtain ⟨ad',cs1,hA',hl,hc,hf,hfr,hnew⟩:=store_at hown hmem (List.getElem?_eq_some_iff.1 hk).1 ho u
 have:ad'=ad:=by injection hA' with hA'; exact hA'.symm
 subst this
 have e1:cs0=cs1:=by
  apply List.ext_getElem
  · omega
  ·
   intro j hj1 hj2
   have a1:=hc0 j _ (List.getElem?_eq_getElem hj1)
   have a2:=hc j _ (List.getElem?_eq_getElem hj2)
   rw [a1] at a2
   exact Option.some.inj a2
 subst e1
 have hcell:w.cell? ((ad'.add (k*s.n)).add o)=some (cs0[o]'(by omega)):=hc o _ (List.getElem?_eq_getElem _)
 refine ⟨_,st_one hs h1 hx hy hcell hf,h.turn hi hfr (.inl rfl) fun O hO=>?_,hfr⟩
 refine (Own.step (O:=O0++blocks L) (S:=fun _=>False) (hnew a hu) (Fr.refl _ _) (fun _ h=>h.elim) (fun k hk=>?_) (fun _ _ h=>h))
 rcases hO k hk with h2 | h2
 · exact .inl h2
 · exact .inr (by simpa using h2)
/-! Arrays. -/
theorem pu_builda {ps:Array (Nat×Operand)} {pv:List (Nat×Value)} {cs:Array Value} {t1 e:TypeId} {k sz:Nat} {it ie:TypeInfo} {z:Value}
  (hi:P.info? t1=some it) (hu:P.underlying t1=some (.array k e)) (hz:it.zero=some z) (he:P.info? e=some ie) (hsz:ie.size=sz)
  (hv:ps.toList.map (fun p=>(p.1,ρ p.2))=pv) (h:Instr.fill (fun i=>some (i*sz,sz)) z.cells pv=some cs):Pu P ρ ⟨d,.build t1 ps,ty,pos,af,gd⟩ (.agg cs):=pu_build (by
 subst hsz
 simp only [Program.built,hi,hu,hz,he]
 subst hv
 simpa using h)
theorem qeh {t1 e:TypeId} {k sz:Nat} {A:Addr} {a:Int} (ht:P.underlying t1=some (.array k e)) (hs: ∀w,(sizeOf e).run P w=.ok sz w) (hx:ρ x=.pointer (some A)) (hy:ρ y=.int .i64 a) (h:0≤a∧a<(k:Int)):
  Pu P ρ ⟨d,.indexAddr t1 x y,ty,pos,af,gd⟩ (.pointer (some (A.add (a.toNat*sz)))):=fun w=>by
 unfold Yv
 simp [execOp,hx,hy,Instr.indexAt,Instr.sureAddr,asIntOf,run_underlying ht,hs,h]
theorem ld_part {e te:TypeId} {gb o n:Nat} {cs ds:List Value} {w:World} (hb:Blk w gb te cs) (hg: ∀w,(isAgg e).run P w=.ok true w) (hs: ∀w,(sizeOf e).run P w=.ok n w) (hd:(cs.drop o).take n=ds) (hl:ds.length=n) (hx:ρ x=.pointer (some ((⟨gb,0,none⟩:Addr).add o))):
  Yv P ρ ⟨d,.load e x,ty,pos,af,gd⟩ w (.agg ds.toArray):=ld_agg hg hs hx hl fun j u hu=>by
 have hj:j<n:=by have:=(List.getElem?_eq_some_iff.1 hu).1; omega
 rw [←hd,List.getElem?_take_of_lt hj,List.getElem?_drop] at hu
 have:=hb.cell hu
 rw [add_lit] at this
 rw [add_lit,add_lit,Nat.add_assoc]
 exact this
theorem all_get {α:Type} {p:α→Prop} {ds:List α} {i:Int} {q:α} (h: ∀x∈ds,p x) (hg:get ds i=some q):p q:=h q (List.mem_of_getElem? (qac hg).2)
theorem get_nn {α:Type} {xs:List α} {i:Int} {q:α} (h:get xs i=some q):0≤i:=by
 unfold get at h
 split at h
 · assumption
 · cases h
theorem flat_dt {α:Type} {enc:α→List Value} {sz:Nat}: ∀{ds:List α} {k:Nat} {q:α},(∀b∈ds,(enc b).length=sz)→ds[k]? =some q→((ds.flatMap enc).drop (k*sz)).take sz=enc q
 | [],k,q,_,h=>by simp at h
 | b::ds,0,q,hl,h=>by
  obtain rfl:=Option.some.inj h
  rw [Nat.zero_mul,List.drop_zero,List.flatMap_cons,List.take_left' (hl b (by simp))]
 | b::ds,k+1,q,hl,h=>by
  rw [List.flatMap_cons,Nat.succ_mul,Nat.add_comm,←List.drop_drop,List.drop_left' (hl b (by simp))]
  exact flat_dt (fun c hc=>hl c (by simp [hc])) (by simpa using h)
