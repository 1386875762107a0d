import Derived.Test.YtpnppjlnfhlmpaaGreatRbox
import Derived.Maps.RangeRun
set_option linter.all false
namespace Go.Proofs.YtpnppjlnfhlmpaaGreat
namespace Ev
instance instDecKK:(k:KK)→DecidableEq k.T
 | .int=>inferInstanceAs (DecidableEq Int)
 | .pair=>inferInstanceAs (DecidableEq (Int×Int))
 | .str=>inferInstanceAs (DecidableEq (List UInt8))
/-! Lists of keys and values. -/
def gget {κ ν:Type} [DecidableEq κ]:List (κ×ν)→κ→Option ν
 | [],_=>none
 | p::r,k=>if k=p.1 then some p.2 else gget r k
def gput {κ ν:Type} [DecidableEq κ]:List (κ×ν)→κ→ν→List (κ×ν)
 | [],k,v=>[(k,v)]
 | p::r,k,v=>if k=p.1 then (k,v)::r else p::gput r k v
section
variable {κ ν : Type} [DecidableEq κ]
theorem gget_mem: ∀{m:List (κ×ν)} {k:κ} {v:ν},gget m k=some v→(k,v)∈m
 | [],_,_,h=>by cases h
 | p::r,k,v,h=>by
  unfold gget at h
  split at h
  · rename_i e; injection h with h; subst e; rw [←h]; exact List.mem_cons_self
  · exact List.mem_cons_of_mem _ (gget_mem h)
theorem gget_of: ∀{m:List (κ×ν)},(m.map (·.1)).Nodup→∀{k:κ} {v:ν},(k,v)∈m→gget m k=some v
 | [],_,_,_,h=>by cases h
 | p::r,hn,k,v,h=>by
  rw [List.map_cons,List.nodup_cons] at hn
  unfold gget
  rcases List.mem_cons.1 h with e | e
  · rw [←e,if_pos rfl]
  · rw [if_neg (fun q=>hn.1 (by rw [←q]; exact List.mem_map.2 ⟨_,e,rfl⟩)),gget_of hn.2 e]
theorem gget_none {m:List (κ×ν)} {k:κ}:gget m k=none↔k∉m.map (·.1):=by
 induction m with
 | nil=>simp [gget]
 | cons p r ih=>
  unfold gget
  rw [List.map_cons,List.mem_cons]
  by_cases e:k=p.1
  · rw [if_pos e]; simp [e]
  · rw [if_neg e,ih]; simp [e]
theorem gget_perm {m m':List (κ×ν)} (h:m.Perm m') (hn:(m.map (·.1)).Nodup) (k:κ):gget m k=gget m' k:=by
 have hn':(m'.map (·.1)).Nodup:=(h.map _).nodup_iff.1 hn
 cases e:gget m k with
 | some v=>exact (gget_of hn' (h.mem_iff.1 (gget_mem e))).symm
 | none=>exact (gget_none.2 fun q=>gget_none.1 e ((h.map (·.1)).mem_iff.2 q)).symm
theorem gput_new: ∀{m:List (κ×ν)} {k:κ} (v:ν),k∉m.map (·.1)→gput m k v=m++[(k,v)]
 | [],_,_,_=>rfl
 | p::r,k,v,h=>by
  rw [List.map_cons,List.mem_cons] at h
  unfold gput
  rw [if_neg (fun q=>h (.inl q)),gput_new v fun q=>h (.inr q)]; rfl
theorem gput_keys: ∀(m:List (κ×ν)) (k:κ) (v:ν),(gput m k v).map (·.1)=if k∈m.map (·.1) then m.map (·.1) else m.map (·.1)++[k]
 | [],_,_=>rfl
 | p::r,k,v=>by
  have ih:=gput_keys r k v
  unfold gput
  rw [List.map_cons]
  by_cases e:k=p.1
  · rw [if_pos e,if_pos (by rw [e]; exact List.mem_cons_self),List.map_cons,e]
  ·
   rw [if_neg e,List.map_cons,ih]
   by_cases q:k∈r.map (·.1)
   · rw [if_pos q,if_pos (List.mem_cons_of_mem _ q)]
   · rw [if_neg q,if_neg (fun z=>(List.mem_cons.1 z).elim e q)]; rfl
theorem perm_at {α:Type}: ∀{l:List α} {q:Nat} {a:α},l[q]? =some a→∀b,l.Perm (a::l.eraseIdx q)∧(l.set q b).Perm (b::l.eraseIdx q)
 | [],_,_,h,_=>by simp at h
 | c::l,0,a,h,b=>by
  have h:c=a:=by simpa using h
  subst h
  exact ⟨.refl _,.refl _⟩
 | c::l,q+1,a,h,b=>by
  obtain ⟨h1,h2⟩:=perm_at (l:=l) (q:=q) (by simpa using h) b
  exact ⟨(h1.cons c).trans (.swap _ _ _),(h2.cons c).trans (.swap _ _ _)⟩
theorem gput_nodup {m:List (κ×ν)} (hn:(m.map (·.1)).Nodup) (k:κ) (v:ν):((gput m k v).map (·.1)).Nodup:=by
 rw [gput_keys]
 split
 · exact hn
 ·
  rename_i q
  rw [List.nodup_append]
  exact ⟨hn,by simp,fun a ha b hb e=>by rw [List.mem_singleton] at hb; rw [e,hb] at ha; exact q ha⟩
theorem gput_old: ∀{m:List (κ×ν)},(m.map (·.1)).Nodup→∀{k:κ} {u:ν} (v:ν),(k,u)∈m→∃r,m.Perm ((k,u)::r)∧(gput m k v).Perm ((k,v)::r)
 | [],_,_,_,_,h=>by cases h
 | p::r,hn,k,u,v,h=>by
  rw [List.map_cons,List.nodup_cons] at hn
  unfold gput
  rcases List.mem_cons.1 h with e | e
  ·
   rw [←e,if_pos rfl]
   exact ⟨r,.refl _,.refl _⟩
  ·
   have hne:k≠p.1:=fun q=>hn.1 (by rw [←q]; exact List.mem_map.2 ⟨_,e,rfl⟩)
   rw [if_neg hne]
   obtain ⟨r',h1,h2⟩:=gput_old hn.2 v e
   exact ⟨p::r',(h1.cons p).trans (.swap _ _ _),(h2.cons p).trans (.swap _ _ _)⟩
end
/-! Entries. -/
section
variable {kk : KK} {s : Sh}
theorem ments_at: ∀(es:List (kk.T×List Value×s.T)) (i q:Nat),(ments kk s es i)[q]? =es[q]?.map fun e=>{ key:=kk.v e.1,val:=vof s e.2.1,born:=i+q }
 | [],_,_=>by simp [ments]
 | e::r,i,0=>by simp [ments]
 | e::r,i,q+1=>by
  have:=ments_at r (i+1) q
  simp only [ments,List.getElem?_cons_succ,this,Nat.add_assoc,Nat.add_comm 1]
theorem ments_snoc: ∀(es:List (kk.T×List Value×s.T)) (i:Nat) (p:kk.T×List Value×s.T),ments kk s (es++[p]) i=ments kk s es i++[{ key:=kk.v p.1,val:=vof s p.2.1,born:=i+es.length }]
 | [],i,p=>by simp [ments]
 | q::r,i,p=>by simp [ments,ments_snoc r (i+1) p,Nat.add_assoc,Nat.add_comm 1]
theorem ments_set (es:List (kk.T×List Value×s.T)) (q:Nat) (e:kk.T×List Value×s.T) (he:es[q]? =some e) (cs:List Value) (x:s.T):
  (ments kk s es 0).toArray.modify q (fun m=>{ m with key:=kk.v e.1,val:=vof s cs })=(ments kk s (es.set q (e.1,cs,x)) 0).toArray:=by
 apply Array.ext_getElem?
 intro i
 have hq:=(List.getElem?_eq_some_iff.1 he).1
 rw [Array.getElem?_modify,List.getElem?_toArray,List.getElem?_toArray,ments_at,ments_at]
 by_cases e1:q=i
 ·
  subst e1
  rw [if_pos rfl,he,List.getElem?_set_self hq]; rfl
 · rw [if_neg e1,List.getElem?_set_ne e1]
end
structure KL (P:Program) (kk:KK) (kt:TypeId):Prop where
 chk: ∀(emp:Bool) (w:World) (k:kk.T),(Instr.checkKey emp 10000 kt (kk.v k)).run P w=.ok () w
 fnd: ∀(s:Sh) (w:World) (es:List (kk.T×List Value×s.T)) (k:kk.T),(∃q e,es[q]? =some e∧e.1=k∧(Instr.findKey kt (kk.v k) (ments kk s es 0)).run P w=.ok (some (q,vof s e.2.1)) w)∨
  (k∉es.map (·.1)∧(Instr.findKey kt (kk.v k) (ments kk s es 0)).run P w=.ok none w)
 sty: ∀(w:World) (k:kk.T),(Instr.keyThatStays (kk.v k) (kk.v k)).run P w=.ok (kk.v k) w
section
variable {P : Program} {kt ve t e : TypeId} {it : TypeInfo}
end
section
variable {P : Program} {ρ : Operand → Value} {d : Option Tmp} {ty : TypeId} {pos : String} {af : Array Edge} {gd : Option (Nat × Bool)} {x y z : Operand}
variable {I : Nat → Prop} {O0 : List Nat} {w0 w w' : World} {L : List Fact} {t kt ve : TypeId} {kk : KK} {s : Sh}
theorem Cx.newmp (h:Cx I O0 w0 w L) (kk:KK) (s:Sh):Cx I O0 w0 (w.alloc (.map #[] 0)) (.mp w.heap.size kk s []::L):=by
 refine h.new (Fr.alloc w _ _) (fun g hg=>?_) (fun O ho=>?_)
 · injection hg with hg; omega
 ·
  refine ⟨[],.nil,.nil,?_,fun e he=>absurd he List.not_mem_nil⟩
  show (w.heap.push _)[w.heap.size]? =_
  simp [ments]
theorem Cx.mkmp (h:Cx I O0 w0 w L) (kk:KK) (s:Sh):Op P ρ ⟨d,.makeMap t none,ty,pos,af,gd⟩ w fun v w'=> ∃g,v=.map (some g)∧Cx I O0 w0 w' (.mp g kk s []::L)∧Fr (fun _=>False) w w'∧w.heap.size≤g:=by
 refine ⟨.map (some w.heap.size),w.alloc (.map #[] 0),?_,w.heap.size,rfl,h.newmp kk s,Fr.alloc w _ _,Nat.le_refl _⟩
 simp [execOp,Instr.makeMap]
theorem nodup_keys {es:List (kk.T×List Value×s.T)} {m:List (kk.T×s.T)} (h1:(es.map fun e=>(e.1,e.2.2)).Perm m) (h2:(m.map (·.1)).Nodup):((es.map fun e=>(e.1,e.2.2)).map (·.1)).Nodup:=(h1.map (·.1)).nodup_iff.2 h2
theorem keys_map {es:List (kk.T×List Value×s.T)}:(es.map fun e=>(e.1,e.2.2)).map (·.1)=es.map (·.1):=by rw [List.map_map]; rfl
theorem MapH.look {O:List Nat} {g:Nat} {m:List (kk.T×s.T)} (h:MapH O w g kk s m) (K:KL P kk kt) (k:kk.T): ∃es clock,w.heap[g]? =some (.map es clock)∧
  ((∃q cs v,gget m k=some v∧(Instr.findKey kt (kk.v k) es.toList).run P w=.ok (some (q,vof s cs)) w∧Rep O w s cs v)∨(gget m k=none∧(Instr.findKey kt (kk.v k) es.toList).run P w=.ok none w)):=by
 obtain ⟨es,h1,h2,h3,h4⟩:=h
 refine ⟨_,_,h3,?_⟩
 rcases K.fnd s w es k with ⟨q,e,a1,a2,a3⟩ | ⟨a1,a2⟩
 ·
  have hm:=List.mem_of_getElem? a1
  refine .inl ⟨q,e.2.1,e.2.2,?_,a3,(h4 e hm).2⟩
  rw [←a2]
  exact gget_of h2 (h1.mem_iff.1 (List.mem_map.2 ⟨e,hm,rfl⟩))
 ·
  refine .inr ⟨gget_none.2 fun q=>a1 ?_,a2⟩
  have:=(h1.map (·.1)).mem_iff.2 q
  rwa [keys_map] at this
theorem Cx.mpat (h:Cx I O0 w0 w L) {i g:Nat} {m:List (kk.T×s.T)} (hi:L[i]? =some (.mp g kk s m)):MapH (O0++blocks L) w g kk s m:=h.at_ hi
theorem Cx.mplk (h:Cx I O0 w0 w L) {i g:Nat} {m:List (kk.T×s.T)} (hi:L[i]? =some (.mp g kk s m)) (K:KL P kk kt) {k:kk.T} (ht:P.underlying t=some (.map kt ve)) {zc:List Value} {zx:s.T} (hz: ∀w,(zeroValue ve).run P w=.ok (vof s zc) w) (hzr:Rep (O0++blocks L) w s zc zx)
  (ok:Bool): ∃cs,(∀{ρ:Operand→Value} {d:Option Tmp} {ty:TypeId} {pos:String} {af:Array Edge} {gd:Option (Nat×Bool)} {x y:Operand},ρ x=.map (some g)→ρ y=kk.v k→Yv P ρ ⟨d,.lookup t x y ok,ty,pos,af,gd⟩ w (bif ok then .tuple #[vof s cs,.bool (gget m k).isSome] else vof s cs))∧Rep (O0++blocks L) w s cs ((gget m k).getD zx):=by
 obtain ⟨es,clock,hm,hf⟩:=(h.mpat hi).look K k
 have hg:=MapKept.run_getObj_map (P:=P) (r:=g) hm
 have hk:=fun b=>K.chk b w k
 unfold Yv
 rcases hf with ⟨q,cs,v,h1,h2,h3⟩ | ⟨h1,h2⟩
 ·
  refine ⟨cs,fun hx hy=>?_,by rw [h1]; exact h3⟩
  cases ok<;>simp [execOp,hx,hy,Instr.lookup,run_underlying ht,hg,hk,h2,h1,Result.andThen]
 ·
  refine ⟨zc,fun hx hy=>?_,by rw [h1]; exact hzr⟩
  cases ok<;>simp [execOp,hx,hy,Instr.lookup,run_underlying ht,hg,hk,h2,h1,Result.andThen,hz]
theorem put_run {O:List Nat} {g:Nat} {m:List (kk.T×s.T)} (h:MapH O w g kk s m) (K:KL P kk kt) (k:kk.T) (hko:kk.ok k) (ht:P.underlying t=some (.map kt ve)) {cs:List Value} {v:s.T}:
  ∃o',(Instr.mapUpdate t (.map (some g)) (kk.v k) (vof s cs)).run P w=.ok () (w.putObj g o')∧∀(O':List Nat) (w2:World),(∀(cs':List Value) (x':s.T),Rep O w s cs' x'→Rep O' w2 s cs' x')→Rep O' w2 s cs v→w2.heap[g]? =some o'→MapH O' w2 g kk s (gput m k v):=by
 obtain ⟨es,h1,h2,h3,h4⟩:=h
 have hg:=MapKept.run_getObj_map (P:=P) (r:=g) h3
 have hk:=K.chk false w k
 have hset: ∀o:Obj,(Go.setObj g o).run P w=.ok () (w.putObj g o):=fun o=>by simp [Go.setObj,Sem.run,h3,World.putObj]
 have hn:=nodup_keys h1 h2
 rcases K.fnd s w es k with ⟨q,e,a1,a2,a3⟩ | ⟨a1,a2⟩
 ·
  have hmem:=List.mem_of_getElem? a1
  have hq:=(List.getElem?_eq_some_iff.1 a1).1
  refine ⟨.map (ments kk s (es.set q (e.1,cs,v)) 0).toArray es.length,?_,fun O' w2 hR hr ho=>⟨es.set q (e.1,cs,v),?_,gput_nodup h2 k v,?_,fun e' he'=>?_⟩⟩
  ·
   have e1:((ments kk s es 0).toArray[q]?.map (·.key)).getD (kk.v k)=kk.v k:=by
    rw [List.getElem?_toArray,ments_at,a1]; simp [a2]
   have e2:=ments_set es q e a1 cs v
   rw [a2] at e2
   have hs:=K.sty w k
   simp only [Instr.mapUpdate,Sem.run_bind,run_underlying ht,hg,hk,a3,Result.andThen_ok,e1,hs]
   rw [e2,hset,a2]
  ·
   obtain ⟨p1,p2⟩:=perm_at a1 (e.1,cs,v)
   obtain ⟨r,r1,r2⟩:=gput_old h2 v (h1.mem_iff.1 (List.mem_map.2 ⟨e,hmem,rfl⟩))
   rw [←a2]
   have p3:=(p1.map fun e=>(e.1,e.2.2)).symm.trans (h1.trans r1)
   rw [List.map_cons] at p3
   have p4:=(List.perm_cons _).1 p3
   refine ((p2.map fun e=>(e.1,e.2.2)).trans ?_).trans r2.symm
   rw [List.map_cons]
   exact p4.cons _
  · rw [List.length_set]; exact ho
  ·
   rcases List.mem_or_eq_of_mem_set he' with q' | q'
   · exact ⟨(h4 e' q').1,hR _ _ (h4 e' q').2⟩
   · rw [q']; exact ⟨by rw [a2]; exact hko,hr⟩
 ·
  refine ⟨.map (ments kk s (es++[(k,cs,v)]) 0).toArray (es.length+1),?_,fun O' w2 hR hr ho=>⟨es++[(k,cs,v)],?_,gput_nodup h2 k v,?_,fun e' he'=>?_⟩⟩
  ·
   have e1:(ments kk s (es++[(k,cs,v)]) 0).toArray=(ments kk s es 0).toArray.push { key:=kk.v k,val:=vof s cs,born:=es.length }:=by
    rw [ments_snoc]; simp
   simp only [Instr.mapUpdate,Sem.run_bind,run_underlying ht,hg,hk,a2,Result.andThen_ok]
   rw [e1,hset]
  ·
   have hk':k∉m.map (·.1):=fun q=>a1 (by have:=(h1.map (·.1)).mem_iff.2 q; rwa [keys_map] at this)
   rw [gput_new v hk',List.map_append]
   exact h1.append (.refl _)
  · rw [List.length_append]; exact ho
  ·
   rcases List.mem_append.1 he' with q | q
   · exact ⟨(h4 e' q).1,hR _ _ (h4 e' q).2⟩
   · rw [List.mem_singleton] at q; rw [q]; exact ⟨hko,hr⟩
theorem Cx.mpput (h:Cx I O0 w0 w L) {i g:Nat} {m:List (kk.T×s.T)} (hi:L[i]? =some (.mp g kk s m)) (K:KL P kk kt) {k:kk.T} (hko:kk.ok k) (ht:P.underlying t=some (.map kt ve)) {cs:List Value} {v:s.T} (hr:Rep (O0++blocks L) w s cs v)
  (hx:ρ x=.map (some g)) (hy:ρ y=kk.v k) (hv:ρ z=vof s cs):Sk P ρ ⟨d,.mapUpdate t x y z,ty,pos,af,gd⟩ w fun w'=>Cx I O0 w0 w' (L.set i (.mp g kk s (gput m k v)))∧Fr (fun b=>some g=some b) w w':=by
 obtain ⟨o',h1,h2⟩:=put_run (h.mpat hi) K k hko ht (cs:=cs) (v:=v)
 have hl:=(h.lt g (List.mem_append_right _ (List.mem_filterMap.2 ⟨_,List.mem_of_getElem? hi,rfl⟩)))
 have hF:Fr (fun b=>some g=some b) w (w.putObj g o'):=Fr.putObj (S:=fun k=>some g=some k) w rfl o'
 have hb: ∀k,some g=some k→k∈O0++blocks L:=fun k e=>by
  injection e with e; subst e
  exact List.mem_append_right _ (List.mem_filterMap.2 ⟨_,List.mem_of_getElem? hi,rfl⟩)
 refine ⟨w.putObj g o',by simp [execOp,hx,hy,hv,h1],h.turn hi hF (.inl rfl) fun O ho=>?_,hF⟩
 have hsub: ∀k∈O,k∈O0++blocks L∨w.heap.size≤k:=ho
 exact h2 O _ (fun cs' x' hr'=>Rep.step hF hb hsub hr') (Rep.step hF hb hsub hr) (World.putObj_heap_same hl)
theorem Cx.mpins (h:Cx I O0 w0 w L) {i g:Nat} {m:List (kk.T×s.T)} (hi:L[i]? =some (.mp g kk s m)) (K:KL P kk kt) {k:kk.T} (hko:kk.ok k) (ht:P.underlying t=some (.map kt ve)) {cs:List Value} {v:s.T} (hr:Rep (O0++blocks L) w s cs v)
  (hx:ρ x=.map (some g)) (hy:ρ y=kk.v k) (hv:ρ z=vof s cs):Sk P ρ ⟨d,.insert t x y z,ty,pos,af,gd⟩ w fun w'=>Cx I O0 w0 w' (L.set i (.mp g kk s (gput m k v)))∧Fr (fun b=>some g=some b) w w':=by
 obtain ⟨w',h1,h2⟩:=h.mpput (d:=d) (ty:=ty) (pos:=pos) (af:=af) (gd:=gd) hi K hko ht hr hx hy hv
 exact ⟨w',by simpa [execOp] using h1,h2⟩
theorem Cx.mpperm (h:Cx I O0 w0 w L) {i g:Nat} {m m':List (kk.T×s.T)} (hi:L[i]? =some (.mp g kk s m)) (hp:m.Perm m'):Cx I O0 w0 w (L.set i (.mp g kk s m')):=
 h.turn hi (Fr.refl _ w) (.inl rfl) fun O ho=>by
  obtain ⟨es,h1,h2,h3,h4⟩:=h.mpat hi
  exact ⟨es,h1.trans hp,(hp.map _).nodup_iff.1 h2,h3,fun e he=>⟨(h4 e he).1,Rep.sub ho (h4 e he).2⟩⟩
end
section
variable {P : Program} {ρ : Operand → Value} {d : Option Tmp} {ty s1 s2 : TypeId} {pos : String} {af : Array Edge} {gd : Option (Nat × Bool)} {x y : Operand}
