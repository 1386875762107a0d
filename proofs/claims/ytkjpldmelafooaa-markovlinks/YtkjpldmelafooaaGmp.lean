import Derived.Test.YtkjpldmelafooaaRbox
import Derived.Maps.RangeRun
set_option linter.all false
namespace Go.Proofs.Ytkjpldmelafooaa
namespace Ev
instance instDecKK:(k:KK)→DecidableEq k.T
 | .int=>inferInstanceAs (DecidableEq Int)
 | .pair=>inferInstanceAs (DecidableEq (Int×Int))
/-! Lists of keys and values. -/
def gget {κ ν:Type} [DecidableEq κ]:List (κ×ν)→κ→Option ν
 | [],_=>none
 | p::r,k=>if k=p.1 then some p.2 else gget r k
def gput {κ ν:Type} [DecidableEq κ]:List (κ×ν)→κ→ν→List (κ×ν)
 | [],k,v=>[(k,v)]
 | p::r,k,v=>if k=p.1 then (k,v)::r else p::gput r k v
section
variable {κ ν : Type} [DecidableEq κ]
theorem gget_mem: ∀{m:List (κ×ν)} {k:κ} {v:ν},gget m k=some v→(k,v)∈m
 | [],_,_,h=>by cases h
 | p::r,k,v,h=>by
  unfold gget at h
  split at h
  · rename_i e; injection h with h; subst e; rw [←h]; exact List.mem_cons_self
  · exact List.mem_cons_of_mem _ (gget_mem h)
theorem gget_of: ∀{m:List (κ×ν)},(m.map (·.1)).Nodup→∀{k:κ} {v:ν},(k,v)∈m→gget m k=some v
 | [],_,_,_,h=>by cases h
 | p::r,hn,k,v,h=>by
  rw [List.map_cons,List.nodup_cons] at hn
  unfold gget
  rcases List.mem_cons.1 h with e | e
  · rw [←e,if_pos rfl]
  · rw [if_neg (fun q=>hn.1 (by rw [←q]; exact List.mem_map.2 ⟨_,e,rfl⟩)),gget_of hn.2 e]
theorem gget_none {m:List (κ×ν)} {k:κ}:gget m k=none↔k∉m.map (·.1):=by
 induction m with
 | nil=>simp [gget]
 | cons p r ih=>
  unfold gget
  rw [List.map_cons,List.mem_cons]
  by_cases e:k=p.1
  · rw [if_pos e]; simp [e]
  · rw [if_neg e,ih]; simp [e]
theorem gput_new: ∀{m:List (κ×ν)} {k:κ} (v:ν),k∉m.map (·.1)→gput m k v=m++[(k,v)]
 | [],_,_,_=>rfl
 | p::r,k,v,h=>by
  rw [List.map_cons,List.mem_cons] at h
  unfold gput
  rw [if_neg (fun q=>h (.inl q)),gput_new v fun q=>h (.inr q)]; rfl
theorem gput_keys: ∀(m:List (κ×ν)) (k:κ) (v:ν),(gput m k v).map (·.1)=if k∈m.map (·.1) then m.map (·.1) else m.map (·.1)++[k]
 | [],_,_=>rfl
 | p::r,k,v=>by
  have ih:=gput_keys r k v
  unfold gput
  rw [List.map_cons]
  by_cases e:k=p.1
  · rw [if_pos e,if_pos (by rw [e]; exact List.mem_cons_self),List.map_cons,e]
  ·
   rw [if_neg e,List.map_cons,ih]
   by_cases q:k∈r.map (·.1)
   · rw [if_pos q,if_pos (List.mem_cons_of_mem _ q)]
   · rw [if_neg q,if_neg (fun z=>(List.mem_cons.1 z).elim e q)]; rfl
theorem perm_at {α:Type}: ∀{l:List α} {q:Nat} {a:α},l[q]? =some a→∀b,l.Perm (a::l.eraseIdx q)∧(l.set q b).Perm (b::l.eraseIdx q)
 | [],_,_,h,_=>by simp at h
 | c::l,0,a,h,b=>by
  have h:c=a:=by simpa using h
  subst h
  exact ⟨.refl _,.refl _⟩
 | c::l,q+1,a,h,b=>by
  obtain ⟨h1,h2⟩:=perm_at (l:=l) (q:=q) (by simpa using h) b
  exact ⟨(h1.cons c).trans (.swap _ _ _),(h2.cons c).trans (.swap _ _ _)⟩
theorem gput_nodup {m:List (κ×ν)} (hn:(m.map (·.1)).Nodup) (k:κ) (v:ν):((gput m k v).map (·.1)).Nodup:=by
 rw [gput_keys]
 split
 · exact hn
 ·
  rename_i q
  rw [List.nodup_append]
  exact ⟨hn,by simp,fun a ha b hb e=>by rw [List.mem_singleton] at hb; rw [e,hb] at ha; exact q ha⟩
theorem gput_old: ∀{m:List (κ×ν)},(m.map (·.1)).Nodup→∀{k:κ} {u:ν} (v:ν),(k,u)∈m→∃r,m.Perm ((k,u)::r)∧(gput m k v).Perm ((k,v)::r)
 | [],_,_,_,_,h=>by cases h
 | p::r,hn,k,u,v,h=>by
  rw [List.map_cons,List.nodup_cons] at hn
  unfold gput
  rcases List.mem_cons.1 h with e | e
  ·
   rw [←e,if_pos rfl]
   exact ⟨r,.refl _,.refl _⟩
  ·
   have hne:k≠p.1:=fun q=>hn.1 (by rw [←q]; exact List.mem_map.2 ⟨_,e,rfl⟩)
   rw [if_neg hne]
   obtain ⟨r',h1,h2⟩:=gput_old hn.2 v e
   exact ⟨p::r',(h1.cons p).trans (.swap _ _ _),(h2.cons p).trans (.swap _ _ _)⟩
end
def dist {κ:Type} [DecidableEq κ] (l:List κ):Option Unit:=if l.Nodup then some () else none
theorem qci {κ:Type} [DecidableEq κ] {l:List κ} {u:Unit} (h:dist l=some u):l.Nodup:=by
 unfold dist at h
 split at h
 · assumption
 · cases h
theorem fold_new {κ ν:Type} [DecidableEq κ]: ∀(l m:List (κ×ν)),((m++l).map (·.1)).Nodup→l.foldl (fun m p=>gput m p.1 p.2) m=m++l
 | [],m,_=>by simp
 | p::l,m,h=>by
  rw [List.foldl_cons,gput_new p.2 (fun q=>by
   rw [List.map_append,List.map_cons,List.nodup_append] at h
   exact h.2.2 _ q _ List.mem_cons_self rfl)]
  have:=fold_new l (m++[p]) (by simpa using h)
  rw [show (p.1,p.2)=p from rfl,this]; simp
theorem qcr {κ ν:Type} [DecidableEq κ] {kvs kvs':List (κ×ν)} (hn:(kvs.map (·.1)).Nodup) (hp:kvs'.Perm kvs):(kvs'.foldl (fun m p=>gput m p.1 p.2) []).Perm kvs:=by
 rw [fold_new kvs' [] (by rw [List.nil_append]; exact (hp.map _).nodup_iff.2 hn)]
 exact hp
/-! Entries. -/
section
variable {kk : KK} {s : Sh}
theorem ments_len: ∀(es:List (kk.T×List Value×s.T)) (i:Nat),(ments kk s es i).length=es.length
 | [],_=>rfl
 | _::r,i=>by simp [ments,ments_len r (i+1)]
theorem ments_at: ∀(es:List (kk.T×List Value×s.T)) (i q:Nat),(ments kk s es i)[q]? =es[q]?.map fun e=>{ key:=kk.v e.1,val:=vof s e.2.1,born:=i+q }
 | [],_,_=>by simp [ments]
 | e::r,i,0=>by simp [ments]
 | e::r,i,q+1=>by
  have:=ments_at r (i+1) q
  simp only [ments,List.getElem?_cons_succ,this,Nat.add_assoc,Nat.add_comm 1]
theorem ments_snoc: ∀(es:List (kk.T×List Value×s.T)) (i:Nat) (p:kk.T×List Value×s.T),ments kk s (es++[p]) i=ments kk s es i++[{ key:=kk.v p.1,val:=vof s p.2.1,born:=i+es.length }]
 | [],i,p=>by simp [ments]
 | q::r,i,p=>by simp [ments,ments_snoc r (i+1) p,Nat.add_assoc,Nat.add_comm 1]
theorem ments_set (es:List (kk.T×List Value×s.T)) (q:Nat) (e:kk.T×List Value×s.T) (he:es[q]? =some e) (cs:List Value) (x:s.T):
  (ments kk s es 0).toArray.modify q (fun m=>{ m with key:=kk.v e.1,val:=vof s cs })=(ments kk s (es.set q (e.1,cs,x)) 0).toArray:=by
 apply Array.ext_getElem?
 intro i
 have hq:=(List.getElem?_eq_some_iff.1 he).1
 rw [Array.getElem?_modify,List.getElem?_toArray,List.getElem?_toArray,ments_at,ments_at]
 by_cases e1:q=i
 ·
  subst e1
  rw [if_pos rfl,he,List.getElem?_set_self hq]; rfl
 · rw [if_neg e1,List.getElem?_set_ne e1]
end
structure KL (P:Program) (kk:KK) (kt:TypeId):Prop where
 chk: ∀(emp:Bool) (w:World) (k:kk.T),(Instr.checkKey emp 10000 kt (kk.v k)).run P w=.ok () w
 fnd: ∀(s:Sh) (w:World) (es:List (kk.T×List Value×s.T)) (k:kk.T),(∃q e,es[q]? =some e∧e.1=k∧(Instr.findKey kt (kk.v k) (ments kk s es 0)).run P w=.ok (some (q,vof s e.2.1)) w)∨
  (k∉es.map (·.1)∧(Instr.findKey kt (kk.v k) (ments kk s es 0)).run P w=.ok none w)
 sty: ∀(w:World) (k:kk.T),(Instr.keyThatStays (kk.v k) (kk.v k)).run P w=.ok (kk.v k) w
section
variable {P : Program} {kt ve t e : TypeId} {it : TypeInfo}
theorem now_gint (s:Sh) (k:Int): ∀(es:List (KK.int.T×List Value×s.T)) (i j:Nat),(∃q e,es[q]? =some e∧e.1=k∧Instr.findNow (.int .i64) (.int .i64 k) (ments .int s es i) j=some (some (j+q,vof s e.2.1)))∨(k∉es.map (·.1)∧Instr.findNow (.int .i64) (.int .i64 k) (ments .int s es i) j=some none)
 | [],i,j=>.inr ⟨List.not_mem_nil,rfl⟩
 | p::r,i,j=>by
  by_cases h:k=p.1
  · exact .inl ⟨0,p,rfl,h.symm,by simp [ments,Instr.findNow,Instr.sameNow,KK.v,h]⟩
  ·
   have h2:(k == p.1)=false:=by simpa using h
   have h3:Instr.findNow (.int .i64) (.int .i64 k) (ments .int s (p::r) i) j=Instr.findNow (.int .i64) (.int .i64 k) (ments .int s r (i+1)) (j+1):=by
    simp [ments,Instr.findNow,Instr.sameNow,KK.v,h,h2]
   rw [h3]
   rcases now_gint s k r (i+1) (j+1) with ⟨q,e,a1,a2,a3⟩ | ⟨a1,a2⟩
   · exact .inl ⟨q+1,e,by simpa using a1,a2,by rw [a3]; congr 3; omega⟩
   ·
    refine .inr ⟨fun q=>?_,a2⟩
    rw [List.map_cons,List.mem_cons] at q
    exact q.elim h a1
theorem KL.int (hk:P.underlying kt=some (.int .i64)):KL P .int kt:=
 ⟨fun emp w k=>check_int hk w emp k,fun s w es k=>by
  rcases now_gint s k es 0 0 with ⟨q,e,a1,a2,a3⟩ | ⟨a1,a2⟩
  ·
   refine .inl ⟨q,e,a1,a2,?_⟩
   rw [Nat.zero_add] at a3
   show (Instr.findKey kt (.int .i64 k) _).run P w=_
   simp [Instr.findKey,run_underlying hk,a3]
  ·
   refine .inr ⟨a1,?_⟩
   show (Instr.findKey kt (.int .i64 k) _).run P w=_
   simp [Instr.findKey,run_underlying hk,a2],fun w k=>by
  show (Instr.keyThatStays (.int .i64 k) (.int .i64 k)).run P w=_
  simp [Instr.keyThatStays,Instr.sameBits]; rfl⟩
theorem ask_gpair (s:Sh) (w:World) (hu:P.underlying kt=some (.array 2 e)) (hi:P.info? e=some it) (hc:P.cellsOf e=1) (he:P.underlying e=some (.int .i64)) (ha: ∀w,(isAgg e).run P w=.ok false w) (k:Int×Int):
  ∀(es:List (KK.pair.T×List Value×s.T)) (i j:Nat),(∃q e,es[q]? =some e∧e.1=k∧(Instr.findAsking kt (kv2 k) (ments .pair s es i) j).run P w=.ok (some (j+q,vof s e.2.1)) w)∨(k∉es.map (·.1)∧(Instr.findAsking kt (kv2 k) (ments .pair s es i) j).run P w=.ok none w)
 | [],i,j=>.inr ⟨List.not_mem_nil,by simp [ments,Instr.findAsking]⟩
 | p::r,i,j=>by
  have hq:=eq2 (P:=P) (kt:=kt) w hu hi hc he ha k p.1
  by_cases h:k=p.1
  ·
   refine .inl ⟨0,p,rfl,h.symm,?_⟩
   have hm:ments .pair s (p::r) i={ key:=kv2 p.1,val:=vof s p.2.1,born:=i }::ments .pair s r (i+1):=rfl
   rw [hm,Instr.findAsking]
   simp only [Sem.run_bind,hq,Result.andThen_ok]
   simp [h]
  ·
   have h3:(Instr.findAsking kt (kv2 k) (ments .pair s (p::r) i) j).run P w=(Instr.findAsking kt (kv2 k) (ments .pair s r (i+1)) (j+1)).run P w:=by
    have hm:ments .pair s (p::r) i={ key:=kv2 p.1,val:=vof s p.2.1,born:=i }::ments .pair s r (i+1):=rfl
    rw [hm,Instr.findAsking]
    simp only [Sem.run_bind,hq,Result.andThen_ok]
    simp [h]
   rw [h3]
   rcases ask_gpair s w hu hi hc he ha k r (i+1) (j+1) with ⟨q,e',a1,a2,a3⟩ | ⟨a1,a2⟩
   · exact .inl ⟨q+1,e',by simpa using a1,a2,by rw [a3]; congr 3; omega⟩
   ·
    refine .inr ⟨fun q=>?_,a2⟩
    rw [List.map_cons,List.mem_cons] at q
    exact q.elim h a1
theorem KL.pair (hu:P.underlying kt=some (.array 2 e)) (hi:P.info? e=some it) (hc:P.cellsOf e=1) (hs: ∀w,(sizeOf e).run P w=.ok 1 w) (he:P.underlying e=some (.int .i64)) (ha: ∀w,(isAgg e).run P w=.ok false w):KL P .pair kt:=
 ⟨fun emp w k=>check2 w emp hu hs he ha k,fun s w es k=>by
  show (∃(q:Nat) (e:KK.pair.T×List Value×s.T),es[q]? =some e∧e.1=k∧(Instr.findKey kt (kv2 k) (ments .pair s es 0)).run P w=.ok (some (q,vof s e.2.1)) w)∨(_∧(Instr.findKey kt (kv2 k) (ments .pair s es 0)).run P w=.ok none w)
  cases es with
  | nil=>exact .inr ⟨List.not_mem_nil,by simp [Instr.findKey,run_underlying hu,ments,Instr.findNow]⟩
  | cons p r=>
   have e1:(Instr.findKey kt (kv2 k) (ments .pair s (p::r) 0)).run P w=(Instr.findAsking kt (kv2 k) (ments .pair s (p::r) 0) 0).run P w:=by
    simp [Instr.findKey,run_underlying hu,ments,Instr.findNow,Instr.sameNow,kv2,KK.v]
   rw [e1]
   rcases ask_gpair s w hu hi hc he ha k (p::r) 0 0 with ⟨q,e',a1,a2,a3⟩ | h
   · exact .inl ⟨q,e',a1,a2,by rw [a3,Nat.zero_add]⟩
   · exact .inr h,fun w k=>by
  show (Instr.keyThatStays (kv2 k) (kv2 k)).run P w=_
  simp [Instr.keyThatStays,Instr.sameBits,kv2]; rfl⟩
end
section
variable {P : Program} {ρ : Operand → Value} {d : Option Tmp} {ty : TypeId} {pos : String} {af : Array Edge} {gd : Option (Nat × Bool)} {x y z : Operand}
variable {I : Nat → Prop} {O0 : List Nat} {w0 w w' : World} {L : List Fact} {t kt ve : TypeId} {kk : KK} {s : Sh}
theorem Cx.newmp (h:Cx I O0 w0 w L) (kk:KK) (s:Sh):Cx I O0 w0 (w.alloc (.map #[] 0)) (.mp w.heap.size kk s []::L):=by
 refine h.new (Fr.alloc w _ _) (fun g hg=>?_) (fun O ho=>?_)
 · injection hg with hg; omega
 ·
  refine ⟨[],.nil,.nil,?_,fun e he=>absurd he List.not_mem_nil⟩
  show (w.heap.push _)[w.heap.size]? =_
  simp [ments]
theorem Cx.mkmp (h:Cx I O0 w0 w L) (kk:KK) (s:Sh):Op P ρ ⟨d,.makeMap t none,ty,pos,af,gd⟩ w fun v w'=> ∃g,v=.map (some g)∧Cx I O0 w0 w' (.mp g kk s []::L)∧Fr (fun _=>False) w w'∧w.heap.size≤g:=by
 refine ⟨.map (some w.heap.size),w.alloc (.map #[] 0),?_,w.heap.size,rfl,h.newmp kk s,Fr.alloc w _ _,Nat.le_refl _⟩
 simp [execOp,Instr.makeMap]
theorem Cx.mkmpn {n:Int} (h:Cx I O0 w0 w L) (kk:KK) (s:Sh) (ht:P.underlying t=some (.map kt ve)) (hx:ρ x=.int .i64 n):Op P ρ ⟨d,.makeMap t (some x),ty,pos,af,gd⟩ w fun v w'=> ∃g,v=.map (some g)∧Cx I O0 w0 w' (.mp g kk s []::L)∧Fr (fun _=>False) w w'∧w.heap.size≤g:=by
 refine ⟨.map (some w.heap.size),w.alloc (.map #[] 0),?_,w.heap.size,rfl,h.newmp kk s,Fr.alloc w _ _,Nat.le_refl _⟩
 simp [execOp,Instr.makeMap,hx,run_underlying ht,asInt]
 rfl
theorem nodup_keys {es:List (kk.T×List Value×s.T)} {m:List (kk.T×s.T)} (h1:(es.map fun e=>(e.1,e.2.2)).Perm m) (h2:(m.map (·.1)).Nodup):((es.map fun e=>(e.1,e.2.2)).map (·.1)).Nodup:=(h1.map (·.1)).nodup_iff.2 h2
theorem keys_map {es:List (kk.T×List Value×s.T)}:(es.map fun e=>(e.1,e.2.2)).map (·.1)=es.map (·.1):=by rw [List.map_map]; rfl
theorem MapH.look {O:List Nat} {g:Nat} {m:List (kk.T×s.T)} (h:MapH O w g kk s m) (K:KL P kk kt) (k:kk.T): ∃es clock,w.heap[g]? =some (.map es clock)∧
  ((∃q cs v,gget m k=some v∧(Instr.findKey kt (kk.v k) es.toList).run P w=.ok (some (q,vof s cs)) w∧Rep O w s cs v)∨(gget m k=none∧(Instr.findKey kt (kk.v k) es.toList).run P w=.ok none w)):=by
 obtain ⟨es,h1,h2,h3,h4⟩:=h
 refine ⟨_,_,h3,?_⟩
 rcases K.fnd s w es k with ⟨q,e,a1,a2,a3⟩ | ⟨a1,a2⟩
 ·
  have hm:=List.mem_of_getElem? a1
  refine .inl ⟨q,e.2.1,e.2.2,?_,a3,(h4 e hm).2⟩
  rw [←a2]
  exact gget_of h2 (h1.mem_iff.1 (List.mem_map.2 ⟨e,hm,rfl⟩))
 ·
  refine .inr ⟨gget_none.2 fun q=>a1 ?_,a2⟩
  have:=(h1.map (·.1)).mem_iff.2 q
  rwa [keys_map] at this
theorem Cx.mpat (h:Cx I O0 w0 w L) {i g:Nat} {m:List (kk.T×s.T)} (hi:L[i]? =some (.mp g kk s m)):MapH (O0++blocks L) w g kk s m:=h.at_ hi
theorem Cx.mplk (h:Cx I O0 w0 w L) {i g:Nat} {m:List (kk.T×s.T)} (hi:L[i]? =some (.mp g kk s m)) (K:KL P kk kt) {k:kk.T} (ht:P.underlying t=some (.map kt ve)) {zc:List Value} {zx:s.T} (hz: ∀w,(zeroValue ve).run P w=.ok (vof s zc) w) (hzr:Rep (O0++blocks L) w s zc zx)
  (ok:Bool): ∃cs,(∀{ρ:Operand→Value} {d:Option Tmp} {ty:TypeId} {pos:String} {af:Array Edge} {gd:Option (Nat×Bool)} {x y:Operand},ρ x=.map (some g)→ρ y=kk.v k→Yv P ρ ⟨d,.lookup t x y ok,ty,pos,af,gd⟩ w (bif ok then .tuple #[vof s cs,.bool (gget m k).isSome] else vof s cs))∧Rep (O0++blocks L) w s cs ((gget m k).getD zx):=by
 obtain ⟨es,clock,hm,hf⟩:=(h.mpat hi).look K k
 have hg:=MapKept.run_getObj_map (P:=P) (r:=g) hm
 have hk:=fun b=>K.chk b w k
 unfold Yv
 rcases hf with ⟨q,cs,v,h1,h2,h3⟩ | ⟨h1,h2⟩
 ·
  refine ⟨cs,fun hx hy=>?_,by rw [h1]; exact h3⟩
  cases ok<;>simp [execOp,hx,hy,Instr.lookup,run_underlying ht,hg,hk,h2,h1,Result.andThen]
 ·
  refine ⟨zc,fun hx hy=>?_,by rw [h1]; exact hzr⟩
  cases ok<;>simp [execOp,hx,hy,Instr.lookup,run_underlying ht,hg,hk,h2,h1,Result.andThen,hz]
theorem put_run {O:List Nat} {g:Nat} {m:List (kk.T×s.T)} (h:MapH O w g kk s m) (K:KL P kk kt) (k:kk.T) (hko:kk.ok k) (ht:P.underlying t=some (.map kt ve)) {cs:List Value} {v:s.T}:
  ∃o',(Instr.mapUpdate t (.map (some g)) (kk.v k) (vof s cs)).run P w=.ok () (w.putObj g o')∧∀(O':List Nat) (w2:World),(∀(cs':List Value) (x':s.T),Rep O w s cs' x'→Rep O' w2 s cs' x')→Rep O' w2 s cs v→w2.heap[g]? =some o'→MapH O' w2 g kk s (gput m k v):=by
 obtain ⟨es,h1,h2,h3,h4⟩:=h
 have hg:=MapKept.run_getObj_map (P:=P) (r:=g) h3
 have hk:=K.chk false w k
 have hset: ∀o:Obj,(Go.setObj g o).run P w=.ok () (w.putObj g o):=fun o=>by simp [Go.setObj,Sem.run,h3,World.putObj]
 have hn:=nodup_keys h1 h2
 rcases K.fnd s w es k with ⟨q,e,a1,a2,a3⟩ | ⟨a1,a2⟩
 ·
  have hmem:=List.mem_of_getElem? a1
  have hq:=(List.getElem?_eq_some_iff.1 a1).1
  refine ⟨.map (ments kk s (es.set q (e.1,cs,v)) 0).toArray es.length,?_,fun O' w2 hR hr ho=>⟨es.set q (e.1,cs,v),?_,gput_nodup h2 k v,?_,fun e' he'=>?_⟩⟩
  ·
   have e1:((ments kk s es 0).toArray[q]?.map (·.key)).getD (kk.v k)=kk.v k:=by
    rw [List.getElem?_toArray,ments_at,a1]; simp [a2]
   have e2:=ments_set es q e a1 cs v
   rw [a2] at e2
   have hs:=K.sty w k
   simp only [Instr.mapUpdate,Sem.run_bind,run_underlying ht,hg,hk,a3,Result.andThen_ok,e1,hs]
   rw [e2,hset,a2]
  ·
   obtain ⟨p1,p2⟩:=perm_at a1 (e.1,cs,v)
   obtain ⟨r,r1,r2⟩:=gput_old h2 v (h1.mem_iff.1 (List.mem_map.2 ⟨e,hmem,rfl⟩))
   rw [←a2]
   have p3:=(p1.map fun e=>(e.1,e.2.2)).symm.trans (h1.trans r1)
   rw [List.map_cons] at p3
   have p4:=(List.perm_cons _).1 p3
   refine ((p2.map fun e=>(e.1,e.2.2)).trans ?_).trans r2.symm
   rw [List.map_cons]
   exact p4.cons _
  · rw [List.length_set]; exact ho
  ·
   rcases List.mem_or_eq_of_mem_set he' with q' | q'
   · exact ⟨(h4 e' q').1,hR _ _ (h4 e' q').2⟩
   · rw [q']; exact ⟨by rw [a2]; exact hko,hr⟩
 ·
  refine ⟨.map (ments kk s (es++[(k,cs,v)]) 0).toArray (es.length+1),?_,fun O' w2 hR hr ho=>⟨es++[(k,cs,v)],?_,gput_nodup h2 k v,?_,fun e' he'=>?_⟩⟩
  ·
   have e1:(ments kk s (es++[(k,cs,v)]) 0).toArray=(ments kk s es 0).toArray.push { key:=kk.v k,val:=vof s cs,born:=es.length }:=by
    rw [ments_snoc]; simp
   simp only [Instr.mapUpdate,Sem.run_bind,run_underlying ht,hg,hk,a2,Result.andThen_ok]
   rw [e1,hset]
  ·
   have hk':k∉m.map (·.1):=fun q=>a1 (by have:=(h1.map (·.1)).mem_iff.2 q; rwa [keys_map] at this)
   rw [gput_new v hk',List.map_append]
   exact h1.append (.refl _)
  · rw [List.length_append]; exact ho
  ·
   rcases List.mem_append.1 he' with q | q
   · exact ⟨(h4 e' q).1,hR _ _ (h4 e' q).2⟩
   · rw [List.mem_singleton] at q; rw [q]; exact ⟨hko,hr⟩
theorem Cx.mpput (h:Cx I O0 w0 w L) {i g:Nat} {m:List (kk.T×s.T)} (hi:L[i]? =some (.mp g kk s m)) (K:KL P kk kt) {k:kk.T} (hko:kk.ok k) (ht:P.underlying t=some (.map kt ve)) {cs:List Value} {v:s.T} (hr:Rep (O0++blocks L) w s cs v)
  (hx:ρ x=.map (some g)) (hy:ρ y=kk.v k) (hv:ρ z=vof s cs):Sk P ρ ⟨d,.mapUpdate t x y z,ty,pos,af,gd⟩ w fun w'=>Cx I O0 w0 w' (L.set i (.mp g kk s (gput m k v)))∧Fr (fun b=>some g=some b) w w':=by
 obtain ⟨o',h1,h2⟩:=put_run (h.mpat hi) K k hko ht (cs:=cs) (v:=v)
 have hl:=(h.lt g (List.mem_append_right _ (List.mem_filterMap.2 ⟨_,List.mem_of_getElem? hi,rfl⟩)))
 have hF:Fr (fun b=>some g=some b) w (w.putObj g o'):=Fr.putObj (S:=fun k=>some g=some k) w rfl o'
 have hb: ∀k,some g=some k→k∈O0++blocks L:=fun k e=>by
  injection e with e; subst e
  exact List.mem_append_right _ (List.mem_filterMap.2 ⟨_,List.mem_of_getElem? hi,rfl⟩)
 refine ⟨w.putObj g o',by simp [execOp,hx,hy,hv,h1],h.turn hi hF (.inl rfl) fun O ho=>?_,hF⟩
 have hsub: ∀k∈O,k∈O0++blocks L∨w.heap.size≤k:=ho
 exact h2 O _ (fun cs' x' hr'=>Rep.step hF hb hsub hr') (Rep.step hF hb hsub hr) (World.putObj_heap_same hl)
theorem Cx.mpins (h:Cx I O0 w0 w L) {i g:Nat} {m:List (kk.T×s.T)} (hi:L[i]? =some (.mp g kk s m)) (K:KL P kk kt) {k:kk.T} (hko:kk.ok k) (ht:P.underlying t=some (.map kt ve)) {cs:List Value} {v:s.T} (hr:Rep (O0++blocks L) w s cs v)
  (hx:ρ x=.map (some g)) (hy:ρ y=kk.v k) (hv:ρ z=vof s cs):Sk P ρ ⟨d,.insert t x y z,ty,pos,af,gd⟩ w fun w'=>Cx I O0 w0 w' (L.set i (.mp g kk s (gput m k v)))∧Fr (fun b=>some g=some b) w w':=by
 obtain ⟨w',h1,h2⟩:=h.mpput (d:=d) (ty:=ty) (pos:=pos) (af:=af) (gd:=gd) hi K hko ht hr hx hy hv
 exact ⟨w',by simpa [execOp] using h1,h2⟩
theorem mp_in {T:List Fact} {i:Nat} {g:Nat} {m:List (kk.T×s.T)} (hi:T[i]? =some (.mp g kk s m)):g∈blocks T:=List.mem_filterMap.2 ⟨_,List.mem_of_getElem? hi,rfl⟩
theorem Cx.mplen (h:Cx I O0 w0 w L) {i g:Nat} {m:List (kk.T×s.T)} (hi:L[i]? =some (.mp g kk s m)) (ht:P.underlying t=some (.map kt ve)) (hx:ρ x=.map (some g)):
  Yv P ρ ⟨d,.call { callee:=.builtin .len,args:=#[x],argTypes:=#[t] },ty,pos,af,gd⟩ w (.int .i64 m.length):=by
 obtain ⟨es,h1,h2,h3,h4⟩:=h.mpat hi
 have hl:es.length=m.length:=by rw [←h1.length_eq,List.length_map]
 unfold Yv
 have hg:=MapKept.run_getObj_map (P:=P) (r:=g) h3
 simp [execOp,resolve,invoke,builtin,hx,Builtin.len_,run_underlying ht,hg,goInt,ments_len,hl]
theorem mixE.ssk {P:Program} {ops:Array Oper} {C:Frm} {K:Env→World→Prop} {o:Oper} {rest:List Oper} {E:Env} {w:World} {R:World→Prop} (hc:C.c w) (h:Sk P E.ev o w R) (hk: ∀w',R w'→C.c w'∧mixE P ops C K rest (E.put o.dst undef) w') (hg:o.guard=none:=by rfl) (hk0:kdS C.S o=.soft:=by rfl):mixE P ops C K (o::rest) E w:=by
 have hw:wantE ops E o=true:=by unfold wantE Region.wanted; rw [hg]
 obtain ⟨w',hr,hR⟩:=h
 simp only [mixE,oneE,hw,if_true,hk0]
 refine ⟨hc,?_⟩
 unfold wpV; rw [hr]; exact hk w' hR
theorem Cx.mpperm (h:Cx I O0 w0 w L) {i g:Nat} {m m':List (kk.T×s.T)} (hi:L[i]? =some (.mp g kk s m)) (hp:m.Perm m'):Cx I O0 w0 w (L.set i (.mp g kk s m')):=
 h.turn hi (Fr.refl _ w) (.inl rfl) fun O ho=>by
  obtain ⟨es,h1,h2,h3,h4⟩:=h.mpat hi
  exact ⟨es,h1.trans hp,(hp.map _).nodup_iff.1 h2,h3,fun e he=>⟨(h4 e he).1,Rep.sub ho (h4 e he).2⟩⟩
end
section
variable {P : Program} {ρ : Operand → Value} {d : Option Tmp} {ty s1 s2 : TypeId} {pos : String} {af : Array Edge} {gd : Option (Nat × Bool)} {x y : Operand}
theorem pu_and {a b:Int} (n:Nat) (hx:ρ x=.int .i64 a) (hy:ρ y=.int .i64 b) (hb:b=2 ^ n-1) (hn:n≤62):Pu P ρ ⟨d,.binOp .and s1 x y s2,ty,pos,af,gd⟩ (.int .i64 (a%2 ^ n)):=fun w=>by
 unfold Yv
 have hpow:(2:Nat) ^ n≤2 ^ 62:=Nat.pow_le_pow_right (by decide) hn
 have hpos:0<(2:Nat) ^ n:=Nat.pow_pos (by decide)
 have e0:((2:Int) ^ n)=((2 ^ n:Nat):Int):=by simp
 have key:((BitVec.ofInt 64 a &&& BitVec.ofInt 64 b).toNat:Int)=a%2 ^ n:=by
  have h1:(BitVec.ofInt 64 b).toNat=2 ^ n-1:=by
   rw [BitVec.toNat_ofInt,hb,e0]
   have:(((2 ^ n:Nat):Int)-1)%((2 ^ 64:Nat):Int)=((2 ^ n:Nat):Int)-1:=Int.emod_eq_of_lt (by omega) (by
    have:(2:Nat) ^ 62<2 ^ 64:=by decide
    omega)
   rw [this]; omega
  rw [BitVec.toNat_and,h1,Nat.and_two_pow_sub_one_eq_mod,BitVec.toNat_ofInt,e0]
  have hd:((2 ^ n:Nat):Int)∣((2 ^ 64:Nat):Int):=Int.natCast_dvd_natCast.2 (Nat.pow_dvd_pow 2 (by omega))
  rw [Int.natCast_emod,Int.toNat_of_nonneg (Int.emod_nonneg _ (by decide)),Int.emod_emod_of_dvd _ hd]
 have hr:I64 (a%2 ^ n):=by
  have h1:0≤a%2 ^ n:=Int.emod_nonneg _ (by rw [e0]; omega)
  have h2:a%2 ^ n<2 ^ n:=Int.emod_lt_of_pos _ (by rw [e0]; omega)
  have:(2:Nat) ^ 62<9223372036854775807:=by decide
  unfold I64; rw [e0] at h2; rw [e0] at h1⊢; omega
 have hw:IntKind.i64.wrap (((BitVec.ofInt 64 a &&& BitVec.ofInt 64 b).toNat:Int))=a%2 ^ n:=by rw [key]; exact hr.wrap
 have hb64:IntKind.i64.bits=64:=rfl
 have h9:(Op.intBits .and .i64 a b).run P w=.ok (.int .i64 (a%2 ^ n)) w:=by
  unfold Op.intBits
  show (Pure.pure (Value.int .i64 (IntKind.i64.wrap (((BitVec.ofInt 64 a &&& BitVec.ofInt 64 b).toNat:Nat):Int))):Sem Value).run P w=_
  rw [hw]; rfl
 have h8:(binOp .and s1 (.int .i64 a) (.int .i64 b)).run P w=.ok (.int .i64 (a%2 ^ n)) w:=by
  have:binOp .and s1 (.int .i64 a) (.int .i64 b)=Op.intBits .and .i64 a b:=by simp [binOp]
  rw [this]; exact h9
 have hg:(eqGuard .and s1 x y (.int .i64 a) (.int .i64 b)).run P w=.ok () w:=by simp [eqGuard]
 simp [execOp,hx,hy,hg,h8]
theorem pu_shlc {k2:IntKind} {a b q v:Int} (hx:ρ x=.int .i64 a) (hy:ρ y=.int k2 b) (h0:0≤b) (h1:b.toNat≤64) (hq:2 ^ b.toNat=q) (h:chk (a*q)=some v):Pu P ρ ⟨d,.binOp .shl s1 x y s2,ty,pos,af,gd⟩ (.int .i64 v):=fun w=>by
 unfold Yv
 obtain ⟨e,hr⟩:=chk_some h
 have hb:min b.toNat (IntKind.i64.bits)=b.toNat:=Nat.min_eq_left h1
 subst hq
 subst e
 have hw:=hr.wrap
 simp [execOp,hx,hy,go_sem,Op.shift,hb,show¬b<0 by omega,hw]
end
theorem map4 {P:Program} {w:World} {f:ResultVar→Sem Value} {r s q p:ResultVar} {v u x y:Value} (h1:(f r).run P w=.ok v w) (h2:(f s).run P w=.ok u w) (h3:(f q).run P w=.ok x w) (h4:(f p).run P w=.ok y w):(do let vs←#[r,s,q,p].mapM f; Pure.pure (if h:vs.size=1 then vs[0] else .tuple vs):Sem Value).run P w=.ok (.tuple #[v,u,x,y]) w:=by
 simp [h1,h2,h3,h4]
theorem res4 {P:Program} {fn:Func} {E:Env} {w:World} {r s q p:ResultVar} {v u x y:Value} (h:fn.results=#[r,s,q,p]) (h1:RV P E w r v) (h2:RV P E w s u) (h3:RV P E w q x) (h4:RV P E w p y): ∀tmps:Array Value,(∀t,tmps.getD t undef=E t)→(results fn tmps).run P w=.ok (.tuple #[v,u,x,y]) w:=fun tmps ht=>by
 unfold results
 rw [h]
 exact map4 (h1.run ht) (h2.run ht) (h3.run ht) (h4.run ht)
