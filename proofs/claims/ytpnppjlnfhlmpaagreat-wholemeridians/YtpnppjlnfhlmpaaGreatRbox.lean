import Derived.Test.YtpnppjlnfhlmpaaGreatMap
import Derived.Test.YtpnppjlnfhlmpaaGreatCells
set_option linter.all false
namespace Go.Proofs.YtpnppjlnfhlmpaaGreat
namespace Ev
def RBox (O:List Nat) (w:World) (g:Nat) (t:TypeId) (cs:List Value):Prop:=Blk w g t cs∧g∉O
section
variable {I : Nat → Prop} {O0 : List Nat} {w0 w w' : World} {L : List Fact} {g : Nat} {t : TypeId} {cs : List Value}
theorem Cx.rb (h:Cx I O0 w0 w L) {i:Nat} (hi:L[i]? =some (.rbox g t cs)):RBox (O0++blocks L) w g t cs:=h.at_ hi
theorem Cx.rbx (h:Cx I O0 w0 w L) {i:Nat} (hi:L[i]? =some (.rbox g t cs)):Blk w g t cs:=(h.rb hi).1
theorem Cx.rbx2 (h:Cx I O0 w0 w L) {i:Nat} (hi:L[i]? =some (.rbox g t cs)) (is:List Nat) (hf:Fr (fun k=>k∈blocks (is.filterMap (L[·]?))) w w'):Blk w' g t cs:=
  (h.rbx hi).fr hf fun hin=>(h.rb hi).2 (List.mem_append_right _ (by
    obtain ⟨f,hf,hb⟩:=List.mem_filterMap.1 hin
    obtain ⟨q,_,hq⟩:=List.mem_filterMap.1 hf
    exact List.mem_filterMap.2 ⟨f,List.mem_of_getElem? hq,hb⟩))
theorem blocks_rbox:blocks (.rbox g t cs::L)=blocks L:=by unfold blocks; rw [List.filterMap_cons]; rfl
theorem Cx.argB (h:Cx I O0 w0 w0 L) (hb: ∀k∈blocks L,k∈O0) (hr:RBox O0 w0 g t cs):Cx I O0 w0 w0 (.rbox g t cs::L):=by
  refine ⟨h.fr,h.lt0,by rw [blocks_rbox]; exact h.nd,by rw [blocks_rbox]; exact h.fresh,fun f hm=>?_⟩
  rw [blocks_rbox]
  rcases List.mem_cons.1 hm with rfl | hm
  · exact ⟨hr.1,fun hk=>(List.mem_append.1 hk).elim hr.2 fun hk=>hr.2 (hb g hk)⟩
  · exact h.all f hm
theorem Cx.freezeB (h:Cx I O0 w0 w L) {i:Nat} (hi:L[i]? =some (.box g t cs)) (hv:w0.heap.size≤g):Cx I O0 w0 w (L.set i (.rbox g t cs)):=by
  have hs:(blocks (L.set i (.rbox g t cs))).Sublist (blocks L):=blocks_set_none rfl
  have ho: ∀k∈O0++blocks (L.set i (.rbox g t cs)),k∈O0++blocks L∨w.heap.size≤k:=fun k hk=>.inl (by
    rcases List.mem_append.1 hk with h1 | h1
    · exact List.mem_append_left _ h1
    · exact List.mem_append_right _ (hs.subset h1))
  refine ⟨h.fr,h.lt0,hs.nodup h.nd,fun k hk=>h.fresh k (hs.subset hk),fun f hm=>?_⟩
  rcases List.mem_or_eq_of_mem_set hm with h1 | h1
  · exact Fact.step (Fr.refl (fun _=>False) w) (fun _ h=>h.elim) ho (h.all f h1) (fun _ _ h=>h)
  · subst h1
    refine ⟨h.bx hi,fun hk=>?_⟩
    rcases List.mem_append.1 hk with h2 | h2
    · have:=h.lt0 g h2; omega
    · obtain ⟨a,ha,hb⟩:=List.mem_filterMap.1 h2
      obtain ⟨j,hj⟩:=List.mem_iff_getElem?.1 ha
      by_cases hij:i=j
      · subst hij
        rw [List.getElem?_set_self (List.getElem?_eq_some_iff.1 hi).1] at hj
        injection hj with hj
        subst hj
        cases hb
      · rw [List.getElem?_set_ne hij] at hj
        exact nd_other h.nd hj hi (Ne.symm hij) hb rfl
theorem Cx.box_new (h:Cx (fun _=>False) O0 w0 w L) {i:Nat} (hi:L[i]? =some (.box g t cs)):w0.heap.size≤g:=
  (h.fresh g (List.mem_filterMap.2 ⟨_,List.mem_of_getElem? hi,rfl⟩)).resolve_right id
theorem Cx.qdr {B:List Fact} (hI:I=fun k=>k∈blocks B) (h:Cx I O0 w0 w L) {i:Nat} (hi:L[i]? =some (.box g t cs))
    (hB: ∀f∈B,∀g,f.blk=some g→∃(j:Nat) (f':Fact),L[j]? =some f'∧j≠i∧f'.blk=some g):w0.heap.size≤g:=by
  rcases h.fresh g (List.mem_filterMap.2 ⟨_,List.mem_of_getElem? hi,rfl⟩) with h1 | h1
  · exact h1
  · subst hI
    obtain ⟨f,hf,hb⟩:=List.mem_filterMap.1 h1
    obtain ⟨j,f',hj,hne,hb'⟩:=hB f hf g hb
    exact absurd hb' (nd_other h.nd hi hj (Ne.symm hne) rfl)
end
section
variable {P : Program} {ρ : Operand → Value} {d : Option Tmp} {ty : TypeId} {pos : String} {af : Array Edge} {gd : Option (Nat × Bool)} {x y z : Operand} {w w' : World}
def ients:List (Int×Int)→Nat→List MapEntry
  | [],_=>[]
  | p::r,i=>{ key:=.int .i64 p.1,val:=.int .i64 p.2,born:=i }::ients r (i+1)
def imget:List (Int×Int)→Int→Option Int
  | [],_=>none
  | p::r,k=>if k=p.1 then some p.2 else imget r k
theorem ients_len: ∀(m:List (Int×Int)) (i:Nat),(ients m i).length=m.length
  | [],_=>rfl
  | _::r,i=>by simp [ients,ients_len r (i+1)]
theorem ients_snoc: ∀(m:List (Int×Int)) (i:Nat) (p:Int×Int),ients (m++[p]) i=ients m i++[{ key:=.int .i64 p.1,val:=.int .i64 p.2,born:=i+m.length }]
  | [],i,p=>by simp [ients]
  | q::r,i,p=>by simp [ients,ients_snoc r (i+1) p,Nat.add_assoc,Nat.add_comm 1]
theorem now_int (k:Int): ∀(m:List (Int×Int)) (i j:Nat),(∃q,Instr.findNow (.int .i64) (.int .i64 k) (ients m i) j=some (some (q,.int .i64 ((imget m k).getD 0)))∧imget m k≠none)∨(Instr.findNow (.int .i64) (.int .i64 k) (ients m i) j=some none∧imget m k=none)
  | [],i,j=>.inr ⟨rfl,rfl⟩
  | p::r,i,j=>by
    by_cases h:k=p.1
    · exact .inl ⟨j,by simp [ients,Instr.findNow,Instr.sameNow,h,imget],by simp [imget,h]⟩
    · have:=now_int k r (i+1) (j+1)
      have h2:(k == p.1)=false:=by simpa using h
      simpa [ients,Instr.findNow,Instr.sameNow,h,h2,imget] using this
theorem find_int {kt:TypeId} (hk:P.underlying kt=some (.int .i64)) (w:World) (k:Int) (m:List (Int×Int)):
    (∃q,(Instr.findKey kt (.int .i64 k) (ients m 0)).run P w=.ok (some (q,.int .i64 ((imget m k).getD 0))) w∧imget m k≠none)∨((Instr.findKey kt (.int .i64 k) (ients m 0)).run P w=.ok none w∧imget m k=none):=by
  rcases now_int k m 0 0 with ⟨q,h1,h2⟩ | ⟨h1,h2⟩
  · exact .inl ⟨q,by simp [Instr.findKey,run_underlying hk,h1],h2⟩
  · exact .inr ⟨by simp [Instr.findKey,run_underlying hk,h1],h2⟩
theorem check_intn (n:Nat) {kt:TypeId} (hk:P.underlying kt=some (.int .i64)) (w:World) (emp:Bool) (k:Int):(Instr.checkKey emp (n+1) kt (.int .i64 k)).run P w=.ok () w:=by
  simp [Instr.checkKey,run_underlying hk]
theorem check_int {kt:TypeId} (hk:P.underlying kt=some (.int .i64)) (w:World) (emp:Bool) (k:Int):(Instr.checkKey emp 10000 kt (.int .i64 k)).run P w=.ok () w:=check_intn 9999 hk w emp k
variable {I : Nat → Prop} {O0 : List Nat} {w0 : World} {L : List Fact} {t kt ve : TypeId}
def imobj (m:List (Int×Int)):Obj:=.map (ients m 0).toArray m.length
theorem Cx.mkimap {n:Int} (h:Cx I O0 w0 w L) (ht:P.underlying t=some (.map kt ve)) (hx:ρ x=.int .i64 n):Op P ρ ⟨d,.makeMap t (some x),ty,pos,af,gd⟩ w fun v w'=> ∃g,v=.map (some g)∧Cx I O0 w0 w' (.obj g (imobj [])::L)∧Fr (fun _=>False) w w':=by
  refine ⟨.map (some w.heap.size),w.alloc (imobj []),?_,w.heap.size,rfl,h.obj (imobj []),Fr.alloc w _ _⟩
  simp [execOp,Instr.makeMap,hx,run_underlying ht,asInt]
  rfl
theorem ilk {g:Nat} {m:List (Int×Int)} {k:Int} (hm:w.heap[g]? =some (imobj m)) (ht:P.underlying t=some (.map kt ve)) (hz: ∀w,(zeroValue ve).run P w=.ok (.int .i64 0) w)
    (hk:P.underlying kt=some (.int .i64)) (hx:ρ x=.map (some g)) (hy:ρ y=.int .i64 k):
    Yv P ρ ⟨d,.lookup t x y true,ty,pos,af,gd⟩ w (.tuple #[.int .i64 ((imget m k).getD 0),.bool (imget m k).isSome]):=by
  unfold Yv
  have hg:=MapKept.run_getObj_map (P:=P) (r:=g) (show w.heap[g]? =some (.map (ients m 0).toArray m.length) from hm)
  have hc:=fun b=>check_int (P:=P) hk w b k
  rcases find_int hk w k m with ⟨q,h1,h2⟩ | ⟨h1,h2⟩
  · have h3:(imget m k).isSome=true:=Option.isSome_iff_ne_none.2 h2
    simp [execOp,hx,hy,Instr.lookup,run_underlying ht,hg,hc,h1,Result.andThen,h3]
  · simp [execOp,hx,hy,Instr.lookup,run_underlying ht,hg,hc,h1,Result.andThen,hz,h2]
theorem ilk1 {g:Nat} {m:List (Int×Int)} {k:Int} (hm:w.heap[g]? =some (imobj m)) (ht:P.underlying t=some (.map kt ve)) (hz: ∀w,(zeroValue ve).run P w=.ok (.int .i64 0) w)
    (hk:P.underlying kt=some (.int .i64)) (hx:ρ x=.map (some g)) (hy:ρ y=.int .i64 k):
    Yv P ρ ⟨d,.lookup t x y false,ty,pos,af,gd⟩ w (.int .i64 ((imget m k).getD 0)):=by
  unfold Yv
  have hg:=MapKept.run_getObj_map (P:=P) (r:=g) (show w.heap[g]? =some (.map (ients m 0).toArray m.length) from hm)
  have hc:=fun b=>check_int (P:=P) hk w b k
  rcases find_int hk w k m with ⟨q,h1,h2⟩ | ⟨h1,h2⟩
  · simp [execOp,hx,hy,Instr.lookup,run_underlying ht,hg,hc,h1,Result.andThen]
  · simp [execOp,hx,hy,Instr.lookup,run_underlying ht,hg,hc,h1,Result.andThen,hz,h2]
theorem ilen {g:Nat} {m:List (Int×Int)} (hm:w.heap[g]? =some (imobj m)) (ht:P.underlying t=some (.map kt ve)) (hx:ρ x=.map (some g)):
    Yv P ρ ⟨d,.call { callee:=.builtin .len,args:=#[x],argTypes:=#[t] },ty,pos,af,gd⟩ w (.int .i64 m.length):=by
  unfold Yv
  have hg:=MapKept.run_getObj_map (P:=P) (r:=g) (show w.heap[g]? =some (.map (ients m 0).toArray m.length) from hm)
  simp [execOp,resolve,invoke,builtin,hx,Builtin.len_,run_underlying ht,hg,goInt,ients_len]
theorem Cx.iput (h:Cx I O0 w0 w L) {i g:Nat} {m:List (Int×Int)} {k:Int} {v:Int} (hi':L[i]? =some (.obj g (imobj m))) (hn:imget m k=none) (ht:P.underlying t=some (.map kt ve))
    (hk:P.underlying kt=some (.int .i64)) (hx:ρ x=.map (some g)) (hy:ρ y=.int .i64 k) (hz:ρ z=.int .i64 v):
    Sk P ρ ⟨d,.mapUpdate t x y z,ty,pos,af,gd⟩ w fun w'=>Cx I O0 w0 w' (L.set i (.obj g (imobj (m++[(k,v)]))))∧Fr (fun b=>some g=some b) w w':=by
  have hm:w.heap[g]? =some (imobj m):=h.ob hi'
  have hg:=MapKept.run_getObj_map (P:=P) (r:=g) (show w.heap[g]? =some (.map (ients m 0).toArray m.length) from hm)
  have hc:=fun b=>check_int (P:=P) hk w b k
  have e1:imobj (m++[(k,v)])=.map ((ients m 0).toArray.push { key:=.int .i64 k,val:=.int .i64 v,born:=m.length }) (m.length+1):=by
    unfold imobj
    rw [ients_snoc]
    simp
  refine ⟨w.putObj g (imobj (m++[(k,v)])),?_,h.setObj hi' _,Fr.putObj (S:=fun b=>some g=some b) w rfl _⟩
  rcases find_int hk w k m with ⟨q,h1,h2⟩ | ⟨h1,h2⟩
  · exact absurd hn h2
  · rw [e1]
    have hset: ∀o:Obj,(Go.setObj g o).run P w=.ok () (w.putObj g o):=fun o=>by
      have hm':w.heap[g]? =some (.map (ients m 0).toArray m.length):=hm
      simp [Go.setObj,Sem.run,hm',World.putObj]
    simp [execOp,hx,hy,hz,Instr.mapUpdate,run_underlying ht,hg,hc,h1,Result.andThen,hset]
