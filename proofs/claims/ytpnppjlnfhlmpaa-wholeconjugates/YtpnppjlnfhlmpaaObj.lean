import Derived.Test.YtpnppjlnfhlmpaaCall
set_option linter.all false
namespace Go.Proofs.Ytpnppjlnfhlmpaa
namespace Ev
section
variable {I : Nat → Prop} {O0 : List Nat} {w0 w w' : World} {L : List Fact}
theorem Fr.putObj (w:World) {S:Nat→Prop} {g:Nat} (hp:S g) (o:Obj):Fr S w (w.putObj g o):=
  ⟨rfl,rfl,rfl,by simp,fun i hi hn=>World.putObj_heap_other (fun e=>by subst e; exact hn hp),Nat.le_refl _⟩
theorem Cx.obj (h:Cx I O0 w0 w L) (o:Obj):Cx I O0 w0 (w.alloc o) (.obj w.heap.size o::L):=
  h.new (Fr.alloc w _ _) (f:=.obj w.heap.size o) (fun g hg=>by injection hg with hg; omega) fun _ _=>World.alloc_heap_new w o
theorem Cx.setObj (h:Cx I O0 w0 w L) {i g:Nat} {o:Obj} (hi:L[i]? =some (.obj g o)) (o':Obj):Cx I O0 w0 (w.putObj g o') (L.set i (.obj g o')):=by
  have hb:w.heap[g]? =some o:=h.at_ hi
  exact h.turn hi (Fr.putObj (S:=fun k=>some g=some k) w rfl o') (.inl rfl) fun O _=>World.putObj_heap_same (Array.getElem?_eq_some_iff.1 hb).1
theorem Cx.ob (h:Cx I O0 w0 w L) {i g:Nat} {o:Obj} (hi:L[i]? =some (.obj g o)):w.heap[g]? =some o:=h.at_ hi
theorem Cx.drop1 {f:Fact} (h:Cx I O0 w0 w (f::L)):Cx I O0 w0 w L:=by
  have hs: ∀k∈blocks L,k∈blocks (f::L):=fun k hk=>by
    obtain ⟨a,ha,hb⟩:=List.mem_filterMap.1 hk
    exact List.mem_filterMap.2 ⟨a,List.mem_cons_of_mem _ ha,hb⟩
  refine ⟨h.fr,h.lt0,?_,fun k hk=>h.fresh k (hs k hk),fun a ha=>Fact.step (Fr.refl (fun _=>False) w) (fun _ h=>h.elim) (fun k hk=>?_) (h.all a (List.mem_cons_of_mem _ ha)) (fun _ _ h=>h)⟩
  · have hn:=h.nd
    unfold blocks at hn⊢
    rw [List.filterMap_cons] at hn
    split at hn
    · exact hn
    · exact (List.nodup_cons.1 hn).2
  · rcases List.mem_append.1 hk with h1 | h1
    · exact .inl (List.mem_append_left _ h1)
    · exact .inl (List.mem_append_right _ (hs k h1))
