import Derived.Test.YtkjpldmelafooaaCall
set_option linter.all false
namespace Go.Proofs.Ytkjpldmelafooaa
namespace Ev
section
variable {I : Nat → Prop} {O0 : List Nat} {w0 w w' : World} {L : List Fact}
theorem Fr.putObj (w:World) {S:Nat→Prop} {g:Nat} (hp:S g) (o:Obj):Fr S w (w.putObj g o):=
  ⟨rfl,rfl,rfl,by simp,fun i hi hn=>World.putObj_heap_other (fun e=>by subst e; exact hn hp),Nat.le_refl _⟩
theorem Cx.obj (h:Cx I O0 w0 w L) (o:Obj):Cx I O0 w0 (w.alloc o) (.obj w.heap.size o::L):=
  h.new (Fr.alloc w _ _) (f:=.obj w.heap.size o) (fun g hg=>by injection hg with hg; omega) fun _ _=>World.alloc_heap_new w o
theorem Cx.setObj (h:Cx I O0 w0 w L) {i g:Nat} {o:Obj} (hi:L[i]? =some (.obj g o)) (o':Obj):Cx I O0 w0 (w.putObj g o') (L.set i (.obj g o')):=by
  have hb:w.heap[g]? =some o:=h.at_ hi
  exact h.turn hi (Fr.putObj (S:=fun k=>some g=some k) w rfl o') (.inl rfl) fun O _=>World.putObj_heap_same (Array.getElem?_eq_some_iff.1 hb).1
theorem Cx.ob (h:Cx I O0 w0 w L) {i g:Nat} {o:Obj} (hi:L[i]? =some (.obj g o)):w.heap[g]? =some o:=h.at_ hi
