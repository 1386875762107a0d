import Derived.Test.YtkjpldmelafooaaMore
set_option linter.all false
namespace Go.Proofs.Ytkjpldmelafooaa
namespace Ev
section
variable {P : Program} {ops : Array Oper} {K : Env → World → Prop} {o : Oper} {rest : List Oper} {E : Env} {w w' : World}
theorem rg {r:Option Nat} {m:Bool} {N:Nat} {nrm rt:Asn} {ex:List (Nat×Asn)} {id:Nat} (h:lex P ops nrm ops.toList E w) (hd:ops.all (dstOk N)=true:=by decide+kernel):WcM r m P N (.region id ops false) nrm rt ex E w:=Wc.region hd h
theorem lp (v:Value) (h:Pu P E.ev o v) (hk:lex P ops K rest (E.put o.dst v) w) (hg:o.guard=none:=by rfl):lex P ops K (o::rest) E w:=lex.pure h hk hg
theorem gp {j:Nat} {q:Bool} {t:Tmp} (hg:o.guard=some (j,q)) (hd:(ops[j]?).bind (·.dst)=some t) (b:Bool) (hv:E.f t=.bool b) (hb:b=q) (v:Value) (h:Pu P E.ev o v) (hk:lex P ops K rest (E.put o.dst v) w):lex P ops K (o::rest) E w:=lex.gpure (qaw hg hd hv hb) h hk
theorem gv {j:Nat} {q:Bool} {t:Tmp} (hg:o.guard=some (j,q)) (hd:(ops[j]?).bind (·.dst)=some t) (b:Bool) (hv:E.f t=.bool b) (hb:b=q) (v:Value) (h:(execOp E.ev o).run P w=.ok (.value v) w') (hk:lex P ops K rest (E.put o.dst v) w'):lex P ops K (o::rest) E w:=lex.gval (qaw hg hd hv hb) h hk
theorem gs {j:Nat} {q:Bool} {t:Tmp} (hg:o.guard=some (j,q)) (hd:(ops[j]?).bind (·.dst)=some t) (b:Bool) (hv:E.f t=.bool b) (hb:b=!q) (hk:lex P ops K rest (E.put o.dst undef) w):lex P ops K (o::rest) E w:=lex.gskip (qay hg hd hv hb) hk
theorem lv (v:Value) (h:(execOp E.ev o).run P w=.ok (.value v) w') (hk:lex P ops K rest (E.put o.dst v) w') (hg:o.guard=none:=by rfl):lex P ops K (o::rest) E w:=lex.val h hk hg
theorem mp {C:Frm} (v:Value) (h:Pu P E.ev o v) (hk:mixE P ops C K rest (E.put o.dst v) w) (hg:o.guard=none:=by rfl) (hk0:kdS C.S o=.pure:=by rfl):mixE P ops C K (o::rest) E w:=mixE.pure h hk hg hk0
theorem ln (h:K E w):lex P ops K [] E w:=h
end
theorem os {α:Type} {a b:α} (h:some a=some b):a=b:=Option.some.inj h
theorem tt {α:Type} {b:Bool} {x y z:α} (h:b=true) (k:cond b x y=z):x=z:=(cT h).symm.trans k
theorem tf {α:Type} {b:Bool} {x y z:α} (h:b=false) (k:cond b x y=z):y=z:=(cF h).symm.trans k
theorem cg {α β:Type} {f g:α→β} {v:β} (h:f=g) (k:α) (e:g k=v):f k=v:=(congrFun h k).trans e
theorem bn {α β:Type} {x:Option α} {f:α→Option β} {r:β} (h:x.bind f=some r): ∃a,x=some a∧∃g,g=f∧g a=some r:=by
  obtain ⟨a,h1,h2⟩:=bd h
  exact ⟨a,h1,f,rfl,h2⟩
abbrev iv (z:Int):Value:=.int .i64 z
abbrev pg (g:Nat):Value:=.pointer (some ⟨g,0,none⟩)
theorem nb {a b:Nat} (h:Nat.ble a b=true):a≤b:=Nat.le_of_ble_eq_true h
abbrev si:Sh:=.int .i64
abbrev rZ (n:Int):List Int:=List.replicate n.toNat (0:Int)
theorem tV {P:Program} {E:Env} {w:World} {t:Tmp} (v:Value) (h:RV P E w (.tmp t) v):RV P E w (.tmp t) v:=h
theorem Cx.sE {I:Nat→Prop} {O0:List Nat} {w0 w:World} {L:List Fact} (h:Cx I O0 w0 w L) (is:List Nat) (hn:is.Nodup:=by decide):Cx I O0 w0 w (is.filterMap (L[·]?)):=h.sel is hn
theorem bB {α β:Type} (a:α) (f:α→Option β):(some a).bind f=f a:=rfl
theorem dT {p:Prop} [Decidable p] (h:p):decide p=true:=decide_eq_true h
theorem dF {p:Prop} [Decidable p] (h: ¬p):decide p=false:=decide_eq_false h
theorem kT {α:Type} (a b:α):cond true a b=a:=rfl
theorem kF {α:Type} (a b:α):cond false a b=b:=rfl
theorem gE {α:Type} {l:List α} {i:Nat} (h:i<l.length):l[i]? =some l[i]:=List.getElem?_eq_getElem h
