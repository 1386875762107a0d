/- Short names for the commonest steps. -/
import Derived.Test.YticemffhlapnnaaMore
set_option linter.unusedVariables false
namespace Go.Proofs.Yticemffhlapnnaa
namespace Ev
section
variable {P : Program} {ops : Array Oper} {K : Env → World → Prop} {o : Oper} {rest : List Oper} {E : Env} {w w' : World}
theorem rg {r : Option Nat} {m : Bool} {N : Nat} {nrm rt : Asn} {ex : List (Nat × Asn)} {id : Nat} (h : lex P ops nrm ops.toList E w) (hd : ops.all (dstOk N) = true := by decide +kernel) : WcM r m P N (.region id ops false) nrm rt ex E w := Wc.region hd h
theorem lp (v : Value) (h : Pu P E.ev o v) (hk : lex P ops K rest (E.put o.dst v) w) (hg : o.guard = none := by rfl) : lex P ops K (o :: rest) E w := lex.pure h hk hg
theorem gp {j : Nat} {q : Bool} {t : Tmp} (hg : o.guard = some (j, q)) (hd : (ops[j]?).bind (·.dst) = some t) (b : Bool) (hv : E.f t = .bool b) (hb : b = q) (v : Value) (h : Pu P E.ev o v) (hk : lex P ops K rest (E.put o.dst v) w) : lex P ops K (o :: rest) E w := lex.gpure (want_t hg hd hv hb) h hk
theorem gv {j : Nat} {q : Bool} {t : Tmp} (hg : o.guard = some (j, q)) (hd : (ops[j]?).bind (·.dst) = some t) (b : Bool) (hv : E.f t = .bool b) (hb : b = q) (v : Value) (h : (execOp E.ev o).run P w = .ok (.value v) w') (hk : lex P ops K rest (E.put o.dst v) w') : lex P ops K (o :: rest) E w := lex.gval (want_t hg hd hv hb) h hk
theorem gs {j : Nat} {q : Bool} {t : Tmp} (hg : o.guard = some (j, q)) (hd : (ops[j]?).bind (·.dst) = some t) (b : Bool) (hv : E.f t = .bool b) (hb : b = !q) (hk : lex P ops K rest (E.put o.dst undef) w) : lex P ops K (o :: rest) E w := lex.gskip (want_f hg hd hv hb) hk
theorem lv (v : Value) (h : (execOp E.ev o).run P w = .ok (.value v) w') (hk : lex P ops K rest (E.put o.dst v) w') (hg : o.guard = none := by rfl) : lex P ops K (o :: rest) E w := lex.val h hk hg
theorem mp {C : Frm} (v : Value) (h : Pu P E.ev o v) (hk : mixE P ops C K rest (E.put o.dst v) w) (hg : o.guard = none := by rfl) (hk0 : kdS C.S o = .pure := by rfl) : mixE P ops C K (o :: rest) E w := mixE.pure h hk hg hk0
theorem ln (h : K E w) : lex P ops K [] E w := h
end
theorem os {α : Type} {a b : α} (h : some a = some b) : a = b := Option.some.inj h
theorem tt {α : Type} {b : Bool} {x y z : α} (h : b = true) (k : cond b x y = z) : x = z := (cT h).symm.trans k
theorem tf {α : Type} {b : Bool} {x y z : α} (h : b = false) (k : cond b x y = z) : y = z := (cF h).symm.trans k
end Ev
end Go.Proofs.Yticemffhlapnnaa
