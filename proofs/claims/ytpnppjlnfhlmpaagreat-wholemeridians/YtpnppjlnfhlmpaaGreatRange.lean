import Derived.Test.YtpnppjlnfhlmpaaGreatCall
import Derived.Test.YtpnppjlnfhlmpaaGreatMore
import Derived.Test.YtpnppjlnfhlmpaaGreatNest
import Derived.Test.YtpnppjlnfhlmpaaGreatCells
set_option linter.all false
namespace Go.Proofs.YtpnppjlnfhlmpaaGreat
namespace Ev

def YieldW (P:Program) (l:Nat) (args:Array Value) (W:World) (R:Ending→World→Prop):Prop:=
 ∃fn tmps assign body,(Instr.yield l args).run P W=.ok (.round l fn tmps assign body) W∧RoundIn (wF none) 0 P l fn tmps assign body W R

def putAll (E:Env):List (Tmp×Value)→Env
 | []=>E
 | (p,v)::r=>putAll (E.put (some p) v) r
theorem putAll_sim {m:Bool} {N:Nat}: ∀(l:List (Tmp×Value)) {t:Array Value} {ds:List Deferred} {E:Env},(∀q∈l,q.1<N)→Sim m N { tmps:=t,defers:=ds } E→Sim m N { tmps:=l.foldl (fun t (q:Tmp×Value)=>t.setIfInBounds q.1 q.2) t,defers:=ds } (putAll E l)
 | [],_,_,_,_,h=>h
 | (p,v)::r,t,ds,E,hl,h=>by
  rw [List.foldl_cons]
  refine putAll_sim r (fun q hq=>hl q (by simp [hq])) ?_
  have hp:=hl (p,v) (by simp)
  refine ⟨by simpa using h.1,h.2.1,fun s=>?_⟩
  simp only [Env.put]
  cases hb:Nat.beq s p with
  | true=>
   have e:s=p:=Nat.eq_of_beq_eq_true hb
   subst e
   have h1:t.size=N:=h.1
   simp [h1,hp]
  | false=>
   have hne:p≠s:=fun e=>by subst e; rw [Nat.beq_refl] at hb; cases hb
   have h2:=h.2.2 s
   simp only [cond_false]
   rw [←h2]
   simp [Array.getElem?_setIfInBounds_ne hne]

section
variable {P : Program} {N : Nat} {nrm rt : Asn} {ex : List (Nat × Asn)} {E : Env} {w : World}
/-! Functions that leave with marks. -/
def marksF (ms:List Nat):List Fact:=ms.map fun D=>.obj D (.deferred (some []))
theorem leaves_marks {fn:Func} {tmps:Array Value} {R:Ending→World→Prop} {I:Nat→Prop} {O0:List Nat} {w0:World} {L:List Fact}: ∀(ms:List Nat) (w:World),Cx I O0 w0 w (marksF ms++L)→
  (∀w',Cx I O0 w0 w' L→∃v,(results fn tmps).run P w'=.ok v w'∧R (.returned v) w')→LeavesInM (wF none) 0 P fn tmps R (ms.map markD) .returning w
 | [],w,h,k=>k w h
 | D::ms,w,h,k=>by
  refine ⟨by simp,.inl ⟨D,_,rfl,run_takeDeferred (h.ob (i:=0) rfl),?_⟩⟩
  exact leaves_marks ms _ ((h.setObj (i:=0) (g:=D) rfl (.deferred none)).drop1) k
theorem calls_of_WcM {f:FuncId} {fn:Func} {c:Code} {args:Array Value} {R:Ending→World→Prop} (hf:P.funcs[f]? =some fn) (hb:fn.body=some c) (hn:args.size≤fn.ntmps)
  (h: ∀K:Asn,(∀E w (ms:List Nat) (I:Nat→Prop) (O0:List Nat) (w0:World) (L:List Fact),E.ms=ms→Cx I O0 w0 w (marksF ms++L)→(∀w',Cx I O0 w0 w' L→∃v,(∀tmps:Array Value,(∀t,tmps.getD t undef=E t)→(results fn tmps).run P w'=.ok v w')∧R (.returned v) w')→K E w)→WcM none true P fn.ntmps c K K [] (start args.toList) w):Calls P f args w R:=by
 have fin: ∀(a':Act) (w':World),(∃E',Sim true fn.ntmps a' E'∧∃(ms:List Nat) (I:Nat→Prop) (O0:List Nat) (w0:World) (L:List Fact),E'.ms=ms∧Cx I O0 w0 w' (marksF ms++L)∧(∀w'',Cx I O0 w0 w'' L→∃v,(∀tmps:Array Value,(∀t,tmps.getD t undef=E' t)→(results fn tmps).run P w''=.ok v w'')∧R (.returned v) w''))→LeavesInM (wF none) 0 P fn a'.tmps R a'.defers .returning w':=by
  rintro a' w' ⟨E',hs,ms,I,O0,w0,L,rfl,hC,hk⟩
  have hd:a'.defers=E'.ms.map markD:=hs.2.1
  rw [hd]
  exact leaves_marks E'.ms w' hC fun w'' hC'=>by obtain ⟨v,h1,h2⟩:=hk w'' hC'; exact ⟨v,h1 _ hs.2.2,h2⟩
 refine (callsIn_wF (r:=none) (n:=0)).1 (callsIn_of_wp_marks hf hb trivial (wpIn_mono (h (fun E' w'=> ∃(ms:List Nat) (I:Nat→Prop) (O0:List Nat) (w0:World) (L:List Fact),E'.ms=ms∧Cx I O0 w0 w' (marksF ms++L)∧(∀w'',Cx I O0 w0 w'' L→∃v,(∀tmps:Array Value,(∀t,tmps.getD t undef=E' t)→(results fn tmps).run P w''=.ok v w'')∧R (.returned v) w'')) (fun E w ms I O0 w0 L h1 h2 h3=>⟨ms,I,O0,w0,L,h1,h2,h3⟩) 0 _ (start_sim hn)) fun e a' w' hq=>?_) rfl)
 cases e with
 | normal=>exact fin a' w' hq
 | ret=>exact fin a' w' hq
 | exit id=>obtain ⟨E',hs,K,hk,h'⟩:=hq; simp at hk
 | _=>exact hq.elim

/-! Calls of yield. -/
theorem op_yield {ρ:Operand→Value} {d:Option Tmp} {t:TypeId} {pos:String} {af:Array Edge} {g:Option (Nat×Bool)} {c:Call} {q:Operand} {l:Nat} {vs:List Value} (ho:c.callee=.value q) (hf:ρ q=.func (.yield l) #[] #[]) (ha:c.args.toList.map ρ=vs)
  {fn:FuncId} {tmps:Array Value} {assign body:Code} (hy:(Instr.yield l vs.toArray).run P w=.ok (.round l fn tmps assign body) w):(execOp ρ ⟨d,.call c,t,pos,af,g⟩).run P w=.ok (.round l fn tmps assign body) w:=by
 have e:c.args.map ρ=vs.toArray:=Array.ext' (by rw [Array.toList_map]; exact ha)
 obtain ⟨callee,args,ts⟩:=c
 dsimp only at ho e
 subst ho
 simp [execOp,resolve,invoke,go_sem,hf,e]
 exact hy
theorem lex.yield {ops:Array Oper} {K:Env→World→Prop} {o:Oper} {rest:List Oper} {l:Nat} {fn:FuncId} {tmps:Array Value} {assign body:Code} (hr:(execOp E.ev o).run P w=.ok (.round l fn tmps assign body) w) {R:Ending→World→Prop} (hR:RoundIn (wF none) 0 P l fn tmps assign body w R)
  (hk: ∀e w',R e w'→∃v,e=.returned v∧lex P ops K rest (E.put o.dst v) w') (hg:o.guard=none:=by rfl):lex P ops K (o::rest) E w:=by
 have hw:wantE ops E o=true:=by unfold wantE Region.wanted; rw [hg]
 simp only [lex,hw,if_true]
 unfold wpV; rw [hr]
 exact RoundIn.mono hR fun e w' h1=>by obtain ⟨v,rfl,h2⟩:=hk e w' h1; exact h2
