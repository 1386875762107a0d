import Derived.Test.YtpnppjlnfhlmpaaGreatMix
import Derived.Deep.LoopGhost
import Derived.Sort.LoopGhostIn
import Derived.RangeFuncRecord
import Derived.Scope
namespace Go.Proofs.YtpnppjlnfhlmpaaGreat
namespace Ev

structure Env where
 f:Nat→Value
 ms:List Nat
instance:CoeFun Env (fun _=>Nat→Value):=⟨Env.f⟩

def Env.put (E:Env) (d:Option Tmp) (v:Value):Env:=
 ⟨match d with
 | none=>E.f
 | some t=>fun s=>bif Nat.beq s t then v else E.f s,E.ms⟩

def Env.ev (E:Env):Operand→Value
 | .tmp t=>E.f t
 | .const v=>v
 | .global g=>.pointer (some ⟨g,0,none⟩)
 | .func f=>.func (.func f) #[] #[]

def markD (D:Nat):Deferred:={ target:=.collected D,args:=#[] }

def Sim (m:Bool) (N:Nat) (a:Act) (E:Env):Prop:=a.tmps.size=N∧a.defers=(bif m then E.ms.map markD else [])∧∀t,a.tmps.getD t undef=E.f t

theorem Sim.eval {m:Bool} {N:Nat} {a:Act} {E:Env} (h:Sim m N a E):a.eval=E.ev:=by
 funext x
 cases x<;>first | exact h.2.2 _ | rfl

def notDefer (o:Oper):Bool:=match o.op with | .defer _=>false | _=>true
theorem notDefer_of {o:Oper} (h:notDefer o=true): ∀c,o.op≠.defer c:=fun c e=>by simp [notDefer,e] at h
def dstOk (N:Nat) (o:Oper):Bool:=notDefer o&&match o.dst with | none=>true | some t=>decide (t<N)

theorem Sim.put {m:Bool} {N:Nat} {a:Act} {E:Env} (h:Sim m N a E) {o:Oper} (hd:dstOk N o=true) (v:Value):Sim m N (a.put o.dst v) (E.put o.dst v):=by
 unfold dstOk at hd
 rw [Bool.and_eq_true] at hd
 have hd:=hd.2
 cases ho:o.dst with
 | none=>exact h
 | some t=>
  rw [ho] at hd
  simp only [decide_eq_true_eq] at hd
  refine ⟨by simpa [Act.put] using h.1,h.2.1,fun s=>?_⟩
  simp only [Act.put,Env.put]
  cases hb:Nat.beq s t with
  | true=>
   have:s=t:=Nat.eq_of_beq_eq_true hb
   subst this
   simp [h.1,hd]
  | false=>
   have hne:t≠s:=fun e=>by subst e; rw [Nat.beq_refl] at hb; cases hb
   have:=h.2.2 s
   simp only [cond_false]
   rw [←this]
   simp [Array.getElem?_setIfInBounds_ne hne]

section scope
variable {F : Fence} {n : Nat} {P : Program} {b : Frame} {a : Act} {k : List Item} {cs : List Frame} {w : World} {Q : Exit → Act → World → Prop}
theorem qhw {c:Code}:step P (lone (b.atR a (.code (.scope c)::k)) cs w)=.next (lone (b.atR a (.code c:: .inScope c::k)) cs w):=
 step_lone_go (by simp [stepG,stepG.exec,Frame.atR])
theorem stepR_inScope {c:Code}:step P (lone (b.atR a (.inScope c::k)) cs w)=.next (lone (b.atR a k) cs w):=
 step_lone_go (by simp [stepG,stepG.exec,Frame.atR])
theorem wpIn_scope_s {c:Code} (h:c.wpIn F n P (Exit.noGoto Q) a w):(Code.scope c).wpIn F n P Q a w:=by
 intro b k cs hro hb hr
 have h0:(lone (b.atR a (.code (.scope c)::k)) cs w).fenced P F:=fenced_calm hb hr rfl
 obtain ⟨e,a₁,w₁,hq,harr⟩:=h b (.inScope c::k) cs hro hb hr
 cases e with
 | normal=>exact ⟨.normal,a₁,w₁,hq,.head h0 qhw (StepsIn.trans harr (.one (fenced_calm hb hr rfl) stepR_inScope))⟩
 | exit id=>
  have hx:exitTo id (.inScope c::k)=exitTo id k:=by simp [exitTo]
  exact ⟨.exit id,a₁,w₁,hq,fun k' hk=>.head h0 qhw (harr.1 k' (by rw [hx]; exact hk)),
   fun hr' hk=>let ⟨k₁,h1,h2⟩:=harr.2 hr' (by rw [hx]; exact hk); ⟨k₁,h1,.head h0 qhw h2⟩⟩
 | goto l=>exact hq.elim
 | ret=>exact ⟨_,a₁,w₁,hq,.of_steps (.one h0 qhw) harr⟩
 | panic ch=>exact ⟨_,a₁,w₁,hq,.of_steps (.one h0 qhw) harr⟩
 | outgrown=>exact ⟨_,a₁,w₁,hq,.of_steps (.one h0 qhw) harr⟩
end scope

abbrev Asn:=Env→World→Prop

def post (m:Bool) (N:Nat) (nrm rt:Asn) (ex:List (Nat×Asn)):Exit→Act→World→Prop
 | .normal,a,w=> ∃E,Sim m N a E∧nrm E w
 | .ret,a,w=> ∃E,Sim m N a E∧rt E w
 | .exit id,a,w=> ∃E,Sim m N a E∧∃K,ex.lookup id=some K∧K E w
 | _,_,_=>False

def WcM (r:Option Nat) (m:Bool) (P:Program) (N:Nat) (c:Code) (nrm rt:Asn) (ex:List (Nat×Asn)) (E:Env) (w:World):Prop:= ∀(rm:Nat) (a:Act),Sim m N a E→c.wpIn (wF r) rm P (post m N nrm rt ex) a w
abbrev Wc:=WcM none false

section
variable {r : Option Nat} {m : Bool} {P : Program} {N : Nat} {nrm rt : Asn} {ex : List (Nat × Asn)} {E : Env} {w : World} {x y c : Code}

theorem Wc.skip (h:nrm E w):WcM r m P N .skip nrm rt ex E w:=fun _ _ hs=>wpIn_skip ⟨E,hs,h⟩
theorem Wc.label {l:Nat} (h:nrm E w):WcM r m P N (.label l) nrm rt ex E w:=fun _ _ hs=>wpIn_label ⟨E,hs,h⟩
theorem Wc.ret (h:rt E w):WcM r m P N .ret nrm rt ex E w:=fun _ _ hs=>wpIn_ret ⟨E,hs,h⟩
theorem Wc.exit {id:Nat} {K:Asn} (hk:ex.lookup id=some K) (h:K E w):WcM r m P N (.exit id) nrm rt ex E w:=fun _ _ hs=>wpIn_exit ⟨E,hs,K,hk,h⟩
theorem Wc.seq (h: ∀K:Asn,(∀E w,WcM r m P N y nrm rt ex E w→K E w)→WcM r m P N x K rt ex E w):WcM r m P N (.seq x y) nrm rt ex E w:=fun rm a hs=>
 wpIn_seq (wpIn_mono (h _ (fun _ _ h=>h) rm a hs) fun e a' w' hq=>by
  cases e with
  | normal=>obtain ⟨E',hs',h'⟩:=hq; exact h' rm a' hs'
  | _=>exact hq)
theorem Wc.seqJ (J:Asn) (h1: ∀K:Asn,(∀E w,J E w→K E w)→WcM r m P N x K rt ex E w) (h2: ∀E w,J E w→WcM r m P N y nrm rt ex E w):WcM r m P N (.seq x y) nrm rt ex E w:=fun rm a hs=>
 wpIn_seq (wpIn_mono (h1 _ (fun _ _ h=>h) rm a hs) fun e a' w' hq=>by
  cases e with
  | normal=>obtain ⟨E',hs',h'⟩:=hq; exact h2 _ _ h' rm a' hs'
  | _=>exact hq)
theorem Wc.cond {b:Operand} {t:Bool} (hb:E.ev b=.bool t) (h1:t=true→WcM r m P N x nrm rt ex E w) (h2:t=false→WcM r m P N y nrm rt ex E w):WcM r m P N (.cond b x y) nrm rt ex E w:=fun rm a hs=>
 wpIn_cond_split (by rw [hs.eval]; exact hb) (fun h=>h1 h rm a hs) (fun h=>h2 h rm a hs)
theorem Wc.cond_true {b:Operand} (hb:E.ev b=.bool true) (h1:WcM r m P N x nrm rt ex E w):WcM r m P N (.cond b x y) nrm rt ex E w:=Wc.cond hb (fun _=>h1) (fun h=>by cases h)
theorem Wc.cond_false {b:Operand} (hb:E.ev b=.bool false) (h1:WcM r m P N y nrm rt ex E w):WcM r m P N (.cond b x y) nrm rt ex E w:=Wc.cond hb (fun h=>by cases h) (fun _=>h1)
theorem Wc.block {id:Nat} (h:WcM r m P N c nrm rt ((id,nrm)::ex) E w):WcM r m P N (.block id c) nrm rt ex E w:=fun rm a hs=>
 wpIn_block (wpIn_mono (h rm a hs) fun e a' w' hq=>by
  cases e with
  | exit id'=>
   obtain ⟨E',hs',K,hk,h'⟩:=hq
   simp only [Exit.inBlock]
   by_cases hid:id'=id
   ·
    subst hid
    simp at hk
    subst hk
    rw [if_pos rfl]
    exact ⟨E',hs',h'⟩
   ·
    rw [if_neg hid]
    rw [List.lookup_cons] at hk
    simp only [beq_eq_false_iff_ne.2 hid] at hk
    exact ⟨E',hs',K,hk,h'⟩
  | _=>exact hq)
theorem Wc.scope (h:WcM r m P N c nrm rt ex E w):WcM r m P N (.scope c) nrm rt ex E w:=fun rm a hs=>
 wpIn_scope_s (wpIn_mono (h rm a hs) fun e a' w' hq=>by cases e<;>exact hq)
theorem Wc.cut (J:Asn) (h1: ∀K:Asn,(∀E w,J E w→K E w)→WcM r m P N c K rt ex E w) (h2: ∀E w,J E w→nrm E w):WcM r m P N c nrm rt ex E w:=fun rm a hs=>
 wpIn_mono (h1 _ (fun _ _ h=>h) rm a hs) fun e a' w' hq=>by
  cases e with
  | normal=>obtain ⟨E',hs',h'⟩:=hq; exact ⟨E',hs',h2 _ _ h'⟩
  | _=>exact hq
theorem Wc.loop (I:Nat→Asn) (n:Nat) (h0:I n E w)
  (round: ∀n E w,I n E w→∀K:Asn,(∀m E w,m<n→I m E w→K E w)→WcM r m P N c K rt ex E w):WcM r m P N (.loop c) nrm rt ex E w:=fun rm a hs=>
 wpIn_loop_ghost (fun n a w=> ∃E,Sim m N a E∧I n E w) n ⟨E,hs,h0⟩ fun n a w ⟨E,hs,hI⟩=>
  wpIn_mono (round n E w hI (fun E' w'=> ∃m,m<n∧I m E' w') (fun m _ _ hm h=>⟨m,hm,h⟩) rm a hs) fun e a' w' hq=>by
   cases e with
   | normal=>obtain ⟨E',hs',m,hm,h'⟩:=hq; exact ⟨m,hm,E',hs',h'⟩
   | _=>exact hq

/-! Regions. -/
def yE (ops:Array Oper) (E:Env) (j:Nat):Option Bool:=
 match (ops[j]?).bind (·.dst) with
 | none=>none
 | some t=>match E.f t with | .bool b=>some b | _=>none

theorem Sim.yielded {a:Act} (h:Sim m N a E) (ops:Array Oper) (j:Nat):yielded ops a.tmps j=yE ops E j:=by
 unfold Go.yielded yE
 cases ht:(ops[j]?).bind (·.dst) with
 | none=>rfl
 | some t=>
  simp only [Option.bind_some]
  have h2:=h.2.2 t
  rcases Nat.lt_or_ge t a.tmps.size with hlt | hge
  ·
   have:a.tmps[t]? =some (E.f t):=by rw [←h2]; simp [hlt]
   rw [this]
   cases E.f t<;>rfl
  ·
   rw [Array.getElem?_eq_none hge]
   have:E.f t=undef:=by rw [←h2]; simp [hge]
   rw [this]
   rfl

def wantE (ops:Array Oper) (E:Env) (o:Oper):Bool:=Region.wanted o (yE ops E)
theorem Sim.wanted {a:Act} (h:Sim m N a E) (ops:Array Oper) (o:Oper):Region.wanted o (Go.yielded ops a.tmps)=wantE ops E o:=by
 unfold wantE
 have:Go.yielded ops a.tmps=yE ops E:=funext fun j=>h.yielded ops j
 rw [this]

def lex (P:Program) (ops:Array Oper) (K:Env→World→Prop):List Oper→Env→World→Prop
 | [],E,w=>K E w
 | o::rest,E,w=>if wantE ops E o=true then wpV P E.ev w o fun v w'=>lex P ops K rest (E.put o.dst v) w' else lex P ops K rest (E.put o.dst undef) w

theorem lex_sound {rm:Nat} {ops:Array Oper} {K:Env→World→Prop} {Q:Exit→Act→World→Prop} (hQ: ∀a E w,Sim m N a E→K E w→Q .normal a w): ∀(l:List Nat),(∀i∈l,∀o,ops[i]? =some o→dstOk N o=true)→
  ∀(a:Act) (E:Env) (w:World),Sim m N a E→lex P ops K (opsAt ops l) E w→wpOpsIn (wF r) rm P ops Q l a w
 | [],_,a,E,w,hs,h=>hQ a E w hs h
 | i::l,hd,a,E,w,hs,h=>by
  rw [wpOpsIn_cons]
  unfold wpOpIn
  cases ho:ops[i]? with
  | none=>
   have:opsAt ops (i::l)=opsAt ops l:=by simp [opsAt,ho]
   rw [this] at h
   exact lex_sound hQ l (fun j hj=>hd j (by simp [hj])) a E w hs h
  | some o=>
   have:opsAt ops (i::l)=o::opsAt ops l:=by simp [opsAt,ho]
   rw [this] at h
   have hdo:=hd i (by simp) o ho
   simp only [lex,←hs.wanted] at h
   simp only
   split
   ·
    rename_i hw
    simp only [hw,if_true] at h
    rw [←hs.eval] at h
    exact (wp_of_wpV (notDefer_of (by unfold dstOk at hdo; rw [Bool.and_eq_true] at hdo; exact hdo.1)) (qbk (fun v w' h'=>lex_sound hQ l (fun j hj=>hd j (by simp [hj])) _ _ _ (hs.put hdo v) h') h))
   ·
    rename_i hw
    simp only [hw] at h
    exact ⟨fun _ _=>trivial,lex_sound hQ l (fun j hj=>hd j (by simp [hj])) _ _ _ (hs.put hdo undef) h⟩

theorem opsAt_range (ops:Array Oper):opsAt ops (List.range ops.size)=ops.toList:=by
 have:=opsAt_all (ops:=ops)
 have h1:pend ops (Array.replicate ops.size false)=List.range ops.size:=by
  refine List.filter_eq_self.2 fun i hi=>?_
  have hlt:i<ops.size:=by simpa using hi
  simp [hlt]
 rwa [h1] at this

theorem Wc.region {id:Nat} {ops:Array Oper} (hd:ops.all (dstOk N)=true) (h:lex P ops nrm ops.toList E w):WcM r m P N (.region id ops false) nrm rt ex E w:=fun rm a hs=>
 wpIn_region (lex_sound (N:=N) (K:=nrm) (fun a E w hs hk=>⟨E,hs,hk⟩) _ (fun i _ o ho=>by
  have hlt:=(Array.getElem?_eq_some_iff.1 ho).1
  have:=Array.all_eq_true.1 hd i hlt
  rwa [(Array.getElem?_eq_some_iff.1 ho).2] at this) a E w hs (by rw [opsAt_range]; exact h))

def Yv (P:Program) (ρ:Operand→Value) (o:Oper) (w:World) (v:Value):Prop:=(execOp ρ o).run P w=.ok (.value v) w

def oneE (P:Program) (ops:Array Oper) (C:Frm) (o:Oper) (K:Env→World→Prop) (E:Env) (w:World):Prop:=
 if wantE ops E o=true then
  match kdS C.S o with
  | .pure=> ∃v,(∀w',Yv P E.ev o w' v)∧K (E.put o.dst v) w
  | .steady=>C.d w∧∃v,(∀w',C.d w'→Yv P E.ev o w' v)∧K (E.put o.dst v) w
  | .load=>C.c w∧∃v,(∀w',C.c w'→Yv P E.ev o w' v)∧K (E.put o.dst v) w
  | .soft=>C.c w∧wpV P E.ev w o fun v w'=>C.c w'∧K (E.put o.dst v) w'
  | .hard=>C.d w∧wpV P E.ev w o fun v w'=>C.d w'∧K (E.put o.dst v) w'
 else K (E.put o.dst undef) w

def mixE (P:Program) (ops:Array Oper) (C:Frm) (K:Env→World→Prop):List Oper→Env→World→Prop
 | [],E,w=>K E w
 | o::rest,E,w=>oneE P ops C o (mixE P ops C K rest) E w

theorem mixE_sound {ops:Array Oper} {C:Frm} {K:Env→World→Prop} {K':Act→World→Prop} (hQ: ∀a E w,Sim m N a E→K E w→K' a w): ∀(l:List Oper),(∀o∈l,dstOk N o=true)→
  ∀(a:Act) (E:Env) (w:World),Sim m N a E→mixE P ops C K l E w→mix P ops C K' l a w
 | [],_,a,E,w,hs,h=>hQ a E w hs h
 | o::l,hd,a,E,w,hs,h=>by
  have hdo:=hd o (by simp)
  have ih: ∀(a:Act) (E:Env) (w:World),Sim m N a E→mixE P ops C K l E w→mix P ops C K' l a w:=mixE_sound hQ l fun o' ho'=>hd o' (by simp [ho'])
  simp only [mix,mixE,oneE,one,←hs.wanted] at h⊢
  split
  ·
   rename_i hw
   simp only [hw,if_true] at h
   cases hk:kdS C.S o<;>simp only [hk] at h⊢
   ·
    obtain ⟨v,h1,h2⟩:=h
    exact ⟨v,fun w'=>by have:=h1 w'; unfold Yv at this; unfold Yd; rw [hs.eval]; exact this,ih _ _ _ (hs.put hdo v) h2⟩
   ·
    obtain ⟨hc,v,h1,h2⟩:=h
    exact ⟨hc,v,fun w' hc'=>by have:=h1 w' hc'; unfold Yv at this; unfold Yd; rw [hs.eval]; exact this,ih _ _ _ (hs.put hdo v) h2⟩
   · exact ⟨h.1,by rw [hs.eval]; exact qbk (fun v w' hh=>⟨hh.1,ih _ _ _ (hs.put hdo v) hh.2⟩) h.2⟩
   · exact ⟨h.1,by rw [hs.eval]; exact qbk (fun v w' hh=>⟨hh.1,ih _ _ _ (hs.put hdo v) hh.2⟩) h.2⟩
   ·
    obtain ⟨hc,v,h1,h2⟩:=h
    exact ⟨hc,v,fun w' hc'=>by have:=h1 w' hc'; unfold Yv at this; unfold Yd; rw [hs.eval]; exact this,ih _ _ _ (hs.put hdo v) h2⟩
  ·
   rename_i hw
   simp only [hw] at h
   exact ih _ _ _ (hs.put hdo undef) h

theorem Wc.regionMix {id:Nat} {ops:Array Oper} (S:List Nat) (C:World→Frm) (hS: ∀w,(C w).S=S) (hm:P.follows .mixedOrders=true) (hB:mixB S ops=true) (hd:ops.all (dstOk N)=true)
  (h: ∀w',w'=w.drew→mixE P ops (C w') nrm ops.toList E w'):WcM r m P N (.region id ops true) nrm rt ex E w:=fun rm a hs=>
 wp_region_mix (C w.drew) hm (by rw [hS]; exact hB) (mixE_sound (N:=N) (fun a E w hs hk=>⟨E,hs,hk⟩) _ (fun o ho=>by
  obtain ⟨i,hi,rfl⟩:=Array.mem_iff_getElem.1 (Array.mem_toList_iff.1 ho)
  exact Array.all_eq_true.1 hd i hi) a E _ hs (h _ rfl))

/-! Plans. -/
theorem oneE_sound {ops:Array Oper} {C:Frm} {M:Env→World→Prop} {M':Act→World→Prop} {o:Oper} (hdo:dstOk N o=true) (ih: ∀(a:Act) (E:Env) (w:World),Sim m N a E→M E w→M' a w)
  {a:Act} {E:Env} {w:World} (hs:Sim m N a E) (h:oneE P ops C o M E w):one P ops C o M' a w:=by
 simp only [oneE,one,←hs.wanted] at h⊢
 split
 ·
  rename_i hw
  simp only [hw,if_true] at h
  cases hk:kdS C.S o<;>simp only [hk] at h⊢
  ·
   obtain ⟨v,h1,h2⟩:=h
   exact ⟨v,fun w'=>by have:=h1 w'; unfold Yv at this; unfold Yd; rw [hs.eval]; exact this,ih _ _ _ (hs.put hdo v) h2⟩
  ·
   obtain ⟨hc,v,h1,h2⟩:=h
   exact ⟨hc,v,fun w' hc'=>by have:=h1 w' hc'; unfold Yv at this; unfold Yd; rw [hs.eval]; exact this,ih _ _ _ (hs.put hdo v) h2⟩
  · exact ⟨h.1,by rw [hs.eval]; exact qbk (fun v w' hh=>⟨hh.1,ih _ _ _ (hs.put hdo v) hh.2⟩) h.2⟩
  · exact ⟨h.1,by rw [hs.eval]; exact qbk (fun v w' hh=>⟨hh.1,ih _ _ _ (hs.put hdo v) hh.2⟩) h.2⟩
  ·
   obtain ⟨hc,v,h1,h2⟩:=h
   exact ⟨hc,v,fun w' hc'=>by have:=h1 w' hc'; unfold Yv at this; unfold Yd; rw [hs.eval]; exact this,ih _ _ _ (hs.put hdo v) h2⟩
 ·
  rename_i hw
  simp only [hw] at h
  exact ih _ _ _ (hs.put hdo undef) h
def mixPE (P:Program) (ops:Array Oper) (C:Frm) (K:Env→World→Prop):Plan→Env→World→Prop
 | .done,E,w=>K E w
 | .op i p,E,w=>match ops[i]? with | some o=>oneE P ops C o (mixPE P ops C K p) E w | none=>mixPE P ops C K p E w
 | .alt p q,E,w=>mixPE P ops C K p E w∧mixPE P ops C K q E w
theorem mixPE_sound {ops:Array Oper} {C:Frm} {K:Env→World→Prop} {K':Act→World→Prop} (hQ: ∀a E w,Sim m N a E→K E w→K' a w) (hd:ops.all (dstOk N)=true): ∀(p:Plan) (a:Act) (E:Env) (w:World),Sim m N a E→mixPE P ops C K p E w→mixP P ops C K' p a w
 | .done,a,E,w,hs,h=>hQ a E w hs h
 | .op i p,a,E,w,hs,h=>by
  simp only [mixPE] at h
  simp only [mixP]
  cases ho:ops[i]? with
  | none=>rw [ho] at h; exact mixPE_sound hQ hd p a E w hs h
  | some o=>
   rw [ho] at h
   obtain ⟨hlt,rfl⟩:=Array.getElem?_eq_some_iff.1 ho
   exact oneE_sound (Array.all_eq_true.1 hd i hlt) (fun a E w hs h=>mixPE_sound hQ hd p a E w hs h) hs h
 | .alt p q,a,E,w,hs,h=>⟨mixPE_sound hQ hd p a E w hs h.1,mixPE_sound hQ hd q a E w hs h.2⟩
theorem Wc.regionPlan {id:Nat} {ops:Array Oper} (S:List Nat) (C:World→Frm) (p:Plan) (hS: ∀w,(C w).S=S) (hm:P.follows .mixedOrders=true) (hB:planB S ops p=true) (hd:ops.all (dstOk N)=true)
  (h: ∀w',w'=w.drew→mixPE P ops (C w') nrm p E w'):WcM r m P N (.region id ops true) nrm rt ex E w:=fun rm a hs=>
 wp_region_plan (C w.drew) p hm (by rw [hS]; exact hB) (mixPE_sound (N:=N) (fun a E w hs hk=>⟨E,hs,hk⟩) hd p a E _ hs (h _ rfl))
def chainP (l:List Nat) (p:Plan):Plan:=l.foldr .op p
theorem qag {ops:Array Oper} {C:Frm} {K:Env→World→Prop}: ∀{l:List Nat} {p:Plan} {E:Env} {w:World},mixE P ops C (mixPE P ops C K p) (opsAt ops l) E w→mixPE P ops C K (chainP l p) E w
 | [],_,_,_,h=>h
 | i::l,p,E,w,h=>by
  show mixPE P ops C K (.op i (chainP l p)) E w
  simp only [mixPE]
  cases ho:ops[i]? with
  | none=>
   have e:opsAt ops (i::l)=opsAt ops l:=by simp [opsAt,ho]
   rw [e] at h
   exact qag h
  | some o=>
   have e:opsAt ops (i::l)=o::opsAt ops l:=by simp [opsAt,ho]
   rw [e] at h
   simp only [mixE] at h
   show oneE P ops C o (mixPE P ops C K (chainP l p)) E w
   unfold oneE at h⊢
   split
   ·
    rename_i hw
    rw [if_pos hw] at h
    cases hk:kdS C.S o<;>simp only [hk] at h⊢
    · obtain ⟨v,h1,h2⟩:=h; exact ⟨v,h1,qag h2⟩
    · obtain ⟨hc,v,h1,h2⟩:=h; exact ⟨hc,v,h1,qag h2⟩
    · exact ⟨h.1,qbk (fun v w' hh=>⟨hh.1,qag hh.2⟩) h.2⟩
    · exact ⟨h.1,qbk (fun v w' hh=>⟨hh.1,qag hh.2⟩) h.2⟩
    · obtain ⟨hc,v,h1,h2⟩:=h; exact ⟨hc,v,h1,qag h2⟩
   ·
    rename_i hw
    rw [if_neg hw] at h
    exact qag h
theorem qbd {ops:Array Oper} {C:Frm} {K:Env→World→Prop} {p q:Plan} {E:Env} {w:World} (h1:mixPE P ops C K p E w) (h2:mixPE P ops C K q E w):mixPE P ops C K (.alt p q) E w:=⟨h1,h2⟩

/-! Steps. -/
section
variable {ops : Array Oper} {K : Env → World → Prop} {o : Oper} {rest : List Oper} {v : Value} {C : Frm}
def Pu (P:Program) (ρ:Operand→Value) (o:Oper) (v:Value):Prop:= ∀w,Yv P ρ o w v

theorem lex.pure (h:Pu P E.ev o v) (hk:lex P ops K rest (E.put o.dst v) w) (hg:o.guard=none:=by rfl):lex P ops K (o::rest) E w:=by
 have hw:wantE ops E o=true:=by unfold wantE Region.wanted; rw [hg]
 simp only [lex,hw,if_true]
 unfold wpV; rw [h w]; exact hk
theorem lex.val {w':World} (h:(execOp E.ev o).run P w=.ok (.value v) w') (hk:lex P ops K rest (E.put o.dst v) w') (hg:o.guard=none:=by rfl):lex P ops K (o::rest) E w:=by
 have hw:wantE ops E o=true:=by unfold wantE Region.wanted; rw [hg]
 simp only [lex,hw,if_true]
 unfold wpV; rw [h]; exact hk
theorem lex.gpure (hw:wantE ops E o=true) (h:Pu P E.ev o v) (hk:lex P ops K rest (E.put o.dst v) w):lex P ops K (o::rest) E w:=by
 simp only [lex,hw,if_true]
 unfold wpV; rw [h w]; exact hk
theorem lex.gval {w':World} (hw:wantE ops E o=true) (h:(execOp E.ev o).run P w=.ok (.value v) w') (hk:lex P ops K rest (E.put o.dst v) w'):lex P ops K (o::rest) E w:=by
 simp only [lex,hw,if_true]
 unfold wpV; rw [h]; exact hk
theorem lex.gskip (hw:wantE ops E o=false) (hk:lex P ops K rest (E.put o.dst undef) w):lex P ops K (o::rest) E w:=by
 simp only [lex,hw]; exact hk
theorem lex.nil (h:K E w):lex P ops K [] E w:=h
theorem lex.gcall (hw:wantE ops E o=true) {f:FuncId} {args:Array Value} (hr:(execOp E.ev o).run P w=.ok (.enter f args) w) {R:Ending→World→Prop} (hc:Calls P f args w R)
  (hk: ∀e w',R e w'→∃v,e=.returned v∧lex P ops K rest (E.put o.dst v) w'):lex P ops K (o::rest) E w:=by
 simp only [lex,hw,if_true]
 unfold wpV; rw [hr]
 exact hc.mono fun e w' hR=>by obtain ⟨v,rfl,h⟩:=hk e w' hR; exact h
theorem mixE.gpure (hk0:kdS C.S o=.pure) (hw:wantE ops E o=true) (h:Pu P E.ev o v) (hk:mixE P ops C K rest (E.put o.dst v) w):mixE P ops C K (o::rest) E w:=by
 simp only [mixE,oneE,hw,if_true,hk0]
 exact ⟨v,h,hk⟩
theorem mixE.pure (h:Pu P E.ev o v) (hk:mixE P ops C K rest (E.put o.dst v) w) (hg:o.guard=none:=by rfl) (hk0:kdS C.S o=.pure:=by rfl):mixE P ops C K (o::rest) E w:=
 mixE.gpure hk0 (by unfold wantE Region.wanted; rw [hg]) h hk
theorem mixE.gload (hk0:kdS C.S o=.load) (hw:wantE ops E o=true) (hc:C.c w) (h: ∀w',C.c w'→Yv P E.ev o w' v) (hk:mixE P ops C K rest (E.put o.dst v) w):mixE P ops C K (o::rest) E w:=by
 simp only [mixE,oneE,hw,if_true,hk0]
 exact ⟨hc,v,h,hk⟩
theorem mixE.load (hc:C.c w) (h: ∀w',C.c w'→Yv P E.ev o w' v) (hk:mixE P ops C K rest (E.put o.dst v) w) (hg:o.guard=none:=by rfl) (hk0:kdS C.S o=.load:=by rfl):mixE P ops C K (o::rest) E w:=
 mixE.gload hk0 (by unfold wantE Region.wanted; rw [hg]) hc h hk
theorem mixE.gskip (hw:wantE ops E o=false) (hk:mixE P ops C K rest (E.put o.dst undef) w):mixE P ops C K (o::rest) E w:=by
 simp only [mixE,oneE,hw]; exact hk
theorem mixE.nil (h:K E w):mixE P ops C K [] E w:=h
theorem mixE.gsoft {w':World} (hk0:kdS C.S o=.soft) (hw:wantE ops E o=true) (hc:C.c w) (h:(execOp E.ev o).run P w=.ok (.value v) w') (hc':C.c w') (hk:mixE P ops C K rest (E.put o.dst v) w'):mixE P ops C K (o::rest) E w:=by
 simp only [mixE,oneE,hw,if_true,hk0]
 refine ⟨hc,?_⟩
 unfold wpV; rw [h]; exact ⟨hc',hk⟩
theorem mixE.soft {w':World} (hc:C.c w) (h:(execOp E.ev o).run P w=.ok (.value v) w') (hc':C.c w') (hk:mixE P ops C K rest (E.put o.dst v) w') (hg:o.guard=none:=by rfl) (hk0:kdS C.S o=.soft:=by rfl):mixE P ops C K (o::rest) E w:=
 mixE.gsoft hk0 (by unfold wantE Region.wanted; rw [hg]) hc h hc' hk
theorem mixE.gsteady (hk0:kdS C.S o=.steady) (hw:wantE ops E o=true) (hc:C.d w) (h: ∀w',C.d w'→Yv P E.ev o w' v) (hk:mixE P ops C K rest (E.put o.dst v) w):mixE P ops C K (o::rest) E w:=by
 simp only [mixE,oneE,hw,if_true,hk0]
 exact ⟨hc,v,h,hk⟩
theorem mixE.steady (hc:C.d w) (h: ∀w',C.d w'→Yv P E.ev o w' v) (hk:mixE P ops C K rest (E.put o.dst v) w) (hg:o.guard=none:=by rfl) (hk0:kdS C.S o=.steady:=by rfl):mixE P ops C K (o::rest) E w:=
 mixE.gsteady hk0 (by unfold wantE Region.wanted; rw [hg]) hc h hk
theorem mixE.gcall (hk0:kdS C.S o=.soft) (hw:wantE ops E o=true) (hc0:C.c w) {f:FuncId} {args:Array Value} (hr:(execOp E.ev o).run P w=.ok (.enter f args) w) {R:Ending→World→Prop} (hc:Calls P f args w R)
  (hk: ∀e w',R e w'→∃v,e=.returned v∧C.c w'∧mixE P ops C K rest (E.put o.dst v) w'):mixE P ops C K (o::rest) E w:=by
 simp only [mixE,oneE,hw,if_true,hk0]
 refine ⟨hc0,?_⟩
 unfold wpV; rw [hr]
 exact hc.mono fun e w' hR=>by obtain ⟨v,rfl,h⟩:=hk e w' hR; exact h
end

def start (args:List Value):Env:=⟨fun s=>(args[s]?).getD undef,[]⟩

theorem start_sim {m:Bool} {args:Array Value} {nt:Nat} (hn:args.size≤nt):Sim m nt { tmps:=args++Array.replicate (nt-args.size) undef,defers:=[] } (start args.toList):=by
 refine ⟨by simp; omega,by cases m<;>rfl,fun t=>?_⟩
 rcases Nat.lt_or_ge t args.size with hlt | hge
 · simp [start,Array.getElem?_append_left,hlt]
 ·
  have h1:args.toList[t]? =none:=by simp [hge]
  simp only [start,h1,Option.getD_none]
  simp only [Array.getD_eq_getD_getElem?]
  rw [Array.getElem?_append_right hge,Array.getElem?_replicate]
  split<;>rfl
theorem qao {f:FuncId} {fn:Func} {c:Code} {args:Array Value} {R:Ending→World→Prop} (hf:P.funcs[f]? =some fn) (hb:fn.body=some c) (hn:args.size≤fn.ntmps)
  (h: ∀K:Asn,(∀E w,(∃v,(∀tmps:Array Value,(∀t,tmps.getD t undef=E t)→(results fn tmps).run P w=.ok v w)∧R (.returned v) w)→K E w)→Wc P fn.ntmps c K K [] (start args.toList) w):Calls P f args w R:=by
 refine (callsIn_wF (r:=none) (n:=0)).1 (callsIn_of_wp hf hb trivial (wpIn_mono (h _ (fun _ _ h=>h) 0 _ (start_sim hn)) fun e a' w' hq=>?_) rfl)
 cases e with
 | normal=>obtain ⟨E',hs,v,hv,hr⟩:=hq; exact ⟨hs.2.1,v,hv _ hs.2.2,hr⟩
 | ret=>obtain ⟨E',hs,v,hv,hr⟩:=hq; exact ⟨hs.2.1,v,hv _ hs.2.2,hr⟩
 | exit id=>obtain ⟨E',hs,K,hk,h'⟩:=hq; simp at hk
 | _=>exact hq.elim
