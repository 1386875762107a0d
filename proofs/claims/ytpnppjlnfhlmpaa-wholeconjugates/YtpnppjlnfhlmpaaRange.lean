import Derived.Test.YtpnppjlnfhlmpaaCall
import Derived.Test.YtpnppjlnfhlmpaaMore
import Derived.Test.YtpnppjlnfhlmpaaNest
import Derived.Test.YtpnppjlnfhlmpaaObj
set_option linter.all false
namespace Go.Proofs.Ytpnppjlnfhlmpaa
namespace Ev

def YieldW (P:Program) (l:Nat) (args:Array Value) (W:World) (R:Ending→World→Prop):Prop:=
 ∃fn tmps assign body,(Instr.yield l args).run P W=.ok (.round l fn tmps assign body) W∧RoundIn (wF none) 0 P l fn tmps assign body W R

def IterOk (P:Program) (gf:Nat) (lb:Array Value) (n:Nat) (enc:Nat→Array Value) (Rd:World→Prop):Prop:=
 ∀(l:Nat) (A:Nat→World→Prop) (B:World→Prop) (W:World),(∀k W,A k W→Rd W)→
  (∀k W,k<n→A k W→YieldW P l (enc k) W fun e W'=>(e=.returned (.bool true)∧A (k+1) W')∨(e=.returned (.bool false)∧B W'))→
  A 0 W→Calls P gf (#[.func (.yield l) #[] #[]]++lb) W fun e W'=>(∃v,e=.returned v)∧(A n W'∨B W')

def putAll (E:Env):List (Tmp×Value)→Env
 | []=>E
 | (p,v)::r=>putAll (E.put (some p) v) r
theorem putAll_sim {m:Bool} {N:Nat}: ∀(l:List (Tmp×Value)) {t:Array Value} {ds:List Deferred} {E:Env},(∀q∈l,q.1<N)→Sim m N { tmps:=t,defers:=ds } E→Sim m N { tmps:=l.foldl (fun t (q:Tmp×Value)=>t.setIfInBounds q.1 q.2) t,defers:=ds } (putAll E l)
 | [],_,_,_,_,h=>h
 | (p,v)::r,t,ds,E,hl,h=>by
  rw [List.foldl_cons]
  refine putAll_sim r (fun q hq=>hl q (by simp [hq])) ?_
  have hp:=hl (p,v) (by simp)
  refine ⟨by simpa using h.1,h.2.1,fun s=>?_⟩
  simp only [Env.put]
  cases hb:Nat.beq s p with
  | true=>
   have e:s=p:=Nat.eq_of_beq_eq_true hb
   subst e
   have h1:t.size=N:=h.1
   simp [h1,hp]
  | false=>
   have hne:p≠s:=fun e=>by subst e; rw [Nat.beq_refl] at hb; cases hb
   have h2:=h.2.2 s
   simp only [cond_false]
   rw [←h2]
   simp [Array.getElem?_setIfInBounds_ne hne]

section
variable {P : Program} {N : Nat} {nrm rt : Asn} {ex : List (Nat × Asn)} {E : Env} {w : World}
theorem Wc.range {I:Nat→Prop} {O0:List Nat} {w0:World} {L:List Fact} {g:Operand} {ps:Array Tmp} {assign body:Code} {gf:Nat} {lb:Array Value} {n:Nat} {enc:Nat→Array Value} {Rd:World→Prop}
  (J:Nat→List Fact→Prop) (Jr:List Fact→Prop) (ids:List Nat) (Jx:Nat→List Fact→Prop)
  (hg:E.ev g=.func (.func gf) #[] lb) (eg: ∀args w,(callFunc gf args).run P w=.ok (.enter gf args) w)
  (it:IterOk P gf lb n enc Rd) (hps: ∀k,(enc k).size=ps.size) (hpN: ∀p∈ps,p<N)
  (pl:Nat→List (Tmp×Value)) (hpl: ∀k,(ps.zip (enc k)).toList=pl k)
  (hC:Cx I O0 w0 w L) (h0:J 0 L)
  (hrd: ∀k L W f1 f2,J k L→Cx I O0 w0 W (f1::f2::L)→Rd W)
  (E1:Nat→Env)
  (asg: ∀l k W,WcM (some l) false P N assign (fun E' W'=>W'=W∧E'=E1 k) (fun _ _=>False) [] (putAll ⟨E.f,[]⟩ (pl k)) W)
  (round: ∀k l D oB oK L W,k<n→J k L→Cx I O0 w0 W (.obj l oB:: .obj D oK::L)→∀(Kn Kr:Asn) (Kx:Nat→Asn),
   (∀E' W' L',J (k+1) L'→Cx I O0 w0 W' (.obj l oB:: .obj D oK::L')→Kn E' W')→
   (∀E' W' L',Jr L'→Cx I O0 w0 W' (.obj l oB:: .obj D oK::L')→Kr E' W')→
   (∀id E' W' L',Jx id L'→Cx I O0 w0 W' (.obj l oB:: .obj D oK::L')→Kx id E' W')→
   WcM (some l) false P N body Kn Kr (ids.map fun id=>(id,Kx id)) (E1 k) W)
  (hdone: ∀D L W,J n L→Cx I O0 w0 W (.obj D (.deferred (some []))::L)→nrm ⟨E.f,D::E.ms⟩ W)
  (hret: ∀D L W,Jr L→Cx I O0 w0 W (.obj D (.deferred (some []))::L)→rt ⟨E.f,D::E.ms⟩ W)
  (hexit: ∀id D L W,id∈ids→Jx id L→Cx I O0 w0 W (.obj D (.deferred (some []))::L)→∃K,ex.lookup id=some K∧K ⟨E.f,D::E.ms⟩ W):
  WcM none true P N (.rangeFunc g ps assign body) nrm rt ex E w:=by
 intro rm a hs
 refine wpIn_rangeFunc fun fn hfn=>?_
 obtain ⟨rec,hrec⟩: ∃rec:LoopState→Option Code→Loop,rec=fun st pe=>{ state:=st,pending:=pe,fn,tmps:=a.tmps,params:=ps,assign,body,defers:=w.heap.size }:=⟨_,rfl⟩
 obtain ⟨W1,hW1⟩: ∃W1,(w.alloc (.deferred (some []))).alloc (.loop (rec .ready none))=W1:=⟨_,rfl⟩
 have hl0:(w.alloc (.deferred (some []))).heap.size=w.heap.size+1:=by simp
 have hC1:Cx I O0 w0 W1 (.obj (w.heap.size+1) (.loop (rec .ready none)):: .obj w.heap.size (.deferred (some []))::L):=by
  have:=(hC.obj (.deferred (some []))).obj (.loop (rec .ready none))
  rw [hl0,hW1] at this
  exact this
 have hsim: ∀D,Sim true N { a with defers:=[markD D]++a.defers } ⟨E.f,D::E.ms⟩:=fun D=>⟨hs.1,by
  have:=hs.2.1
  show [markD D]++a.defers=_
  rw [this]; rfl,hs.2.2⟩
 generalize hD:w.heap.size=D at hC1
 refine ⟨D+1,[markD D],W1,{ target:=.fn (.func gf) lb,args:=#[.func (.yield (D+1)) #[] #[]] },W1,gf,#[.func (.yield (D+1)) #[] #[]]++lb,W1,?_,?_,?_,?_,fun h=>by (cases h),callsIn_wF.2 ?_⟩
 · rw [←hW1,hrec,←hD]; exact run_enterLoop_outer _ _ _ _ _
 ·
  simp only [resolve,hs.eval,hg]
  simp [go_sem]
  rfl
 · intro f' hf'; trivial
 · simp [invoke,go_sem,eg]
 refine (it (D+1) (fun k W=> ∃L,J k L∧Cx I O0 w0 W (.obj (D+1) (.loop (rec .ready none)):: .obj D (.deferred (some []))::L))
  (fun W=> ∃c L,((c=.ret∧Jr L)∨∃id,c=.exit id∧id∈ids∧Jx id L)∧Cx I O0 w0 W (.obj (D+1) (.loop (rec .done (some c))):: .obj D (.deferred (some []))::L))
  W1 (fun k W ⟨L,h1,h2⟩=>hrd k L W _ _ h1 h2) ?_ ⟨L,h0,hC1⟩).mono ?_
 ·
  rintro k W hk ⟨L,hJ,hW⟩
  have hl:W.heap[D+1]? =some (.loop (rec .ready none)):=hW.ob (i:=0) rfl
  have hy:=run_yield (P:=P) (args:=enc k) hl (by rw [hrec]; exact hps k)
  rw [hrec] at hy
  refine ⟨fn,_,assign,body,hy,roundIn_of_wpIn (n:=0) trivial ?_⟩
  have hS0:Sim false N { tmps:=(ps.zip (enc k)).foldl (fun t (q:Tmp×Value)=>t.setIfInBounds q.1 q.2) a.tmps,defers:=[] } (putAll ⟨E.f,[]⟩ (ps.zip (enc k)).toList):=by
   rw [←Array.foldl_toList]
   refine putAll_sim _ (fun q hq=>hpN q.1 ?_) ⟨hs.1,rfl,hs.2.2⟩
   have hq':=Array.mem_toList_iff.1 hq
   obtain ⟨i,hi,he⟩:=Array.mem_iff_getElem.1 hq'
   rw [←he,Array.getElem_zip]
   exact Array.getElem_mem _
  rw [hpl] at hS0
  refine wpIn_mono (asg (D+1) k W 0 _ hS0) ?_
  intro e a1 w1 hq
  cases e with
  | normal=>
   obtain ⟨E',hs1,rfl,rfl⟩:=hq
   refine ⟨_,run_beginRound hl (by rw [hrec]),?_⟩
   have hB:=hW.setObj (i:=0) (g:=D+1) rfl (.loop { rec .ready none with state:=.busy })
   refine wpIn_mono (round k (D+1) D _ _ L _ hk hJ hB
    (fun _ W'=> ∃L',J (k+1) L'∧Cx I O0 w0 W' (.obj (D+1) (.loop { rec .ready none with state:=.busy }):: .obj D (.deferred (some []))::L'))
    (fun _ W'=> ∃L',Jr L'∧Cx I O0 w0 W' (.obj (D+1) (.loop { rec .ready none with state:=.busy }):: .obj D (.deferred (some []))::L'))
    (fun id _ W'=> ∃L',Jx id L'∧Cx I O0 w0 W' (.obj (D+1) (.loop { rec .ready none with state:=.busy }):: .obj D (.deferred (some []))::L'))
    (fun _ _ L' h1 h2=>⟨L',h1,h2⟩) (fun _ _ L' h1 h2=>⟨L',h1,h2⟩) (fun _ _ _ L' h1 h2=>⟨L',h1,h2⟩) 0 a1 hs1) ?_
   intro e a3 W3 hp
   have fin: ∀(jump:Option Code) (L':List Fact),Cx I O0 w0 W3 (.obj (D+1) (.loop { rec .ready none with state:=.busy }):: .obj D (.deferred (some []))::L')→
     (Instr.endRound (D+1) jump).run P W3=.ok (.bool jump.isNone) (W3.putObj (D+1) (.loop (rec (if jump.isNone then .ready else .done) jump)))∧
     Cx I O0 w0 (W3.putObj (D+1) (.loop (rec (if jump.isNone then .ready else .done) jump))) (.obj (D+1) (.loop (rec (if jump.isNone then .ready else .done) jump)):: .obj D (.deferred (some []))::L'):=fun jump L' h=>by
    have h1:=run_endRound (P:=P) jump (h.ob (i:=0) rfl)
    refine ⟨?_,h.setObj (i:=0) (g:=D+1) rfl _⟩
    rw [hrec] at h1⊢
    exact h1
   cases e with
   | normal=>
    obtain ⟨E',_,L',h1,h2⟩:=hp
    obtain ⟨h3,h4⟩:=fin none L' h2
    exact ⟨_,_,h3,.inl ⟨rfl,L',h1,h4⟩⟩
   | ret=>
    obtain ⟨E',_,L',h1,h2⟩:=hp
    obtain ⟨h3,h4⟩:=fin (some .ret) L' h2
    exact ⟨_,_,h3,.inr ⟨rfl,.ret,L',.inl ⟨rfl,h1⟩,h4⟩⟩
   | exit id=>
    obtain ⟨E',_,K,hK,hk'⟩:=hp
    have hmem:id∈ids∧K=fun _ W'=> ∃L',Jx id L'∧Cx I O0 w0 W' (.obj (D+1) (.loop { rec .ready none with state:=.busy }):: .obj D (.deferred (some []))::L'):=by
     clear hexit hret hdone round
     induction ids with
     | nil=>simp at hK
     | cons i ids ih=>
      rw [List.map_cons,List.lookup_cons] at hK
      by_cases hi:id=i
      ·
       subst hi
       simp at hK
       exact ⟨by simp,hK.symm⟩
      ·
       have hb:(id == i)=false:=beq_eq_false_iff_ne.2 hi
       rw [hb] at hK
       obtain ⟨h5,h6⟩:=ih hK
       exact ⟨List.mem_cons_of_mem _ h5,h6⟩
    obtain ⟨hm,rfl⟩:=hmem
    obtain ⟨L',h1,h2⟩:=hk'
    obtain ⟨h3,h4⟩:=fin (some (.exit id)) L' h2
    exact ⟨_,_,h3,.inr ⟨rfl,.exit id,L',.inr ⟨id,rfl,hm,h1⟩,h4⟩⟩
   | goto t=>exact hp.elim
   | panic ch=>exact hp.elim
   | outgrown=>exact hp.elim
  | ret=>obtain ⟨_,_,h⟩:=hq; exact h.elim
  | exit id=>obtain ⟨_,_,K,hK,_⟩:=hq; simp at hK
  | goto t=>exact hq.elim
  | panic ch=>exact hq.elim
  | outgrown=>exact hq.elim
 ·
  rintro e W2 ⟨⟨v,rfl⟩,h⟩
  rcases h with ⟨L',hJ,h1⟩ | ⟨c,L',hc,h1⟩
  ·
   have h2:=run_endLoop (P:=P) (h1.ob (i:=0) rfl) (by rw [hrec]; simp)
   rw [hrec] at h2
   refine ⟨none,_,h2,?_⟩
   exact ⟨_,hsim D,hdone D L' _ hJ ((h1.setObj (i:=0) (g:=D+1) rfl _).drop1)⟩
  ·
   have h2:=run_endLoop (P:=P) (h1.ob (i:=0) rfl) (by rw [hrec]; simp)
   rw [hrec] at h2
   refine ⟨some c,_,h2,?_⟩
   have h3:=(h1.setObj (i:=0) (g:=D+1) rfl (.loop { rec .done (some c) with state:=.exhausted })).drop1
   rw [hrec] at h3
   rcases hc with ⟨rfl,hj⟩ | ⟨id,rfl,hm,hj⟩
   · exact wpIn_ret ⟨_,hsim D,hret D L' _ hj h3⟩
   ·
    obtain ⟨K,hK1,hK2⟩:=hexit id D L' _ hm hj h3
    exact wpIn_exit ⟨_,hsim D,K,hK1,hK2⟩
/-! Functions that leave with marks. -/
def marksF (ms:List Nat):List Fact:=ms.map fun D=>.obj D (.deferred (some []))
theorem Cx.markIn {I:Nat→Prop} {O0:List Nat} {w0 w:World} {L:List Fact} {D:Nat} {ms:List Nat} (h:Cx I O0 w0 w (.obj D (.deferred (some []))::(L++marksF ms))):Cx I O0 w0 w (L++marksF (D::ms)):=h.perm List.perm_middle
theorem leaves_marks {fn:Func} {tmps:Array Value} {R:Ending→World→Prop} {I:Nat→Prop} {O0:List Nat} {w0:World} {L:List Fact}: ∀(ms:List Nat) (w:World),Cx I O0 w0 w (marksF ms++L)→
  (∀w',Cx I O0 w0 w' L→∃v,(results fn tmps).run P w'=.ok v w'∧R (.returned v) w')→LeavesInM (wF none) 0 P fn tmps R (ms.map markD) .returning w
 | [],w,h,k=>k w h
 | D::ms,w,h,k=>by
  refine ⟨by simp,.inl ⟨D,_,rfl,run_takeDeferred (h.ob (i:=0) rfl),?_⟩⟩
  exact leaves_marks ms _ ((h.setObj (i:=0) (g:=D) rfl (.deferred none)).drop1) k
theorem calls_of_WcM {f:FuncId} {fn:Func} {c:Code} {args:Array Value} {R:Ending→World→Prop} (hf:P.funcs[f]? =some fn) (hb:fn.body=some c) (hn:args.size≤fn.ntmps)
  (h: ∀K:Asn,(∀E w (ms:List Nat) (I:Nat→Prop) (O0:List Nat) (w0:World) (L:List Fact),E.ms=ms→Cx I O0 w0 w (marksF ms++L)→(∀w',Cx I O0 w0 w' L→∃v,(∀tmps:Array Value,(∀t,tmps.getD t undef=E t)→(results fn tmps).run P w'=.ok v w')∧R (.returned v) w')→K E w)→WcM none true P fn.ntmps c K K [] (start args.toList) w):Calls P f args w R:=by
 have fin: ∀(a':Act) (w':World),(∃E',Sim true fn.ntmps a' E'∧∃(ms:List Nat) (I:Nat→Prop) (O0:List Nat) (w0:World) (L:List Fact),E'.ms=ms∧Cx I O0 w0 w' (marksF ms++L)∧(∀w'',Cx I O0 w0 w'' L→∃v,(∀tmps:Array Value,(∀t,tmps.getD t undef=E' t)→(results fn tmps).run P w''=.ok v w'')∧R (.returned v) w''))→LeavesInM (wF none) 0 P fn a'.tmps R a'.defers .returning w':=by
  rintro a' w' ⟨E',hs,ms,I,O0,w0,L,rfl,hC,hk⟩
  have hd:a'.defers=E'.ms.map markD:=hs.2.1
  rw [hd]
  exact leaves_marks E'.ms w' hC fun w'' hC'=>by obtain ⟨v,h1,h2⟩:=hk w'' hC'; exact ⟨v,h1 _ hs.2.2,h2⟩
 refine (callsIn_wF (r:=none) (n:=0)).1 (callsIn_of_wp_marks hf hb trivial (wpIn_mono (h (fun E' w'=> ∃(ms:List Nat) (I:Nat→Prop) (O0:List Nat) (w0:World) (L:List Fact),E'.ms=ms∧Cx I O0 w0 w' (marksF ms++L)∧(∀w'',Cx I O0 w0 w'' L→∃v,(∀tmps:Array Value,(∀t,tmps.getD t undef=E' t)→(results fn tmps).run P w''=.ok v w'')∧R (.returned v) w'')) (fun E w ms I O0 w0 L h1 h2 h3=>⟨ms,I,O0,w0,L,h1,h2,h3⟩) 0 _ (start_sim hn)) fun e a' w' hq=>?_) rfl)
 cases e with
 | normal=>exact fin a' w' hq
 | ret=>exact fin a' w' hq
 | exit id=>obtain ⟨E',hs,K,hk,h'⟩:=hq; simp at hk
 | _=>exact hq.elim

/-! Calls of yield. -/
theorem op_yield {ρ:Operand→Value} {d:Option Tmp} {t:TypeId} {pos:String} {af:Array Edge} {g:Option (Nat×Bool)} {c:Call} {q:Operand} {l:Nat} {vs:List Value} (ho:c.callee=.value q) (hf:ρ q=.func (.yield l) #[] #[]) (ha:c.args.toList.map ρ=vs)
  {fn:FuncId} {tmps:Array Value} {assign body:Code} (hy:(Instr.yield l vs.toArray).run P w=.ok (.round l fn tmps assign body) w):(execOp ρ ⟨d,.call c,t,pos,af,g⟩).run P w=.ok (.round l fn tmps assign body) w:=by
 have e:c.args.map ρ=vs.toArray:=Array.ext' (by rw [Array.toList_map]; exact ha)
 obtain ⟨callee,args,ts⟩:=c
 dsimp only at ho e
 subst ho
 simp [execOp,resolve,invoke,go_sem,hf,e]
 exact hy
theorem lex.yield {ops:Array Oper} {K:Env→World→Prop} {o:Oper} {rest:List Oper} {l:Nat} {fn:FuncId} {tmps:Array Value} {assign body:Code} (hr:(execOp E.ev o).run P w=.ok (.round l fn tmps assign body) w) {R:Ending→World→Prop} (hR:RoundIn (wF none) 0 P l fn tmps assign body w R)
  (hk: ∀e w',R e w'→∃v,e=.returned v∧lex P ops K rest (E.put o.dst v) w') (hg:o.guard=none:=by rfl):lex P ops K (o::rest) E w:=by
 have hw:wantE ops E o=true:=by unfold wantE Region.wanted; rw [hg]
 simp only [lex,hw,if_true]
 unfold wpV; rw [hr]
 exact RoundIn.mono hR fun e w' h1=>by obtain ⟨v,rfl,h2⟩:=hk e w' h1; exact h2
theorem i64w {n:Int} (h:IntKind.i64.wrap n=n):I64 n:=by
 rw [IntKind.wrap_i64] at h; unfold I64; omega
theorem rev_i {α:Type} {xs:List α} {k:Nat} {x:α} (h:xs.reverse[k]? =some x):xs[xs.length-1-k]? =some x:=by
 have hk:k<xs.length:=by have:=(List.getElem?_eq_some_iff.1 h).1; simpa using this
 rwa [List.getElem?_reverse hk] at h
theorem rev_x {xs:List Int} {k:Nat} {x:Int} (h:xs.reverse[k]? =some x):xs.getD (xs.length-1-k) 0=x:=by
 rw [List.getD_eq_getElem?_getD,rev_i h]; rfl
def RdBack (gb:Nat) (t:TypeId) (A:Option Addr) (c:Nat) (xs:List Int) (W:World):Prop:=
 Blk W gb t [.slice A xs.length c]∧xs.length≤9223372036854775807∧∀i x,xs[i]? =some x→∃ad,A=some ad∧W.cell? (ad.add i)=some (.int .i64 x)
theorem rdBackR {I:Nat→Prop} {O0:List Nat} {w0 w:World} {L:List Fact} (h:Cx I O0 w0 w L) {i j gb:Nat} {t:TypeId} {A:Option Addr} {c:Nat} {xs:List Int} (hi:L[i]? =some (.box gb t [.slice A xs.length c])) (hj:L[j]? =some (.ro (.sl (.int .i64)) [.slice A xs.length c] xs)):RdBack gb t A c xs w:=by
 refine ⟨h.bx hi,?_,fun k x hx=>?_⟩
 · obtain ⟨_,h1,h2⟩:=(h.rd hj).qae; omega
 ·
  obtain ⟨ad,cs,h1,h2,h3,_⟩:=h.elr hj hx
  subst h3
  have h3:=h2 0 _ rfl
  have e:(ad.add k).add 0=ad.add k:=by simp [Addr.add]
  simp only [Sh.n,Nat.mul_one] at h3
  rw [e] at h3
  exact ⟨ad,h1,h3⟩
