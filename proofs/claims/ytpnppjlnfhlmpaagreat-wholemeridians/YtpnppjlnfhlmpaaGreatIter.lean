import Derived.Test.YtpnppjlnfhlmpaaGreatRange
set_option linter.all false
namespace Go.Proofs.YtpnppjlnfhlmpaaGreat
namespace Ev
section
variable {I : Nat → Prop} {O0 : List Nat} {w0 w w' : World} {L M T : List Fact}
theorem Cx.assoc (h:Cx I O0 w0 w ((L++M)++T)):Cx I O0 w0 w (L++(M++T)):=by rwa [List.append_assoc] at h
theorem Cx.assoc' (h:Cx I O0 w0 w (L++(M++T))):Cx I O0 w0 w ((L++M)++T):=by rwa [List.append_assoc]
theorem sumL {α β γ:Type} {f:α→Option γ} {g:β→Option γ} {a:α} {r:γ} (h:Sum.elim f g (.inl a)=some r):f a=some r:=h
theorem sumR {α β γ:Type} {f:α→Option γ} {g:β→Option γ} {a:β} {r:γ} (h:Sum.elim f g (.inr a)=some r):g a=some r:=h
theorem Cx.yarg {f:Fact} (h:Cx I O0 w0 w ((f::L)++T)):Cx I O0 w0 w (f::(T++L)):=h.perm (List.Perm.cons f List.perm_append_comm)
theorem Cx.comm (h:Cx I O0 w0 w (L++T)):Cx I O0 w0 w (T++L):=h.perm List.perm_append_comm
theorem Cx.markF {D:Nat} {ms:List Nat} (h:Cx I O0 w0 w (.obj D (.deferred (some []))::(M++(L++marksF ms)))):Cx I O0 w0 w ((M++L)++marksF (D::ms)):=by
  rw [←List.append_assoc] at h
  exact h.perm List.perm_middle
end

def YieldF (P:Program) (et:TypeId) (I:Nat→Prop) (O0:List Nat) (w0:World) (l:Nat) {Sg Xg:Type} (step:List Int→Sg→Option (Sg⊕Xg)) (JJ:Sg→List Fact→Prop) (JX:Xg→List Fact→Prop):Prop:=
  ∀(s:Sg) (o:Sg⊕Xg) (row:List Int) (A:Option Addr) (c:Nat) (T Tp:List Fact) (W:World),JJ s T→step row s=some o→Cx I O0 w0 W (.own et (.int .i64) (.slice A row.length c) row::(T++Tp))→
    YieldW P l #[.slice A row.length c] W fun e W'=>(∃s' T',o=.inl s'∧e=.returned (.bool true)∧JJ s' T'∧Cx I O0 w0 W' (T'++Tp))∨(∃x T',o=.inr x∧e=.returned (.bool false)∧JX x T'∧Cx I O0 w0 W' (T'++Tp))

def IterF (P:Program) (gf:Nat) (lb:Array Value) (et:TypeId) (F0:List Fact) {Sg Xg:Type} (step:List Int→Sg→Option (Sg⊕Xg)) (run:Sg→Option (Sg⊕Xg)):Prop:=
  ∀(l:Nat) (I:Nat→Prop) (O0:List Nat) (w0:World) (JJ:Sg→List Fact→Prop) (JX:Xg→List Fact→Prop) (s:Sg) (r:Sg⊕Xg) (T:List Fact) (w:World),YieldF P et I O0 w0 l step JJ JX→JJ s T→run s=some r→Cx I O0 w0 w (F0++T)→
    Calls P gf (#[.func (.yield l) #[] #[]]++lb) w fun e w'=> ∃v,e=.returned v∧((∃s' T',r=.inl s'∧JJ s' T'∧Cx I O0 w0 w' (F0++T'))∨(∃x T',r=.inr x∧JX x T'∧Cx I O0 w0 w' (F0++T')))

def lr {S:Type}:S⊕S→S
  | .inl s=>s
  | .inr s=>s

section
variable {P : Program} {N : Nat} {nrm rt : Asn} {ex : List (Nat × Asn)} {E : Env} {w : World}
theorem Wc.rangeF {I:Nat→Prop} {O0:List Nat} {w0:World} {L F0:List Fact} {g:Operand} {ps:Array Tmp} {assign body:Code} {gf:Nat} {lb:Array Value} {et:TypeId}
    {Sg Xg:Type} {step:List Int→Sg→Option (Sg⊕Xg)} {run:Sg→Option (Sg⊕Xg)} {s0:Sg} {r:Sg⊕Xg}
    (JJ:Sg→List Fact→Prop) (JX:Xg→List Fact→Prop) (ids:List Nat) (xc:Xg→Option Nat)
    (hg:E.ev g=.func (.func gf) #[] lb) (eg: ∀args w,(callFunc gf args).run P w=.ok (.enter gf args) w)
    (it:IterF P gf lb et F0 step run) (hps:ps.size=1) (hpN: ∀p∈ps,p<N)
    (pl:Value→List (Tmp×Value)) (hpl: ∀v,(ps.zip #[v]).toList=pl v)
    (hC:Cx I O0 w0 w (F0++L)) (h0:JJ s0 L) (hrun:run s0=some r)
    (E1:Value→Env)
    (asg: ∀l v W,WcM (some l) false P N assign (fun E' W'=>W'=W∧E'=E1 v) (fun _ _=>False) [] (putAll ⟨E.f,[]⟩ (pl v)) W)
    (round: ∀s o row A c l D oB oK L Tp W,JJ s L→step row s=some o→Cx I O0 w0 W ((.own et (.int .i64) (.slice A row.length c) row:: .obj l oB:: .obj D oK::L)++Tp)→∀(Kn Kr:Asn) (Kx:Nat→Asn),
      (∀s' E' W' L',o=.inl s'→JJ s' L'→Cx I O0 w0 W' ((.obj l oB:: .obj D oK::L')++Tp)→Kn E' W')→
      (∀x E' W' L',o=.inr x→xc x=none→JX x L'→Cx I O0 w0 W' ((.obj l oB:: .obj D oK::L')++Tp)→Kr E' W')→
      (∀x id E' W' L',o=.inr x→xc x=some id→JX x L'→Cx I O0 w0 W' ((.obj l oB:: .obj D oK::L')++Tp)→Kx id E' W')→
      WcM (some l) false P N body Kn Kr (ids.map fun id=>(id,Kx id)) (E1 (.slice A row.length c)) W)
    (hdone: ∀s D L W,r=.inl s→JJ s L→Cx I O0 w0 W (.obj D (.deferred (some []))::(F0++L))→nrm ⟨E.f,D::E.ms⟩ W)
    (hret: ∀x D L W,r=.inr x→xc x=none→JX x L→Cx I O0 w0 W (.obj D (.deferred (some []))::(F0++L))→rt ⟨E.f,D::E.ms⟩ W)
    (hexit: ∀x id D L W,r=.inr x→xc x=some id→id∈ids→JX x L→Cx I O0 w0 W (.obj D (.deferred (some []))::(F0++L))→∃K,ex.lookup id=some K∧K ⟨E.f,D::E.ms⟩ W):
    WcM none true P N (.rangeFunc g ps assign body) nrm rt ex E w:=by
  intro rm a hs
  refine wpIn_rangeFunc fun fn hfn=>?_
  obtain ⟨rec,hrec⟩: ∃rec:LoopState→Option Code→Loop,rec=fun st pe=>{ state:=st,pending:=pe,fn,tmps:=a.tmps,params:=ps,assign,body,defers:=w.heap.size }:=⟨_,rfl⟩
  obtain ⟨W1,hW1⟩: ∃W1,(w.alloc (.deferred (some []))).alloc (.loop (rec .ready none))=W1:=⟨_,rfl⟩
  have hl0:(w.alloc (.deferred (some []))).heap.size=w.heap.size+1:=by simp
  have hC1:Cx I O0 w0 W1 (.obj (w.heap.size+1) (.loop (rec .ready none)):: .obj w.heap.size (.deferred (some []))::(F0++L)):=by
    have:=(hC.obj (.deferred (some []))).obj (.loop (rec .ready none))
    rw [hl0,hW1] at this
    exact this
  have hsim: ∀D,Sim true N { a with defers:=[markD D]++a.defers } ⟨E.f,D::E.ms⟩:=fun D=>⟨hs.1,by
    have:=hs.2.1
    show [markD D]++a.defers=_
    rw [this]; rfl,hs.2.2⟩
  generalize hD:w.heap.size=D at hC1
  refine ⟨D+1,[markD D],W1,{ target:=.fn (.func gf) lb,args:=#[.func (.yield (D+1)) #[] #[]] },W1,gf,#[.func (.yield (D+1)) #[] #[]]++lb,W1,?_,?_,?_,?_,fun h=>by (cases h),callsIn_wF.2 ?_⟩
  · rw [←hW1,hrec,←hD]; exact run_enterLoop_outer _ _ _ _ _
  · simp only [resolve,hs.eval,hg]
    simp [go_sem]
    rfl
  · intro f' hf'; trivial
  · simp [invoke,go_sem,eg]
  obtain ⟨cd,hcd⟩: ∃cd:Option Nat→Code,cd=fun q=>match q with | none=>.ret | some id=>.exit id:=⟨_,rfl⟩
  obtain ⟨JJ',hJJ'⟩: ∃JJ':Sg→List Fact→Prop,JJ'=fun s T=> ∃L,T=.obj (D+1) (.loop (rec .ready none)):: .obj D (.deferred (some []))::L∧JJ s L:=⟨_,rfl⟩
  obtain ⟨JX',hJX'⟩: ∃JX':Xg→List Fact→Prop,JX'=fun x T=> ∃L,T=.obj (D+1) (.loop (rec .done (some (cd (xc x))))):: .obj D (.deferred (some []))::L∧JX x L∧∀id,xc x=some id→id∈ids:=⟨_,rfl⟩
  refine (it (D+1) I O0 w0 JJ' JX' s0 r _ W1 ?_ (by rw [hJJ']; exact ⟨L,rfl,h0⟩) hrun (hC1.perm (by
    refine (List.perm_middle (l₁:=F0)).trans ?_
    exact List.Perm.cons _ List.perm_middle))).mono ?_
  · intro s o row A c T Tp W hJ hst hW
    rw [hJJ'] at hJ
    obtain ⟨L,rfl,hJ⟩:=hJ
    have hl:W.heap[D+1]? =some (.loop (rec .ready none)):=hW.ob (i:=1) rfl
    have hy:=run_yield (P:=P) (args:=#[.slice A row.length c]) hl (by rw [hrec]; exact hps.symm)
    rw [hrec] at hy
    refine ⟨fn,_,assign,body,hy,roundIn_of_wpIn (n:=0) trivial ?_⟩
    have hS0:Sim false N { tmps:=(ps.zip #[.slice A row.length c]).foldl (fun t (q:Tmp×Value)=>t.setIfInBounds q.1 q.2) a.tmps,defers:=[] } (putAll ⟨E.f,[]⟩ (ps.zip #[.slice A row.length c]).toList):=by
      rw [←Array.foldl_toList]
      refine putAll_sim _ (fun q hq=>hpN q.1 ?_) ⟨hs.1,rfl,hs.2.2⟩
      have hq':=Array.mem_toList_iff.1 hq
      obtain ⟨i,hi,he⟩:=Array.mem_iff_getElem.1 hq'
      rw [←he,Array.getElem_zip]
      exact Array.getElem_mem _
    rw [hpl] at hS0
    refine wpIn_mono (asg (D+1) (.slice A row.length c) W 0 _ hS0) ?_
    intro e a1 w1 hq
    cases e with
    | normal=>
      obtain ⟨E',hs1,rfl,rfl⟩:=hq
      refine ⟨_,run_beginRound hl (by rw [hrec]),?_⟩
      have hB:=hW.setObj (i:=1) (g:=D+1) rfl (.loop { rec .ready none with state:=.busy })
      refine wpIn_mono (round s o row A c (D+1) D _ _ L Tp _ hJ hst hB
        (fun _ W'=> ∃s' L',o=.inl s'∧JJ s' L'∧Cx I O0 w0 W' ((.obj (D+1) (.loop { rec .ready none with state:=.busy }):: .obj D (.deferred (some []))::L')++Tp))
        (fun _ W'=> ∃x L',o=.inr x∧xc x=none∧JX x L'∧Cx I O0 w0 W' ((.obj (D+1) (.loop { rec .ready none with state:=.busy }):: .obj D (.deferred (some []))::L')++Tp))
        (fun id _ W'=> ∃x L',o=.inr x∧xc x=some id∧JX x L'∧Cx I O0 w0 W' ((.obj (D+1) (.loop { rec .ready none with state:=.busy }):: .obj D (.deferred (some []))::L')++Tp))
        (fun s' _ _ L' h1 h2 h3=>⟨s',L',h1,h2,h3⟩) (fun x _ _ L' h1 h2 h3 h4=>⟨x,L',h1,h2,h3,h4⟩) (fun x _ _ _ L' h1 h2 h3 h4=>⟨x,L',h1,h2,h3,h4⟩) 0 a1 hs1) ?_
      intro e a3 W3 hp
      have fin: ∀(jump:Option Code) (L':List Fact),Cx I O0 w0 W3 ((.obj (D+1) (.loop { rec .ready none with state:=.busy }):: .obj D (.deferred (some []))::L')++Tp)→
          (Instr.endRound (D+1) jump).run P W3=.ok (.bool jump.isNone) (W3.putObj (D+1) (.loop (rec (if jump.isNone then .ready else .done) jump)))∧
          Cx I O0 w0 (W3.putObj (D+1) (.loop (rec (if jump.isNone then .ready else .done) jump))) ((.obj (D+1) (.loop (rec (if jump.isNone then .ready else .done) jump)):: .obj D (.deferred (some []))::L')++Tp):=fun jump L' h=>by
        have h1:=run_endRound (P:=P) jump (h.ob (i:=0) rfl)
        refine ⟨?_,h.setObj (i:=0) (g:=D+1) rfl _⟩
        rw [hrec] at h1⊢
        exact h1
      cases e with
      | normal=>
        obtain ⟨E',_,s',L',h0,h1,h2⟩:=hp
        obtain ⟨h3,h4⟩:=fin none L' h2
        exact ⟨_,_,h3,.inl ⟨s',_,h0,rfl,by rw [hJJ']; exact ⟨L',rfl,h1⟩,h4⟩⟩
      | ret=>
        obtain ⟨E',_,x,L',h0,hx,h1,h2⟩:=hp
        obtain ⟨h3,h4⟩:=fin (some .ret) L' h2
        exact ⟨_,_,h3,.inr ⟨x,_,h0,rfl,by rw [hJX']; exact ⟨L',by rw [hx,hcd]; rfl,h1,fun id hid=>by rw [hx] at hid; cases hid⟩,h4⟩⟩
      | exit id=>
        obtain ⟨E',_,K,hK,hk'⟩:=hp
        have hmem:id∈ids∧K=fun _ W'=> ∃x L',o=.inr x∧xc x=some id∧JX x L'∧Cx I O0 w0 W' ((.obj (D+1) (.loop { rec .ready none with state:=.busy }):: .obj D (.deferred (some []))::L')++Tp):=by
          clear hexit hret hdone round hJX'
          induction ids with
          | nil=>simp at hK
          | cons i ids ih=>
            rw [List.map_cons,List.lookup_cons] at hK
            by_cases hi:id=i
            · subst hi
              have hb:(id == id)=true:=beq_self_eq_true id
              rw [hb] at hK
              exact ⟨by simp,(Option.some.inj hK).symm⟩
            · have hb:(id == i)=false:=beq_eq_false_iff_ne.2 hi
              rw [hb] at hK
              obtain ⟨h5,h6⟩:=ih hK
              exact ⟨List.mem_cons_of_mem _ h5,h6⟩
        obtain ⟨hm,rfl⟩:=hmem
        obtain ⟨x,L',h0,hx,h1,h2⟩:=hk'
        obtain ⟨h3,h4⟩:=fin (some (.exit id)) L' h2
        exact ⟨_,_,h3,.inr ⟨x,_,h0,rfl,by rw [hJX']; exact ⟨L',by rw [hx,hcd]; rfl,h1,fun id' hid=>by rw [hx] at hid; cases hid; exact hm⟩,h4⟩⟩
      | goto t=>exact hp.elim
      | panic ch=>exact hp.elim
      | outgrown=>exact hp.elim
    | ret=>obtain ⟨_,_,h⟩:=hq; exact h.elim
    | exit id=>obtain ⟨_,_,K,hK,_⟩:=hq; simp at hK
    | goto t=>exact hq.elim
    | panic ch=>exact hq.elim
    | outgrown=>exact hq.elim
  · rintro e W2 ⟨v,rfl,h⟩
    have back: ∀{o1 o2:Obj} {L':List Fact},Cx I O0 w0 W2 (F0++(.obj (D+1) o1:: .obj D o2::L'))→Cx I O0 w0 W2 (.obj (D+1) o1:: .obj D o2::(F0++L')):=fun h=>h.perm (by
      refine List.Perm.symm ((List.perm_middle (l₁:=F0)).trans ?_)
      exact List.Perm.cons _ List.perm_middle)
    rcases h with ⟨s',T',hr,hJ,h1⟩ | ⟨x,T',hr,hJ,h1⟩
    · rw [hJJ'] at hJ
      obtain ⟨L',rfl,hJ⟩:=hJ
      replace h1:=back h1
      have h2:=run_endLoop (P:=P) (h1.ob (i:=0) rfl) (by rw [hrec]; simp)
      rw [hrec] at h2
      refine ⟨none,_,h2,?_⟩
      exact ⟨_,hsim D,hdone s' D L' _ hr hJ ((h1.setObj (i:=0) (g:=D+1) rfl _).drop1)⟩
    · rw [hJX'] at hJ
      obtain ⟨L',rfl,hJ,hm⟩:=hJ
      replace h1:=back h1
      have h2:=run_endLoop (P:=P) (h1.ob (i:=0) rfl) (by rw [hrec]; simp)
      rw [hrec] at h2
      refine ⟨some (cd (xc x)),_,h2,?_⟩
      have h3:=(h1.setObj (i:=0) (g:=D+1) rfl (.loop { rec .done (some (cd (xc x))) with state:=.exhausted })).drop1
      rw [hrec] at h3
      cases hx:xc x with
      | none=>
        rw [hx,hcd] at h3
        rw [hcd]
        exact wpIn_ret ⟨_,hsim D,hret x D L' _ hr hx hJ h3⟩
      | some id=>
        rw [hx,hcd] at h3
        rw [hcd]
        obtain ⟨K,hK1,hK2⟩:=hexit x id D L' _ hr hx (hm id hx) hJ h3
        exact wpIn_exit ⟨_,hsim D,K,hK1,hK2⟩
end
section
variable {P : Program} {ρ : Operand → Value} {d : Option Tmp} {ty : TypeId} {pos : String} {af : Array Edge} {gd : Option (Nat × Bool)} {x y : Operand}
