import Derived.Test.YtpnppjlnfhlmpaaGreatCtx
namespace Go.Proofs.YtpnppjlnfhlmpaaGreat
namespace Ev
open Go.RowKit (Below)

def loopN {S R:Type}:Nat→(S→Option (S⊕R))→S→Option R
 | 0,_,_=>none
 | n+1,body,s=>(body s).bind fun o=>match o with | .inl s'=>loopN n body s' | .inr r=>some r

theorem qak {S R:Type} {n:Nat} {body:S→Option (S⊕R)} {s:S} {r:R} (h:loopN n body s=some r):
  ∃m o,n=m+1∧body s=some o∧((∃s',o=.inl s'∧loopN m body s'=some r)∨o=.inr r):=by
 cases n with
 | zero=>cases h
 | succ m=>
  obtain ⟨o,h1,h2⟩:=Option.bind_eq_some_iff.1 h
  refine ⟨m,o,rfl,h1,?_⟩
  cases o with
  | inl s'=>exact .inl ⟨s',rfl,h2⟩
  | inr r'=>injection h2 with h2; subst h2; exact .inr rfl

def chk (z:Int):Option Int:=if -9223372036854775808≤z∧z≤9223372036854775807 then some z else none
theorem qfh {z y:Int} (h:chk z=some y):y=z∧I64 z:=by
 unfold chk at h
 split at h
 · rename_i hz; injection h with h; exact ⟨h.symm,hz⟩
 · cases h
def get {α:Type} (xs:List α) (i:Int):Option α:=if 0≤i then xs[i.toNat]? else none
theorem qac {α:Type} {xs:List α} {i:Int} {x:α} (h:get xs i=some x):(0≤i∧i<xs.length)∧xs[i.toNat]? =some x:=by
 unfold get at h
 split at h
 ·
  rename_i hi
  have:=(List.getElem?_eq_some_iff.1 h).1
  exact ⟨⟨hi,by omega⟩,h⟩
 · cases h
def lim (n:Nat):Option Unit:=if n≤1099511627776 then some () else none
theorem qbj {n:Nat} {u:Unit} (h:lim n=some u):n≤1099511627776:=by
 unfold lim at h
 split at h
 · assumption
 · cases h
def pos (n:Int):Option Unit:=if 0≤n∧n≤1099511627776 then some () else none
theorem qai {n:Int} {u:Unit} (h:pos n=some u):0≤n∧n≤1099511627776:=by
 unfold pos at h
 split at h
 · assumption
 · cases h
def cut (a b:Int) (n:Nat):Option Unit:=if 0≤a∧a≤b∧b≤n then some () else none
theorem qfx {a b:Int} {n:Nat} {u:Unit} (h:cut a b n=some u):0≤a∧a≤b∧b≤n:=by
 unfold cut at h
 split at h
 · assumption
 · cases h
def nz (n:Int):Option Unit:=if n≠0 then some () else none
theorem nz_some {n:Int} {u:Unit} (h:nz n=some u):n≠0:=by
 unfold nz at h
 split at h
 · assumption
 · cases h

theorem I64.len {n c:Nat} (h:n≤c) (hc:c≤9223372036854775807):I64 (n:Int):=by unfold I64; omega
theorem I64.max {a b:Int} (ha:I64 a) (hb:I64 b):I64 (max a b):=by unfold I64 at *; omega
theorem I64.min {a b:Int} (ha:I64 a) (hb:I64 b):I64 (min a b):=by unfold I64 at *; omega
theorem I64.wr {a:Int} (h:I64 a):IntKind.i64.wrap a=a:=h.wrap

/-! Results. -/
def RV (P:Program) (E:Env) (w:World):ResultVar→Value→Prop
 | .tmp t,v=>E t=v
 | .cell a t,v=> ∃A,E a=.pointer (some A)∧(loadVar t A).run P w=.ok v w
theorem RV.run {P:Program} {E:Env} {w:World} {r:ResultVar} {v:Value} (h:RV P E w r v) {tmps:Array Value} (ht: ∀t,tmps.getD t undef=E t):
  (match r with | .tmp t=>(Pure.pure (tmps.getD t undef):Sem Value) | .cell a t=>do loadVar t (←asAddr (tmps.getD a undef))).run P w=.ok v w:=by
 cases r with
 | tmp t=>have:E t=v:=h; simp only [ht,this]; rfl
 | cell a t=>obtain ⟨A,h1,h2⟩:=h; simp only [ht,h1]; simp [asAddr,h2]
theorem res0 {P:Program} {fn:Func} {E:Env} {w:World} (h:fn.results=#[]): ∀tmps:Array Value,(∀t,tmps.getD t undef=E t)→(results fn tmps).run P w=.ok (.tuple #[]) w:=fun tmps _=>by simp [results,h]
theorem map1 {P:Program} {w:World} {f:ResultVar→Sem Value} {r:ResultVar} {v:Value} (h1:(f r).run P w=.ok v w):(do let vs←#[r].mapM f; Pure.pure (if h:vs.size=1 then vs[0] else .tuple vs):Sem Value).run P w=.ok v w:=by
 simp [h1]
theorem map2 {P:Program} {w:World} {f:ResultVar→Sem Value} {r s:ResultVar} {v u:Value} (h1:(f r).run P w=.ok v w) (h2:(f s).run P w=.ok u w):(do let vs←#[r,s].mapM f; Pure.pure (if h:vs.size=1 then vs[0] else .tuple vs):Sem Value).run P w=.ok (.tuple #[v,u]) w:=by
 simp [h1,h2]
theorem map3 {P:Program} {w:World} {f:ResultVar→Sem Value} {r s q:ResultVar} {v u x:Value} (h1:(f r).run P w=.ok v w) (h2:(f s).run P w=.ok u w) (h3:(f q).run P w=.ok x w):(do let vs←#[r,s,q].mapM f; Pure.pure (if h:vs.size=1 then vs[0] else .tuple vs):Sem Value).run P w=.ok (.tuple #[v,u,x]) w:=by
 simp [h1,h2,h3]
theorem res1 {P:Program} {fn:Func} {E:Env} {w:World} {r:ResultVar} {v:Value} (h:fn.results=#[r]) (h1:RV P E w r v): ∀tmps:Array Value,(∀t,tmps.getD t undef=E t)→(results fn tmps).run P w=.ok v w:=fun tmps ht=>by
 unfold results
 rw [h]
 exact map1 (h1.run ht)
theorem res2 {P:Program} {fn:Func} {E:Env} {w:World} {r s:ResultVar} {v u:Value} (h:fn.results=#[r,s]) (h1:RV P E w r v) (h2:RV P E w s u): ∀tmps:Array Value,(∀t,tmps.getD t undef=E t)→(results fn tmps).run P w=.ok (.tuple #[v,u]) w:=fun tmps ht=>by
 unfold results
 rw [h]
 exact map2 (h1.run ht) (h2.run ht)
theorem res3 {P:Program} {fn:Func} {E:Env} {w:World} {r s q:ResultVar} {v u x:Value} (h:fn.results=#[r,s,q]) (h1:RV P E w r v) (h2:RV P E w s u) (h3:RV P E w q x): ∀tmps:Array Value,(∀t,tmps.getD t undef=E t)→(results fn tmps).run P w=.ok (.tuple #[v,u,x]) w:=fun tmps ht=>by
 unfold results
 rw [h]
 exact map3 (h1.run ht) (h2.run ht) (h3.run ht)

theorem qcq {P:Program} {w:World} {t te:TypeId} {g:Nat} {cs:List Value} (hb:Blk w g te cs) (hg: ∀w,(isAgg t).run P w=.ok true w) (hs: ∀w,(sizeOf t).run P w=.ok cs.length w):(loadVar t ⟨g,0,none⟩).run P w=.ok (.agg cs.toArray) w:=by
 have:=run_loadCells_list (P:=P) w ⟨g,0,none⟩ cs fun j u hu=>hb.cell hu
 simp [loadVar,hg,hs,this]

section
variable {I : Nat → Prop} {O0 : List Nat} {w0 w w' : World} {L : List Fact}
theorem Cx.start {w:World} {O0:List Nat} (hO: ∀k∈O0,k<w.heap.size):Cx (fun _=>False) O0 w w []:=
 ⟨Fr.refl _ w,hO,List.nodup_nil,(fun _ h=>absurd h List.not_mem_nil),(fun _ h=>absurd h List.not_mem_nil)⟩
theorem Cx.arg (h:Cx I O0 w0 w0 L) (hb:blocks L=[]) {s:Sh} {cs:List Value} {x:s.T} (hr:Rep O0 w0 s cs x):Cx I O0 w0 w0 (.ro s cs x::L):=
 h.ro (by rw [hb,List.append_nil]; exact hr)
theorem Cx.elr (h:Cx I O0 w0 w L) {i:Nat} {s:Sh} {A:Option Addr} {m c:Nat} {xs:List s.T} (hi:L[i]? =some (.ro (.sl s) [.slice A m c] xs)) {j:Nat} {x:s.T} (hx:xs[j]? =some x):
  ∃ad cs,A=some ad∧(∀j' u,cs[j']? =some u→w.cell? ((ad.add (j*s.n)).add j')=some u)∧Rep (O0++blocks L) w s cs x:=
 Rep.at_ (O:=O0++blocks L) (h.at_ hi) hx
theorem Cx.elo (h:Cx I O0 w0 w L) {i:Nat} {e:TypeId} {s:Sh} {A:Option Addr} {m c:Nat} {xs:List s.T} (hi:L[i]? =some (.own e s (.slice A m c) xs)) {j:Nat} {x:s.T} (hx:xs[j]? =some x):
  ∃ad cs,A=some ad∧(∀j' u,cs[j']? =some u→w.cell? ((ad.add (j*s.n)).add j')=some u)∧Rep (O0++blocks L) w s cs x:=
 Own.at_ (O:=O0++blocks L) (h.at_ hi) hx
theorem Cx.srcr (h:Cx I O0 w0 w L) {i:Nat} {s:Sh} {A:Option Addr} {m c:Nat} {xs:List s.T} (hi:L[i]? =some (.ro (.sl s) [.slice A m c] xs)): ∃news,Src w s.n A m news∧xs.length=m∧Elems (O0++blocks L) w s news xs:=Rep.src (O:=O0++blocks L) (h.at_ hi)
theorem Cx.srco (h:Cx I O0 w0 w L) {i:Nat} {e:TypeId} {s:Sh} {A:Option Addr} {m c:Nat} {xs:List s.T} (hi:L[i]? =some (.own e s (.slice A m c) xs)): ∃news,Src w s.n A m news∧xs.length=m∧Elems (O0++blocks L) w s news xs:=Own.src (O:=O0++blocks L) (h.at_ hi)
theorem Own.take {O:List Nat} {e:TypeId} {s:Sh} {A:Option Addr} {m c:Nat} {xs:List s.T} (h:Own O w e s (.slice A m c) xs (blkOf (.slice A m c))) {k:Nat} (hk:k≤xs.length):Own O w e s (.slice A k c) (xs.take k) (blkOf (.slice A k c)):=by
 obtain ⟨cs,h1,h2⟩:=h
 have hle:k*s.n≤xs.length*s.n:=Nat.mul_le_mul_right _ hk
 refine ⟨cs.take (k*s.n),⟨?_,?_⟩,?_,fun i x hx=>?_⟩
 · rw [List.length_take,h1.1,List.length_take,Nat.min_eq_left hk,Nat.min_eq_left hle]
 ·
  rcases h1.2 with ⟨h0,h00,h000⟩ | ⟨g,o,cap,cur,hv,hG,hb,hn,hc,hsz,ht⟩
  ·
   injection h0 with e1 e2 e3
   subst e1 e2 e3
   exact .inl ⟨by rw [show k=0 by omega],by rw [List.length_take]; omega,rfl⟩
  ·
   injection hv with e1 e2 e3
   subst e1 e2 e3
   refine .inr ⟨g,o,_,cur,by rw [List.length_take,Nat.min_eq_left hk],rfl,hb,by rw [List.length_take]; omega,hc,hsz,?_⟩
   rw [List.length_take,Nat.min_eq_left hk,←ht,List.take_take,Nat.min_eq_left hle]
 · rw [List.length_take,h2.1,List.length_take,Nat.min_eq_left hk,Nat.min_eq_left hle]
 ·
  have hlt:i<k:=by have:=(List.getElem?_eq_some_iff.1 hx).1; rw [List.length_take] at this; omega
  rw [List.getElem?_take_of_lt hlt] at hx
  have:=h2.2 i x hx
  have hle2:i*s.n+s.n≤k*s.n:=by rw [←Nat.succ_mul]; exact Nat.mul_le_mul_right _ hlt
  rw [List.drop_take,List.take_take,Nat.min_eq_left (by omega)]
  exact this
theorem Cx.cuth (h:Cx I O0 w0 w L) {i:Nat} {e:TypeId} {s:Sh} {A:Option Addr} {m c:Nat} {xs:List s.T} (hi:L[i]? =some (.own e s (.slice A m c) xs)) {k:Nat} (hk:k≤xs.length):
  Cx I O0 w0 w (L.set i (.own e s (.slice A (xs.take k).length c) (xs.take k))):=by
 have hl:(xs.take k).length=k:=by rw [List.length_take]; omega
 refine h.turn hi (Fr.refl _ w) (.inl ?_) fun O hO=>?_
 · cases A<;>rfl
 ·
  have hown:Own (O0++blocks L) w e s (.slice A m c) xs (blkOf (.slice A m c)):=h.at_ hi
  rw [hl]
  exact Own.sub (Own.take hown hk) hO
theorem Rep.part {O:List Nat} {s:Sh} {A:Option Addr} {m c a b:Nat} {xs:List s.T} (h:Rep O w (.sl s) [.slice A m c] xs) (hab:a≤b) (hb:b≤xs.length):
  Rep O w (.sl s) [.slice (if c=a then A else A.map (·.add (a*s.n))) ((xs.drop a).take (b-a)).length (c-a)] ((xs.drop a).take (b-a)):=by
 obtain ⟨A',c',h1,h2,h3,h4⟩:=h
 injection h1 with h1
 injection h1 with hA hm hc
 subst hA hm hc
 have hl:((xs.drop a).take (b-a)).length=b-a:=by rw [List.length_take,List.length_drop]; omega
 refine ⟨_,_,rfl,by omega,by omega,fun hp=>?_⟩
 obtain ⟨ad,hA,hO,hi⟩:=h4 (by omega)
 subst hA
 rw [if_neg (by omega)]
 refine ⟨_,rfl,by rw [add_block]; exact hO,fun i x hx=>?_⟩
 have hlt:i<b-a:=by have:=(List.getElem?_eq_some_iff.1 hx).1; omega
 rw [List.getElem?_take_of_lt hlt,List.getElem?_drop] at hx
 obtain ⟨cs',hc,hr⟩:=hi _ x hx
 refine ⟨cs',fun j u hu=>?_,hr⟩
 rw [add_add]
 have:=hc j u hu
 rwa [show (a+i)*s.n+j=a*s.n+(i*s.n+j) by rw [Nat.add_mul]; omega] at this
theorem Fr.qbo {w w':World} (h:w'=w.drew):Fr (fun _=>False) w w':=by subst h; exact Fr.drew w _
theorem Cx.rd (h:Cx I O0 w0 w L) {i:Nat} {s:Sh} {cs:List Value} {x:s.T} (hi:L[i]? =some (.ro s cs x)):Rep (O0++blocks L) w s cs x:=h.at_ hi
theorem Cx.ow (h:Cx I O0 w0 w L) {i:Nat} {e:TypeId} {s:Sh} {v:Value} {xs:List s.T} (hi:L[i]? =some (.own e s v xs)):Own (O0++blocks L) w e s v xs (blkOf v):=h.at_ hi
theorem Cx.bx (h:Cx I O0 w0 w L) {i:Nat} {g:Nat} {t:TypeId} {cs:List Value} (hi:L[i]? =some (.box g t cs)):Blk w g t cs:=h.at_ hi
theorem Rep.qad {O:List Nat} {s:Sh} {A:Option Addr} {m c:Nat} {xs:List s.T} (h:Rep O w (.sl s) [.slice A m c] xs):m=xs.length∧xs.length≤c∧c≤9223372036854775807:=by
 obtain ⟨A',c',h1,h2,h3⟩:=h.sl_form
 injection h1 with e1 e2 e3
 subst e1 e2 e3
 exact ⟨rfl,h2,h3⟩
theorem Own.qad {O:List Nat} {e:TypeId} {s:Sh} {A:Option Addr} {m c:Nat} {xs:List s.T} {G:Option Nat} (h:Own O w e s (.slice A m c) xs G):m=xs.length∧xs.length≤c∧c≤9223372036854775807:=by
 obtain ⟨A',c',h1,h2,h3⟩:=h.form
 injection h1 with e1 e2 e3
 subst e1 e2 e3
 exact ⟨rfl,h2,h3⟩

theorem qbu (L L':List Fact):blocks (L'++L)=blocks L'++blocks L:=List.filterMap_append
theorem Cx.merge (h:Cx I O0 w0 w L) {L':List Fact} (k:Cx (fun _=>False) (O0++blocks L) w w' L'):Cx I O0 w0 w' (L'++L):=by
 have hlt:=h.lt
 have hfr: ∀b∈blocks L',w.heap.size≤b:=fun b hb=>(k.fresh b hb).resolve_right id
 refine ⟨h.fr.trans' k.fr (fun _ _ h=>h.elim),h.lt0,?_,?_,?_⟩
 ·
  rw [qbu]
  refine List.nodup_append.2 ⟨k.nd,h.nd,fun a ha b hb e=>?_⟩
  have h1:=hfr a ha
  have h2:=hlt b (List.mem_append_right _ hb)
  omega
 ·
  intro b hb
  rw [qbu] at hb
  rcases List.mem_append.1 hb with h1 | h1
  · exact .inl (Nat.le_trans h.fr.size (hfr b h1))
  · exact h.fresh b h1
 ·
  intro f hf
  rw [qbu]
  rcases List.mem_append.1 hf with h1 | h1
  ·
   refine Fact.step (Fr.refl (fun _=>False) w') (fun _ h=>h.elim) (fun b hb=>.inl ?_) (k.all f h1) (fun _ _ h=>h)
   simp only [List.mem_append] at hb⊢
   rcases hb with hb | hb | hb
   · exact .inl (.inl hb)
   · exact .inr hb
   · exact .inl (.inr hb)
  ·
   refine Fact.step k.fr (fun _ h=>h.elim) (fun b hb=>?_) (h.all f h1) (fun _ _ h=>h)
   simp only [List.mem_append] at hb⊢
   rcases hb with hb | hb | hb
   · exact .inl (.inl hb)
   · exact .inr (hfr b hb)
   · exact .inl (.inr hb)

def Sh.flat:Sh→Bool
 | .int _=>true
 | .bool=>true
 | .raw=>true
 | .sl _=>false
 | .pr a b=>a.flat&&b.flat
theorem Rep.flat {O O':List Nat}: ∀{s:Sh},s.flat=true→∀{cs:List Value} {x:s.T},Rep O w s cs x→Rep O' w s cs x
 | .int _,_,_,_,h=>h
 | .bool,_,_,_,h=>h
 | .raw,_,_,_,h=>h
 | .sl _,hf,_,_,_=>by cases hf
 | .pr _ _,hf,_,_,h=>by
  simp only [Sh.flat,Bool.and_eq_true] at hf
  obtain ⟨c1,c2,h1,h2,h3⟩:=h
  exact ⟨c1,c2,h1,Rep.flat hf.1 h2,Rep.flat hf.2 h3⟩
def Fact.flat:Fact→Bool
 | .ro .. =>false
 | .own _ s _ _=>s.flat
 | .box .. =>true
 | .obj .. =>true
 | .rbox .. =>false
 | .mp _ _ s _=>s.flat
theorem Cx.flat {O0 O1:List Nat} (k:Cx (fun _=>False) O0 w w' L) (hf:L.all Fact.flat=true) (hlt: ∀b∈O1,b<w.heap.size):Cx (fun _=>False) O1 w w' L:=
 ⟨k.fr,hlt,k.nd,k.fresh,fun f hm=>by
  have h1:=k.all f hm
  have h2:=List.all_eq_true.1 hf f hm
  cases f with
  | ro s cs x=>cases h2
  | own e s v xs=>
   obtain ⟨cs,h3,h4,h5⟩:=h1
   exact ⟨cs,h3,h4,fun i x hx=>Rep.flat h2 (h5 i x hx)⟩
  | box g t cs=>exact h1
  | obj g o=>exact h1
  | rbox g t cs=>cases h2
  | mp g kk s m=>
   obtain ⟨es,a1,a2,a3,a4⟩:=h1
   exact ⟨es,a1,a2,a3,fun e he=>⟨(a4 e he).1,Rep.flat h2 (a4 e he).2⟩⟩⟩
end

/-! Slices that a call turns in place. -/
def Tk (O:List Nat) (w:World) (L:List Fact):Prop:=(∀f∈L,f.holds O w)∧(blocks L).Nodup∧∀k∈blocks L,k∈O
section
variable {I : Nat → Prop} {O0 : List Nat} {w0 w w' : World} {L : List Fact}
theorem Cx.startTk (hO: ∀k∈O0,k<w.heap.size) (h:Tk O0 w L):Cx (fun k=>k∈blocks L) O0 w w L:=
 ⟨Fr.refl _ w,hO,h.2.1,fun _ hk=>.inr hk,fun f hf=>Fact.step (Fr.refl (fun _=>False) w) (fun _ h=>h.elim) (fun k hk=>.inl (by
  rcases List.mem_append.1 hk with h1 | h1
  · exact h1
  · exact h.2.2 k h1)) (h.1 f hf) (fun _ _ h=>h)⟩
theorem Cx.argTk (h:Cx I O0 w0 w0 L) (hb: ∀k∈blocks L,k∈O0) {s:Sh} {cs:List Value} {x:s.T} (hr:Rep O0 w0 s cs x):Cx I O0 w0 w0 (.ro s cs x::L):=
 h.ro (Rep.sub (fun k hk=>.inl (by
  rcases List.mem_append.1 hk with h1 | h1
  · exact h1
  · exact hb k h1)) hr)
theorem Fact.flat_any {O O':List Nat} {w:World}: ∀{f:Fact},f.flat=true→f.holds O w→f.holds O' w
 | .ro ..,h,_=>by cases h
 | .own _ _ _ _,h,⟨cs,h1,h2,h3⟩=>⟨cs,h1,h2,fun i x hx=>Rep.flat h (h3 i x hx)⟩
 | .box ..,_,h=>h
 | .obj ..,_,h=>h
 | .rbox ..,h,_=>by cases h
 | .mp _ _ _ _,h,⟨es,a1,a2,a3,a4⟩=>⟨es,a1,a2,a3,fun e he=>⟨(a4 e he).1,Rep.flat h (a4 e he).2⟩⟩
theorem Rep.none_nil {O:List Nat} {s:Sh} {m c:Nat} {xs:List s.T} (h:Rep O w (.sl s) [.slice none m c] xs):xs=[]:=by
 obtain ⟨A,c',h1,_,_,h4⟩:=h
 rcases Nat.eq_zero_or_pos xs.length with h0 | h0
 · exact List.eq_nil_of_length_eq_zero h0
 ·
  obtain ⟨ad,hA,_⟩:=h4 h0
  subst hA
  injection h1 with h1
  injection h1 with h1
  cases h1
theorem Cx.make0 {P:Program} {ρ:Operand→Value} {d:Option Tmp} {ty:TypeId} {pos:String} {af:Array Edge} {gd:Option (Nat×Bool)} {x y:Operand} (h:Cx I O0 w0 w L) {t e:TypeId} {ti:TypeInfo} {z:Value} {s:Sh} (ht:P.underlying t=some (.slice e)) (hti:P.info? e=some ti) (hz:ti.zero=some z) (hsz:ti.size=s.n) {n:Int}
  (hx:ρ x=.int .i64 0) (hy:ρ y=.int .i64 n) (h0:0≤n) (hb:n≤1099511627776) (hby:ti.bytes≤64):
  Op P ρ ⟨d,.makeSlice t x y,ty,pos,af,gd⟩ w fun v w'=> ∃A c,v=.slice A ([]:List s.T).length c∧([]:List s.T).length≤c∧c≤9223372036854775807∧Cx I O0 w0 w' (.own e s (.slice A ([]:List s.T).length c) ([]:List s.T)::L)∧Fr (fun _=>False) w w'∧(∀g,blkOf (.slice A ([]:List s.T).length c)=some g→w.heap.size≤g):=by
 have hbb:(ti.bytes:Int)*n≤281474976710656:=by
  have:(ti.bytes:Int)*n≤64*n:=Int.mul_le_mul_of_nonneg_right (by omega) h0
  omega
 have hr:=run_make (P:=P) w t e ti z ht hti hz .i64 .i64 0 n (Int.le_refl _) h0 hbb (by omega)
 have hf:=Fr.alloc w (fun _=>False) (.cells (madeCells z.cells (n.toNat*ti.size)) e)
 refine ⟨_,_,op_make hx hy hr,some ⟨w.heap.size,0,none⟩,n.toNat,rfl,Nat.zero_le _,by omega,h.new hf (fun g hg=>?_) (fun O _=>⟨[],⟨by simp,.inr ⟨w.heap.size,0,n.toNat,_,rfl,rfl,Go.heap_alloc_new w _,by simp,by omega,?_,by simp⟩⟩,by simp,by simp⟩),hf,fun g hg=>?_⟩
 rotate_right
 ·
  have h1:some w.heap.size=some g:=hg
  injection h1 with h1
  omega
 ·
  have h1:some w.heap.size=some g:=hg
  injection h1 with h1
  omega
 · rw [←hsz,size_madeCells]; omega
end

theorem lN {S R:Type} {m:Nat} {body:S→Option (S⊕R)} {s:S} {r:R} (h:(∃s',(Sum.inl s:S⊕R)=.inl s'∧loopN m body s'=some r)∨(Sum.inl s:S⊕R)=.inr r):loopN m body s=some r:=by
 rcases h with ⟨s',h1,h2⟩ | h1
 · injection h1 with h1; subst h1; exact h2
 · cases h1
theorem lX {S R:Type} {m:Nat} {body:S→Option (S⊕R)} {q r:R} (h:(∃s',(Sum.inr q:S⊕R)=.inl s'∧loopN m body s'=some r)∨(Sum.inr q:S⊕R)=.inr r):r=q:=by
 rcases h with ⟨s',h1,_⟩ | h1
 · cases h1
 · injection h1 with h1; exact h1.symm

theorem bS (b:Bool):b=true∨b=false:=by cases b<;>simp
theorem bd {α β:Type} {x:Option α} {f:α→Option β} {r:β} (h:x.bind f=some r): ∃a,x=some a∧f a=some r:=Option.bind_eq_some_iff.1 h
section
variable {P : Program} {ρ : Operand → Value} {d : Option Tmp} {t : TypeId} {pos : String} {af : Array Edge} {g : Option (Nat × Bool)} {x y c : Operand} {v : Value} {w : World} {a b z : Int}
theorem qah (h:chk a=some z):I64 z:=by obtain ⟨rfl,h⟩:=qfh h; exact h
theorem qaj {t1 t2:TypeId} (hx:ρ x=.int .i64 a) (hy:ρ y=.int .i64 b) (h:chk (a+b)=some z):Pu P ρ ⟨d,.binOp .add t1 x y t2,t,pos,af,g⟩ (.int .i64 z):=by
 obtain ⟨rfl,hh⟩:=qfh h; exact pu_add hx hy hh
theorem qfi {t1 t2:TypeId} (hx:ρ x=.int .i64 a) (hy:ρ y=.int .i64 b) (h:chk (a-b)=some z):Pu P ρ ⟨d,.binOp .sub t1 x y t2,t,pos,af,g⟩ (.int .i64 z):=by
 obtain ⟨rfl,hh⟩:=qfh h; exact pu_sub hx hy hh
theorem qeu {t1 t2:TypeId} (hx:ρ x=.int .i64 a) (hy:ρ y=.int .i64 b) (h:chk (a*b)=some z):Pu P ρ ⟨d,.binOp .mul t1 x y t2,t,pos,af,g⟩ (.int .i64 z):=by
 obtain ⟨rfl,hh⟩:=qfh h; exact pu_mul hx hy hh
theorem qgj {t1:TypeId} (hx:ρ x=.int .i64 a) (h:chk (-a)=some z):Pu P ρ ⟨d,.unOp .neg t1 x,t,pos,af,g⟩ (.int .i64 z):=by
 obtain ⟨rfl,hh⟩:=qfh h; exact pu_neg hx hh
theorem pu_quoc {t1 t2:TypeId} {u:Unit} (hx:ρ x=.int .i64 a) (hy:ρ y=.int .i64 b) (h0:nz b=some u) (h:chk (a.tdiv b)=some z):Pu P ρ ⟨d,.binOp .quo t1 x y t2,t,pos,af,g⟩ (.int .i64 z):=by
 obtain ⟨rfl,hh⟩:=qfh h; exact pu_quo hx hy (nz_some h0) hh
theorem pu_remc {t1 t2:TypeId} {u:Unit} (hx:ρ x=.int .i64 a) (hy:ρ y=.int .i64 b) (h0:nz b=some u):Pu P ρ ⟨d,.binOp .rem t1 x y t2,t,pos,af,g⟩ (.int .i64 (a.tmod b)):=pu_rem hx hy (nz_some h0)
theorem pu_cuth {t1 e:TypeId} {hi:Operand} {A:Option Addr} {n m sz:Nat} {α:Type} {xs:List α} (ht:P.underlying t1=some (.slice e)) (hs: ∀w,(sizeOf e).run P w=.ok sz w) (hx:ρ x=.slice A n m)
  (hh:ρ hi=.int .i64 b) (hl:n=xs.length∧xs.length≤m∧m≤9223372036854775807) (h:0≤(0:Int)∧0≤b∧b≤xs.length):
  Pu P ρ ⟨d,.slice t1 x none (some hi) none,t,pos,af,g⟩ (.slice A (xs.take b.toNat).length m):=by
 have h1:=pu_slice_h (d:=d) (t:=t) (pos:=pos) (af:=af) (g:=g) ht hs hx hh ⟨h.2.1,by omega⟩
 have e1:(xs.take b.toNat).length=b.toNat-0:=by rw [List.length_take]; omega
 rw [e1]
 cases A with
 | none=>simpa using h1
 | some ad=>simpa [Addr.add_zero'] using h1
variable {O : List Nat}
theorem pu_part_lh {t1 e:TypeId} {A:Option Addr} {n m:Nat} {s:Sh} {xs:List s.T} (ht:P.underlying t1=some (.slice e)) {sz:Nat} (hs: ∀w,(sizeOf e).run P w=.ok sz w) (hr:Rep O w (.sl s) [.slice A n m] xs) (hn:s.n=sz) (h:0≤a∧a≤b∧b≤xs.length):
  ∃A' c',(∀{ρ:Operand→Value} {d:Option Tmp} {t:TypeId} {pos:String} {af:Array Edge} {g:Option (Nat×Bool)} {x lo hi:Operand},ρ x=.slice A n m→ρ lo=.int .i64 a→ρ hi=.int .i64 b→Pu P ρ ⟨d,.slice t1 x (some lo) (some hi) none,t,pos,af,g⟩ (.slice A' ((xs.drop a.toNat).take (b.toNat-a.toNat)).length c'))∧
   Rep O w (.sl s) [.slice A' ((xs.drop a.toNat).take (b.toNat-a.toNat)).length c'] ((xs.drop a.toNat).take (b.toNat-a.toNat)):=by
 obtain ⟨h1,h2,h3⟩:=hr.qad
 refine ⟨_,_,fun hx hl hh=>?_,hr.part (a:=a.toNat) (b:=b.toNat) (by omega) (by omega)⟩
 have e1:((xs.drop a.toNat).take (b.toNat-a.toNat)).length=b.toNat-a.toNat:=by rw [List.length_take,List.length_drop]; omega
 rw [e1,hn]
 exact pu_slice_lh ht hs hx hl hh ⟨h.1,h.2.1,by omega⟩
theorem qat {q:Bool} (hc:ρ c=.bool q) (hq:q=true) (h:ρ x=v):Pu P ρ ⟨d,.pick c x y,t,pos,af,g⟩ v:=pu_pick hc (by rw [hq]; exact h)
theorem qav {q:Bool} (hc:ρ c=.bool q) (hq:q=false) (h:ρ y=v):Pu P ρ ⟨d,.pick c x y,t,pos,af,g⟩ v:=pu_pick hc (by rw [hq]; exact h)
