import Derived.Test.YtkjpldmelafooaaMore
import Derived.ChangeKeysEq
set_option linter.all false
namespace Go.Proofs.Ytkjpldmelafooaa
namespace Ev
section
variable {P : Program} {ρ : Operand → Value} {d : Option Tmp} {ty : TypeId} {pos : String} {af : Array Edge} {gd : Option (Nat × Bool)} {x y : Operand}
variable {I : Nat → Prop} {O0 : List Nat} {w0 w : World} {L : List Fact}
/-! Arrays. -/
theorem pu_builda {ps:Array (Nat×Operand)} {pv:List (Nat×Value)} {cs:Array Value} {t1 e:TypeId} {k sz:Nat} {it ie:TypeInfo} {z:Value}
  (hi:P.info? t1=some it) (hu:P.underlying t1=some (.array k e)) (hz:it.zero=some z) (he:P.info? e=some ie) (hsz:ie.size=sz)
  (hv:ps.toList.map (fun p=>(p.1,ρ p.2))=pv) (h:Instr.fill (fun i=>some (i*sz,sz)) z.cells pv=some cs):Pu P ρ ⟨d,.build t1 ps,ty,pos,af,gd⟩ (.agg cs):=pu_build (by
 subst hsz
 simp only [Program.built,hi,hu,hz,he]
 subst hv
 simpa using h)
theorem pu_ixa {t1 e:TypeId} {k sz:Nat} {A:Addr} {a:Int} (ht:P.underlying t1=some (.array k e)) (hs: ∀w,(sizeOf e).run P w=.ok sz w) (hx:ρ x=.pointer (some A)) (hy:ρ y=.int .i64 a) (h:0≤a∧a<(k:Int)):
  Pu P ρ ⟨d,.indexAddr t1 x y,ty,pos,af,gd⟩ (.pointer (some (A.add (a.toNat*sz)))):=fun w=>by
 unfold Yv
 simp [execOp,hx,hy,Instr.indexAt,Instr.sureAddr,asIntOf,run_underlying ht,hs,h]
theorem ld_part {e te:TypeId} {gb o n:Nat} {cs ds:List Value} {w:World} (hb:Blk w gb te cs) (hg: ∀w,(isAgg e).run P w=.ok true w) (hs: ∀w,(sizeOf e).run P w=.ok n w) (hd:(cs.drop o).take n=ds) (hl:ds.length=n) (hx:ρ x=.pointer (some ((⟨gb,0,none⟩:Addr).add o))):
  Yv P ρ ⟨d,.load e x,ty,pos,af,gd⟩ w (.agg ds.toArray):=ld_agg hg hs hx hl fun j u hu=>by
 have hj:j<n:=by have:=(List.getElem?_eq_some_iff.1 hu).1; omega
 rw [←hd,List.getElem?_take_of_lt hj,List.getElem?_drop] at hu
 have:=hb.cell hu
 rw [add_lit] at this
 rw [add_lit,add_lit,Nat.add_assoc]
 exact this
theorem all_get {α:Type} {p:α→Prop} {ds:List α} {i:Int} {q:α} (h: ∀x∈ds,p x) (hg:get ds i=some q):p q:=h q (List.mem_of_getElem? (qad hg).2)
theorem eqI_nil {k:Nat} {e:TypeId} {c:Nat} {xs ys:Array Value} (w:World):(Op.eqItems (k+1) e c xs ys []).run P w=.ok true w:=by simp [Op.eqItems]
theorem eqI_cons {e:TypeId} {k j:Nat} {js:List Nat} {kd:IntKind} {xs ys:Array Value} {a b:Int} {q:Bool} (hu:P.underlying e=some (.int kd)) (ha: ∀w,(isAgg e).run P w=.ok false w)
  (hx:xs[j*1]? =some (.int kd a)) (hy:ys[j*1]? =some (.int kd b)) (h: ∀w,(Op.eqItems (k+1) e 1 xs ys js).run P w=.ok q w) (w:World):(Op.eqItems (k+1) e 1 xs ys (j::js)).run P w=.ok (decide (a=b)&&q) w:=by
 simp only [Op.eqItems,Sem.run_bind,part_one ha hx,part_one ha hy,Result.andThen_ok,run_equalIn_int w k e kd kd a b hu]
 by_cases e:a=b
 · simp [e,h]
 · simp [e]
theorem get_nn {α:Type} {xs:List α} {i:Int} {q:α} (h:get xs i=some q):0≤i:=by
 unfold get at h
 split at h
 · assumption
 · cases h
theorem flat_dt {α:Type} {enc:α→List Value} {sz:Nat}: ∀{ds:List α} {k:Nat} {q:α},(∀b∈ds,(enc b).length=sz)→ds[k]? =some q→((ds.flatMap enc).drop (k*sz)).take sz=enc q
 | [],k,q,_,h=>by simp at h
 | b::ds,0,q,hl,h=>by
  obtain rfl:=Option.some.inj h
  rw [Nat.zero_mul,List.drop_zero,List.flatMap_cons,List.take_left' (hl b (by simp))]
 | b::ds,k+1,q,hl,h=>by
  rw [List.flatMap_cons,Nat.succ_mul,Nat.add_comm,←List.drop_drop,List.drop_left' (hl b (by simp))]
  exact flat_dt (fun c hc=>hl c (by simp [hc])) (by simpa using h)
theorem pu_max3 {ts:Array TypeId} {a b c:Int} {z:Operand} (hx:ρ x=.int .i64 a) (hy:ρ y=.int .i64 b) (hz:ρ z=.int .i64 c):
  Pu P ρ ⟨d,.call { callee:=.builtin .max,args:=#[x,y,z],argTypes:=ts },ty,pos,af,gd⟩ (.int .i64 (max (max a b) c)):=fun w=>by
 unfold Yv
 simp [execOp,resolve,invoke,builtin,hx,hy,hz,Builtin.max_,Builtin.max2]
 (repeat' split)<;>omega
