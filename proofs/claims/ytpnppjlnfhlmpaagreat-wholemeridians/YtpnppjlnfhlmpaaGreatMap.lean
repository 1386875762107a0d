import Derived.Test.YtpnppjlnfhlmpaaGreatMore
import Derived.ChangeKeysEq
import Derived.Test.YtpnppjlnfhlmpaaGreatCells
import Derived.Laws.IdiomMaps
set_option linter.all false
namespace Go.Proofs.YtpnppjlnfhlmpaaGreat
namespace Ev
section
variable {P : Program} {ρ : Operand → Value} {d : Option Tmp} {ty : TypeId} {pos : String} {af : Array Edge} {gd : Option (Nat × Bool)} {x y : Operand}
variable {I : Nat → Prop} {O0 : List Nat} {w0 w : World} {L : List Fact}
/-! Arrays. -/
theorem pu_builda {ps:Array (Nat×Operand)} {pv:List (Nat×Value)} {cs:Array Value} {t1 e:TypeId} {k sz:Nat} {it ie:TypeInfo} {z:Value}
  (hi:P.info? t1=some it) (hu:P.underlying t1=some (.array k e)) (hz:it.zero=some z) (he:P.info? e=some ie) (hsz:ie.size=sz)
  (hv:ps.toList.map (fun p=>(p.1,ρ p.2))=pv) (h:Instr.fill (fun i=>some (i*sz,sz)) z.cells pv=some cs):Pu P ρ ⟨d,.build t1 ps,ty,pos,af,gd⟩ (.agg cs):=pu_build (by
 subst hsz
 simp only [Program.built,hi,hu,hz,he]
 subst hv
 simpa using h)
theorem pu_ixa {t1 e:TypeId} {k sz:Nat} {A:Addr} {a:Int} (ht:P.underlying t1=some (.array k e)) (hs: ∀w,(sizeOf e).run P w=.ok sz w) (hx:ρ x=.pointer (some A)) (hy:ρ y=.int .i64 a) (h:0≤a∧a<(k:Int)):
  Pu P ρ ⟨d,.indexAddr t1 x y,ty,pos,af,gd⟩ (.pointer (some (A.add (a.toNat*sz)))):=fun w=>by
 unfold Yv
 simp [execOp,hx,hy,Instr.indexAt,Instr.sureAddr,asIntOf,run_underlying ht,hs,h]
theorem pu_ix1 {t1 e:TypeId} {k:Nat} {a:Int} {cs:Array Value} {v:Value} (ht:P.underlying t1=some (.array k e)) (hs: ∀w,(sizeOf e).run P w=.ok 1 w) (hg: ∀w,(isAgg e).run P w=.ok false w) (hx:ρ x=.agg cs) (hy:ρ y=.int .i64 a) (h:0≤a∧a<(k:Int)) (hc:cs[a.toNat]? =some v):
  Pu P ρ ⟨d,.index t1 x y,ty,pos,af,gd⟩ v:=fun w=>by
 unfold Yv
 simp [execOp,hx,hy,Instr.index,asIntOf,run_underlying ht,hs,hg,h,part,hc]
theorem ixa_int {k:IntKind} {ds:List Int} {i:Nat} {q:Int} (h:ds[i]? =some q):((ds.map (Value.int k)).toArray)[i]? =some (.int k q):=by simp [h]
theorem all_get {α:Type} {p:α→Prop} {ds:List α} {i:Int} {q:α} (h: ∀x∈ds,p x) (hg:get ds i=some q):p q:=h q (List.mem_of_getElem? (qac hg).2)
theorem get_nn {α:Type} {xs:List α} {i:Int} {q:α} (h:get xs i=some q):0≤i:=by
 unfold get at h
 split at h
 · assumption
 · cases h
theorem pu_max3 {ts:Array TypeId} {a b c:Int} {z:Operand} (hx:ρ x=.int .i64 a) (hy:ρ y=.int .i64 b) (hz:ρ z=.int .i64 c):
  Pu P ρ ⟨d,.call { callee:=.builtin .max,args:=#[x,y,z],argTypes:=ts },ty,pos,af,gd⟩ (.int .i64 (max (max a b) c)):=fun w=>by
 unfold Yv
 simp [execOp,resolve,invoke,builtin,hx,hy,hz,Builtin.max_,Builtin.max2]
 (repeat' split)<;>omega
end
end Ev
end Go.Proofs.YtpnppjlnfhlmpaaGreat

set_option linter.all false
namespace Go.Proofs.YtpnppjlnfhlmpaaGreat
namespace Ev
section
variable {P : Program} {kt e ve t : TypeId} {it : TypeInfo}
variable {ρ : Operand → Value} {d : Option Tmp} {ty : TypeId} {pos : String} {af : Array Edge} {gd : Option (Nat × Bool)} {x y z : Operand}
variable {I : Nat → Prop} {O0 : List Nat} {w0 w : World} {L : List Fact}
def nok (o:Option Int):Option Unit:=match o with | none=>some () | some _=>none
theorem nok_some {o:Option Int} {u:Unit} (h:nok o=some u):o=none:=by
  cases o with
  | none=>rfl
  | some _=>cases h
