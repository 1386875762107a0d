import Derived.Test.YtpnppjlnfhlmpaaGreatEv
import Derived.Maps.AppendAt
namespace Go.Proofs.YtpnppjlnfhlmpaaGreat
namespace Ev

def I64 (z:Int):Prop:=-9223372036854775808≤z∧z≤9223372036854775807
theorem I64.wrap {z:Int} (h:I64 z):IntKind.i64.wrap z=z:=by rw [IntKind.wrap_i64]; unfold I64 at h; omega

section
variable {P : Program} {ρ : Operand → Value} {d : Option Tmp} {t : TypeId} {pos : String} {af : Array Edge} {g : Option (Nat × Bool)} {x y c : Operand} {v : Value} {w : World} {a b : Int}

theorem qaa (h:ρ x=v):Pu P ρ ⟨d,.move x,t,pos,af,g⟩ v:=fun w=>by unfold Yv; simp [execOp,h]
theorem qab (h:ρ x=v):Pu P ρ ⟨d,.assign x,t,pos,af,g⟩ v:=fun w=>by unfold Yv; simp [execOp,h]
theorem pu_pick {q:Bool} (hc:ρ c=.bool q) (h:(bif q then ρ x else ρ y)=v):Pu P ρ ⟨d,.pick c x y,t,pos,af,g⟩ v:=fun w=>by
  unfold Yv; subst h; cases q<;>simp [execOp,hc,asBool]
theorem pu_add {t1 t2:TypeId} (hx:ρ x=.int .i64 a) (hy:ρ y=.int .i64 b) (h:I64 (a+b)):Pu P ρ ⟨d,.binOp .add t1 x y t2,t,pos,af,g⟩ (.int .i64 (a+b)):=fun w=>by
  unfold Yv; simp [execOp,hx,hy,go_sem,Op.intArith,h.wrap]
theorem pu_sub {t1 t2:TypeId} (hx:ρ x=.int .i64 a) (hy:ρ y=.int .i64 b) (h:I64 (a-b)):Pu P ρ ⟨d,.binOp .sub t1 x y t2,t,pos,af,g⟩ (.int .i64 (a-b)):=fun w=>by
  unfold Yv; simp [execOp,hx,hy,go_sem,Op.intArith,h.wrap]
theorem pu_mul {t1 t2:TypeId} (hx:ρ x=.int .i64 a) (hy:ρ y=.int .i64 b) (h:I64 (a*b)):Pu P ρ ⟨d,.binOp .mul t1 x y t2,t,pos,af,g⟩ (.int .i64 (a*b)):=fun w=>by
  unfold Yv; simp [execOp,hx,hy,go_sem,Op.intArith,h.wrap]
theorem qaq {t1 t2:TypeId} {k:IntKind} (hx:ρ x=.int k a) (hy:ρ y=.int k b):Pu P ρ ⟨d,.binOp .lss t1 x y t2,t,pos,af,g⟩ (.bool (decide (a<b))):=fun w=>by
  unfold Yv; simp [execOp,hx,hy,go_sem]
theorem qcn {t1 t2:TypeId} {k:IntKind} (hx:ρ x=.int k a) (hy:ρ y=.int k b):Pu P ρ ⟨d,.binOp .gtr t1 x y t2,t,pos,af,g⟩ (.bool (decide (b<a))):=fun w=>by
  unfold Yv; simp [execOp,hx,hy,go_sem]
theorem pu_geq {t1 t2:TypeId} {k:IntKind} (hx:ρ x=.int k a) (hy:ρ y=.int k b):Pu P ρ ⟨d,.binOp .geq t1 x y t2,t,pos,af,g⟩ (.bool (decide (b≤a))):=fun w=>by
  unfold Yv; simp [execOp,hx,hy,go_sem]
theorem qcz {t1 t2:TypeId} {k:IntKind} (hx:ρ x=.int k a) (hy:ρ y=.int k b):Pu P ρ ⟨d,.binOp .eql t1 x y t2,t,pos,af,g⟩ (.bool (decide (a=b))):=fun w=>by
  unfold Yv; simp [execOp,hx,hy,go_sem]; rfl
theorem qck {t1 t2:TypeId} {k:IntKind} (hx:ρ x=.int k a) (hy:ρ y=.int k b):Pu P ρ ⟨d,.binOp .neq t1 x y t2,t,pos,af,g⟩ (.bool (!decide (a=b))):=fun w=>by
  unfold Yv; simp [execOp,hx,hy,go_sem]; rfl
theorem pu_eqlb {t1 t2:TypeId} {p q:Bool} (ht:P.underlying t1=some .bool) (hx:ρ x=.bool p) (hy:ρ y=.bool q):Pu P ρ ⟨d,.binOp .eql t1 x y t2,t,pos,af,g⟩ (.bool (p == q)):=fun w=>by
  unfold Yv; simp [execOp,hx,hy,go_sem,ht]
theorem pu_quo {t1 t2:TypeId} (hx:ρ x=.int .i64 a) (hy:ρ y=.int .i64 b) (h0:b≠0) (h:I64 (a.tdiv b)):Pu P ρ ⟨d,.binOp .quo t1 x y t2,t,pos,af,g⟩ (.int .i64 (a.tdiv b)):=fun w=>by
  unfold Yv; simp [execOp,hx,hy,go_sem,Op.intDiv,h.wrap,h0]
theorem pu_rem {t1 t2:TypeId} (hx:ρ x=.int .i64 a) (hy:ρ y=.int .i64 b) (h0:b≠0):Pu P ρ ⟨d,.binOp .rem t1 x y t2,t,pos,af,g⟩ (.int .i64 (a.tmod b)):=fun w=>by
  unfold Yv; simp [execOp,hx,hy,go_sem,Op.intDiv,h0]
theorem pu_neg {t1:TypeId} (hx:ρ x=.int .i64 a) (h:I64 (-a)):Pu P ρ ⟨d,.unOp .neg t1 x,t,pos,af,g⟩ (.int .i64 (-a)):=fun w=>by
  unfold Yv; simp [execOp,hx,go_sem,Op.intArith,h.wrap]
theorem qcr {t1:TypeId} {q:Bool} (hx:ρ x=.bool q):Pu P ρ ⟨d,.unOp .not t1 x,t,pos,af,g⟩ (.bool (!q)):=fun w=>by
  unfold Yv; simp [execOp,hx,go_sem]
theorem qan {t1 e:TypeId} {A:Option Addr} {n m:Nat} (ht:P.underlying t1=some (.slice e)) (hx:ρ x=.slice A n m):
    Pu P ρ ⟨d,.call { callee:=.builtin .len,args:=#[x],argTypes:=#[t1] },t,pos,af,g⟩ (.int .i64 n):=fun w=>by
  unfold Yv; simp [execOp,resolve,invoke,builtin,hx,Builtin.len_,run_underlying ht,goInt]
theorem pu_min {ts:Array TypeId} (hx:ρ x=.int .i64 a) (hy:ρ y=.int .i64 b):
    Pu P ρ ⟨d,.call { callee:=.builtin .min,args:=#[x,y],argTypes:=ts },t,pos,af,g⟩ (.int .i64 (min a b)):=fun w=>by
  unfold Yv; simp [execOp,resolve,invoke,builtin,hx,hy,run_min_int2]
  split<;>omega
theorem qae {t1 e:TypeId} {A:Addr} {n m sz:Nat} (ht:P.underlying t1=some (.slice e)) (hs: ∀w,(sizeOf e).run P w=.ok sz w) (hx:ρ x=.slice (some A) n m) (hy:ρ y=.int .i64 a) (h:0≤a∧a<n):
    Pu P ρ ⟨d,.indexAddr t1 x y,t,pos,af,g⟩ (.pointer (some (A.add (a.toNat*sz)))):=fun w=>by
  unfold Yv; simp [execOp,hx,hy,Instr.indexAt,asIntOf,run_underlying ht,h.1,h.2,hs]
theorem qam {t1:TypeId} {fs:Array Field} {k sz:Nat} {f:Field} {A:Addr} (ht:P.underlying t1=some (.struct fs)) (hf:fs[k]? =some f) (hs: ∀w,(sizeOf f.type).run P w=.ok sz w) (h0:sz≠0) {off:Nat} (ho:f.offset=off) (hx:ρ x=.pointer (some A)):
    Pu P ρ ⟨d,.fieldAddr t1 x k,t,pos,af,g⟩ (.pointer (some (A.add off))):=fun w=>by
  subst ho
  unfold Yv; simp [execOp,hx,Instr.fieldAt,Instr.sureAddr,fieldPlace,run_underlying ht,hf,hs,h0]
theorem qay {vs:Array Value} {k:Nat} (hx:ρ x=.tuple vs) (h:vs[k]? =some v):Pu P ρ ⟨d,.extract x k,t,pos,af,g⟩ v:=fun w=>by
  unfold Yv; simp [execOp,hx,Instr.extract,h]
theorem pu_build {t1:TypeId} {ps:Array (Nat×Operand)} {cs:Array Value} (h:P.built t1 (ps.map fun (i,x)=>(i,ρ x)).toList=some cs):Pu P ρ ⟨d,.build t1 ps,t,pos,af,g⟩ (.agg cs):=fun w=>by
  unfold Yv; simp [execOp,run_build w t1 _ cs h]
theorem pu_conv {s1 d1:TypeId} {k k':IntKind} (hs:P.underlying s1=some (.int k)) (hd:P.underlying d1=some (.int k')) (hx:ρ x=.int k a) (h:k'.wrap a=b):Pu P ρ ⟨d,.convert s1 d1 x,t,pos,af,g⟩ (.int k' b):=fun w=>by
  unfold Yv; simp [execOp,hx,convert,run_underlying hs,run_underlying hd,Conv.intToInt,h]
theorem pu_slice_lh {t1 e:TypeId} {lo hi:Operand} {A:Option Addr} {n m sz:Nat} (ht:P.underlying t1=some (.slice e)) (hs: ∀w,(sizeOf e).run P w=.ok sz w) (hx:ρ x=.slice A n m)
    (hl:ρ lo=.int .i64 a) (hh:ρ hi=.int .i64 b) (h:0≤a∧a≤b∧b≤m):
    Pu P ρ ⟨d,.slice t1 x (some lo) (some hi) none,t,pos,af,g⟩ (.slice (if m=a.toNat then A else A.map (·.add (a.toNat*sz))) (b.toNat-a.toNat) (m-a.toNat)):=fun w=>by
  have h1: ¬(max b 0<a):=by omega
  unfold Yv
  simp [execOp,hx,hl,hh,Instr.sliceAt,Instr.slice,run_underlying ht,Instr.sliceBounds,Instr.sliceBound,asIntOf,h.1,h.2.2,h1,hs,show (0:Int)≤b from by omega]
theorem pu_slice_l {t1 e:TypeId} {lo:Operand} {A:Option Addr} {n m sz:Nat} (ht:P.underlying t1=some (.slice e)) (hs: ∀w,(sizeOf e).run P w=.ok sz w) (hx:ρ x=.slice A n m)
    (hl:ρ lo=.int .i64 a) (h:0≤a∧a≤n):
    Pu P ρ ⟨d,.slice t1 x (some lo) none none,t,pos,af,g⟩ (.slice (if m=a.toNat then A else A.map (·.add (a.toNat*sz))) (n-a.toNat) (m-a.toNat)):=fun w=>by
  unfold Yv
  simp [execOp,hx,hl,Instr.sliceAt,Instr.slice,run_underlying ht,Instr.sliceBounds,Instr.sliceBound,asIntOf,h.1,h.2,hs]
theorem pu_slice_h {t1 e:TypeId} {hi:Operand} {A:Option Addr} {n m sz:Nat} (ht:P.underlying t1=some (.slice e)) (hs: ∀w,(sizeOf e).run P w=.ok sz w) (hx:ρ x=.slice A n m)
    (hh:ρ hi=.int .i64 b) (h:0≤b∧b≤m):
    Pu P ρ ⟨d,.slice t1 x none (some hi) none,t,pos,af,g⟩ (.slice (if m=0 then A else A.map (·.add (0*sz))) (b.toNat-0) (m-0)):=fun w=>by
  unfold Yv
  simp [execOp,hx,hh,Instr.sliceAt,Instr.slice,run_underlying ht,Instr.sliceBounds,Instr.sliceBound,asIntOf,h.1,h.2,hs]

/-! Loads,stores,new blocks. -/
theorem qaf {t1:TypeId} {A:Addr} (hg: ∀w,(isAgg t1).run P w=.ok false w) (hx:ρ x=.pointer (some A)) (h:w.cell? A=some v):Yv P ρ ⟨d,.load t1 x,t,pos,af,g⟩ w v:=by
  unfold Yv; simp [execOp,hx,Instr.loadAt,Instr.sureAddr,loadVar,hg,h]
theorem ld_agg {t1:TypeId} {A:Addr} {sz:Nat} {cs:List Value} (hg: ∀w,(isAgg t1).run P w=.ok true w) (hs: ∀w,(sizeOf t1).run P w=.ok sz w) (hx:ρ x=.pointer (some A))
    (hl:cs.length=sz) (h: ∀j u,cs[j]? =some u→w.cell? (A.add j)=some u):Yv P ρ ⟨d,.load t1 x,t,pos,af,g⟩ w (.agg cs.toArray):=by
  have:=run_loadCells_list (P:=P) w A cs h
  subst hl
  unfold Yv; simp [execOp,hx,Instr.loadAt,Instr.sureAddr,loadVar,hg,hs,this]
theorem st_one {t1:TypeId} {A:Addr} {u:Value} (hs: ∀w,(sizeOf t1).run P w=.ok 1 w) (h1:v.oneCell'=true) (hx:ρ x=.pointer (some A)) (hy:ρ y=v) (hc:w.cell? A=some u) (hf:w.frozen? A=false):
    (execOp ρ ⟨d,.store t1 x y,t,pos,af,g⟩).run P w=.ok .skip (w.setCell A v):=by
  have hcs:v.cells=#[v]:=by cases v<;>first | rfl | cases h1
  have hst:=run_store P w A v .plain h1
  simp [execOp,hx,hy,Instr.storeAt,Instr.sureAddr,storeVar,hs,hcs,storeCells,Addr.add_zero',hst,hc,hf]
