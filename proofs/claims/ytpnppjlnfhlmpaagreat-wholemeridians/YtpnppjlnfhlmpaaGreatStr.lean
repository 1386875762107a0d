import Derived.Test.YtpnppjlnfhlmpaaGreatMap
import Derived.Test.YtpnppjlnfhlmpaaGreatCells
import Derived.Laws.IdiomMaps
set_option linter.all false
namespace Go.Proofs.YtpnppjlnfhlmpaaGreat
namespace Ev
def b8 (n:Int):UInt8:=UInt8.ofNat n.toNat
def bA (xs:List Int):ByteArray:=⟨(xs.map b8).toArray⟩
section
variable {P : Program} {ρ : Operand → Value} {d : Option Tmp} {ty t1 t2 : TypeId} {pos : String} {af : Array Edge} {gd : Option (Nat × Bool)} {x y z : Operand} {w : World}
theorem push_all: ∀(xs:List Int) (s:ByteArray),xs.foldl (fun b a=>b.push (UInt8.ofNat a.toNat)) s=⟨s.data++(xs.map b8).toArray⟩:=by
  intro xs
  induction xs with
  | nil=>intro s; simp
  | cons a xs ih=>
    intro s
    rw [List.foldl_cons,ih]
    congr 1
    show s.data.push (UInt8.ofNat a.toNat)++(xs.map b8).toArray=_
    simp [b8]
theorem push_empty (xs:List Int):xs.foldl (fun b a=>b.push (UInt8.ofNat a.toNat)) ByteArray.empty=bA xs:=by
  rw [push_all]
  unfold bA
  congr 1
  show (#[]:Array UInt8)++_=_
  simp
theorem own_rep {O:List Nat} {e:TypeId} {s:Sh} {v:Value} {xs:List s.T} {G:Option Nat} (h:Own O w e s v xs G):Rep [] w (.sl s) [v] xs:=h.freeze (fun _ hk=>absurd hk List.not_mem_nil) (fun _ _=>List.not_mem_nil)
theorem cv_str {O:List Nat} {e:TypeId} {A:Option Addr} {m c:Nat} {xs:List Int} (h:Rep O w (.sl (.int .u8)) [.slice A m c] xs) (ht1:P.underlying t1=some (.slice e)) (ht2:P.underlying t2=some .string) (he:P.underlying e=some (.int .u8)) (hx:ρ x=.slice A m c):
    Yv P ρ ⟨d,.convert t1 t2 x,ty,pos,af,gd⟩ w (.string (bA xs)):=by
  unfold Yv
  obtain ⟨A',c',e1,h1,h2,h3⟩:=h
  injection e1 with e1 _
  injection e1 with e1 e2 e3
  subst e1 e2 e3
  cases xs with
  | nil=>
    cases A with
    | none=>simp [execOp,hx,Go.convert,run_underlying ht1,run_underlying ht2,run_underlying he,Conv.bytesToString]; rfl
    | some a=>
      have hl:=run_loadCells_list (P:=P) w a [] (fun j v hv=>by simp at hv)
      rw [List.length_nil] at hl
      simp [execOp,hx,Go.convert,run_underlying ht1,run_underlying ht2,run_underlying he,Conv.bytesToString,hl]; rfl
  | cons b r=>
    obtain ⟨ad,rfl,_,h4⟩:=h3 (by simp)
    have hl:=run_loadCells_list (P:=P) w ad ((b::r).map (Value.int .u8)) (fun j v hv=>by
      rw [List.getElem?_map] at hv
      cases hj:(b::r)[j]? with
      | none=>rw [hj] at hv; cases hv
      | some q=>
        rw [hj] at hv
        obtain rfl:=Option.some.inj hv
        obtain ⟨cs',g1,g2⟩:=h4 j q hj
        obtain ⟨g2,_⟩:=g2
        subst g2
        have:=g1 0 _ rfl
        simpa [Sh.n] using this)
    rw [List.length_map] at hl
    have hp:=push_empty (b::r)
    generalize b::r=xs at*
    simp [execOp,hx,Go.convert,run_underlying ht1,run_underlying ht2,run_underlying he,Conv.bytesToString,hl,hp]
theorem bA_inj {a b:List Int}:bA a=bA b↔a.map b8=b.map b8:=by
  unfold bA
  constructor
  · intro h
    have h2:=congrArg ByteArray.data h
    simpa using h2
  · intro h; rw [h]
theorem pu_shr {s1 s2:TypeId} {k2:IntKind} {a b q:Int} (hx:ρ x=.int .i64 a) (hy:ρ y=.int k2 b) (h0:0≤b) (h1:b.toNat≤64) (hq:2 ^ b.toNat=q):Pu P ρ ⟨d,.binOp .shr s1 x y s2,ty,pos,af,gd⟩ (.int .i64 (a/ q)):=fun w=>by
  unfold Yv
  have hb:min b.toNat (IntKind.i64.bits)=b.toNat:=Nat.min_eq_left h1
  subst hq
  simp [execOp,hx,hy,go_sem,Op.shift,hb,show¬b<0 by omega]
def w8 (a:Int):Int:=a%256
theorem wrap8 (a:Int):IntKind.u8.wrap a=w8 a:=rfl
theorem w8_rng (a:Int):IntKind.u8.wrap (w8 a)=w8 a:=by
  rw [wrap8]
  unfold w8
  omega
theorem beq_bA (a b:List Int):(bA a == bA b)=decide (a.map b8=b.map b8):=by
  have h: ∀a b:ByteArray,(a == b)=decide (a=b):=fun a b=>by
    cases a; cases b
    rename_i a b
    have e:(({ data:=a }:ByteArray) == { data:=b })=(a == b):=rfl
    rw [e,Bool.eq_iff_iff]
    simp
  rw [h]
  exact decide_eq_decide.mpr bA_inj
def sents:List (List Int×Int)→Nat→List MapEntry
  | [],_=>[]
  | p::r,i=>{ key:=.string (bA p.1),val:=.int .i64 p.2,born:=i }::sents r (i+1)
def smget:List (List Int×Int)→List Int→Option Int
  | [],_=>none
  | p::r,k=>if k.map b8=p.1.map b8 then some p.2 else smget r k
theorem sents_snoc: ∀(m:List (List Int×Int)) (i:Nat) (p:List Int×Int),sents (m++[p]) i=sents m i++[{ key:=.string (bA p.1),val:=.int .i64 p.2,born:=i+m.length }]
  | [],i,p=>by simp [sents]
  | q::r,i,p=>by simp [sents,sents_snoc r (i+1) p,Nat.add_assoc,Nat.add_comm 1]
theorem now_str (k:List Int): ∀(m:List (List Int×Int)) (i j:Nat),(∃q,Instr.findNow .string (.string (bA k)) (sents m i) j=some (some (q,.int .i64 ((smget m k).getD 0)))∧smget m k≠none)∨(Instr.findNow .string (.string (bA k)) (sents m i) j=some none∧smget m k=none)
  | [],i,j=>.inr ⟨rfl,rfl⟩
  | p::r,i,j=>by
    by_cases h:k.map b8=p.1.map b8
    · exact .inl ⟨j,by simp [sents,Instr.findNow,Instr.sameNow,beq_bA,h,smget],by simp [smget,h]⟩
    · have:=now_str k r (i+1) (j+1)
      simpa [sents,Instr.findNow,Instr.sameNow,beq_bA,h,smget] using this
theorem find_str {kt:TypeId} (hk:P.underlying kt=some .string) (w:World) (k:List Int) (m:List (List Int×Int)):
    (∃q,(Instr.findKey kt (.string (bA k)) (sents m 0)).run P w=.ok (some (q,.int .i64 ((smget m k).getD 0))) w∧smget m k≠none)∨((Instr.findKey kt (.string (bA k)) (sents m 0)).run P w=.ok none w∧smget m k=none):=by
  rcases now_str k m 0 0 with ⟨q,h1,h2⟩ | ⟨h1,h2⟩
  · exact .inl ⟨q,by simp [Instr.findKey,run_underlying hk,h1],h2⟩
  · exact .inr ⟨by simp [Instr.findKey,run_underlying hk,h1],h2⟩
theorem check_strn (n:Nat) {kt:TypeId} (hk:P.underlying kt=some .string) (w:World) (emp:Bool) (k:List Int):(Instr.checkKey emp (n+1) kt (.string (bA k))).run P w=.ok () w:=by
  simp [Instr.checkKey,run_underlying hk]
theorem check_str {kt:TypeId} (hk:P.underlying kt=some .string) (w:World) (emp:Bool) (k:List Int):(Instr.checkKey emp 10000 kt (.string (bA k))).run P w=.ok () w:=check_strn 9999 hk w emp k
variable {I : Nat → Prop} {O0 : List Nat} {w0 : World} {L : List Fact} {t kt ve : TypeId}
def smobj (m:List (List Int×Int)):Obj:=.map (sents m 0).toArray m.length
theorem Cx.mksmap {n:Int} (h:Cx I O0 w0 w L) (ht:P.underlying t=some (.map kt ve)) (hx:ρ x=.int .i64 n):Op P ρ ⟨d,.makeMap t (some x),ty,pos,af,gd⟩ w fun v w'=> ∃g,v=.map (some g)∧Cx I O0 w0 w' (.obj g (smobj [])::L)∧Fr (fun _=>False) w w':=by
  refine ⟨.map (some w.heap.size),w.alloc (smobj []),?_,w.heap.size,rfl,h.obj (smobj []),Fr.alloc w _ _⟩
  simp [execOp,Instr.makeMap,hx,run_underlying ht,asInt]
  rfl
theorem slk {g:Nat} {m:List (List Int×Int)} {k:List Int} (hm:w.heap[g]? =some (smobj m)) (ht:P.underlying t=some (.map kt ve)) (hz: ∀w,(zeroValue ve).run P w=.ok (.int .i64 0) w)
    (hk:P.underlying kt=some .string) (hx:ρ x=.map (some g)) (hy:ρ y=.string (bA k)):
    Yv P ρ ⟨d,.lookup t x y true,ty,pos,af,gd⟩ w (.tuple #[.int .i64 ((smget m k).getD 0),.bool (smget m k).isSome]):=by
  unfold Yv
  have hg:=MapKept.run_getObj_map (P:=P) (r:=g) (show w.heap[g]? =some (.map (sents m 0).toArray m.length) from hm)
  have hc:=fun b=>check_str (P:=P) hk w b k
  rcases find_str hk w k m with ⟨q,h1,h2⟩ | ⟨h1,h2⟩
  · have h3:(smget m k).isSome=true:=Option.isSome_iff_ne_none.2 h2
    simp [execOp,hx,hy,Instr.lookup,run_underlying ht,hg,hc,h1,Result.andThen,h3]
  · simp [execOp,hx,hy,Instr.lookup,run_underlying ht,hg,hc,h1,Result.andThen,hz,h2]
theorem Cx.sput (h:Cx I O0 w0 w L) {i g:Nat} {m:List (List Int×Int)} {k:List Int} {v:Int} (hi':L[i]? =some (.obj g (smobj m))) (hn:smget m k=none) (ht:P.underlying t=some (.map kt ve))
    (hk:P.underlying kt=some .string) (hx:ρ x=.map (some g)) (hy:ρ y=.string (bA k)) (hz:ρ z=.int .i64 v):
    Sk P ρ ⟨d,.mapUpdate t x y z,ty,pos,af,gd⟩ w fun w'=>Cx I O0 w0 w' (L.set i (.obj g (smobj (m++[(k,v)]))))∧Fr (fun b=>some g=some b) w w':=by
  have hm:w.heap[g]? =some (smobj m):=h.ob hi'
  have hg:=MapKept.run_getObj_map (P:=P) (r:=g) (show w.heap[g]? =some (.map (sents m 0).toArray m.length) from hm)
  have hc:=fun b=>check_str (P:=P) hk w b k
  have e1:smobj (m++[(k,v)])=.map ((sents m 0).toArray.push { key:=.string (bA k),val:=.int .i64 v,born:=m.length }) (m.length+1):=by
    unfold smobj
    rw [sents_snoc]
    simp
  refine ⟨w.putObj g (smobj (m++[(k,v)])),?_,h.setObj hi' _,Fr.putObj (S:=fun b=>some g=some b) w rfl _⟩
  rcases find_str hk w k m with ⟨q,h1,h2⟩ | ⟨h1,h2⟩
  · exact absurd hn h2
  · rw [e1]
    have hset: ∀o:Obj,(Go.setObj g o).run P w=.ok () (w.putObj g o):=fun o=>by
      have hm':w.heap[g]? =some (.map (sents m 0).toArray m.length):=hm
      simp [Go.setObj,Sem.run,hm',World.putObj]
    simp [execOp,hx,hy,hz,Instr.mapUpdate,run_underlying ht,hg,hc,h1,Result.andThen,hset]
def ixn (n:Nat) (i:Int):Option Unit:=if 0≤i∧i<(n:Int) then some () else none
theorem ixn_some {n:Nat} {i:Int} {u:Unit} (h:ixn n i=some u):0≤i∧i<(n:Int):=by
  unfold ixn at h
  split at h
  · assumption
  · cases h
theorem ld_bit {e te:TypeId} {gb:Nat} {xs:List Bool} {k:Int} {b:Bool} (hb:Blk w gb te (xs.map Value.bool)) (hg: ∀w,(isAgg e).run P w=.ok false w) (hx:ρ x=.pointer (some ((⟨gb,0,none⟩:Addr).add (k.toNat*1)))) (hu:xs[k.toNat]? =some b):
    Yv P ρ ⟨d,.load e x,ty,pos,af,gd⟩ w (.bool b):=by
  rw [Nat.mul_one] at hx
  exact qar hb hg hx (by rw [List.getElem?_map,hu]; rfl)
theorem Cx.setbit (h:Cx I O0 w0 w L) {i g:Nat} {k:Int} {e te:TypeId} {xs:List Bool} {u b:Bool} (hi:L[i]? =some (.box g te (xs.map Value.bool))) (hs: ∀w,(sizeOf e).run P w=.ok 1 w) (hx:ρ x=.pointer (some ((⟨g,0,none⟩:Addr).add (k.toNat*1)))) (hy:ρ y=.bool b) (hu:xs[k.toNat]? =some u):
    Sk P ρ ⟨d,.store e x y,ty,pos,af,gd⟩ w fun w'=>Cx I O0 w0 w' (L.set i (.box g te ((xs.set k.toNat b).map Value.bool)))∧Fr (fun k=>some g=some k) w w':=by
  rw [Nat.mul_one] at hx
  rw [List.map_set]
  exact h.setf hi hs rfl hx hy (by rw [List.getElem?_map,hu]; rfl)
