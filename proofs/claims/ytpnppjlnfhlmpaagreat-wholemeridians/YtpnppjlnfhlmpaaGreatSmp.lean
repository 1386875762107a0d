import Derived.Test.YtpnppjlnfhlmpaaGreatGrg
import Derived.Test.YtpnppjlnfhlmpaaGreatStr
set_option linter.all false
namespace Go.Proofs.YtpnppjlnfhlmpaaGreat
namespace Ev
def ub (u:UInt8):Int:=(u.toNat:Int)
theorem ub_rng (u:UInt8):0≤ub u∧ub u<256:=by
  have:=u.toNat_lt
  unfold ub; omega
theorem u8_rng {k:List UInt8} {i v:Int} (h:get (k.map ub) i=some v):IntKind.u8.wrap v=v:=by
  have h1:=(qac h).2
  rw [List.getElem?_map] at h1
  cases hu:k[i.toNat]? with
  | none=>rw [hu] at h1; cases h1
  | some u=>
    rw [hu] at h1
    obtain rfl:=Option.some.inj h1
    have:=ub_rng u
    rw [wrap8]; unfold w8; omega
theorem beq_sA (a b:List UInt8):((⟨a.toArray⟩:ByteArray) == ⟨b.toArray⟩)=decide (a=b):=by
  have e:((⟨a.toArray⟩:ByteArray) == ⟨b.toArray⟩)=(a.toArray == b.toArray):=rfl
  rw [e,Bool.eq_iff_iff]
  simp
section
variable {P : Program} {kt : TypeId}
theorem now_gstr (s:Sh) (k:List UInt8): ∀(es:List (KK.str.T×List Value×s.T)) (i j:Nat),(∃q e,es[q]? =some e∧e.1=k∧Instr.findNow .string (.string ⟨k.toArray⟩) (ments .str s es i) j=some (some (j+q,vof s e.2.1)))∨(k∉es.map (·.1)∧Instr.findNow .string (.string ⟨k.toArray⟩) (ments .str s es i) j=some none)
  | [],i,j=>.inr ⟨List.not_mem_nil,rfl⟩
  | p::r,i,j=>by
    by_cases h:k=p.1
    · exact .inl ⟨0,p,rfl,h.symm,by simp [ments,Instr.findNow,Instr.sameNow,KK.v,h,beq_sA]⟩
    · have h3:Instr.findNow .string (.string ⟨k.toArray⟩) (ments .str s (p::r) i) j=Instr.findNow .string (.string ⟨k.toArray⟩) (ments .str s r (i+1)) (j+1):=by
        simp [ments,Instr.findNow,Instr.sameNow,KK.v,h,beq_sA]
      rw [h3]
      rcases now_gstr s k r (i+1) (j+1) with ⟨q,e,a1,a2,a3⟩ | ⟨a1,a2⟩
      · exact .inl ⟨q+1,e,by simpa using a1,a2,by rw [a3]; congr 3; omega⟩
      · refine .inr ⟨fun q=>?_,a2⟩
        rw [List.map_cons,List.mem_cons] at q
        exact q.elim h a1
theorem check_sA {kt:TypeId} (n:Nat) (hk:P.underlying kt=some .string) (w:World) (emp:Bool) (k:ByteArray):(Instr.checkKey emp (n+1) kt (.string k)).run P w=.ok () w:=by
  simp [Instr.checkKey,run_underlying hk]
theorem KL.str (hk:P.underlying kt=some .string):KL P .str kt:=
  ⟨fun emp w k=>check_sA 9999 hk w emp _,fun s w es k=>by
    rcases now_gstr s k es 0 0 with ⟨q,e,a1,a2,a3⟩ | ⟨a1,a2⟩
    · refine .inl ⟨q,e,a1,a2,?_⟩
      rw [Nat.zero_add] at a3
      show (Instr.findKey kt (.string ⟨k.toArray⟩) _).run P w=_
      simp [Instr.findKey,run_underlying hk,a3]
    · refine .inr ⟨a1,?_⟩
      show (Instr.findKey kt (.string ⟨k.toArray⟩) _).run P w=_
      simp [Instr.findKey,run_underlying hk,a2],fun w k=>by
    show (Instr.keyThatStays (.string ⟨k.toArray⟩) (.string ⟨k.toArray⟩)).run P w=_
    have h:Instr.sameBits 10000 (.string ⟨k.toArray⟩) (.string ⟨k.toArray⟩)=true:=by
      show ((⟨k.toArray⟩:ByteArray) == ⟨k.toArray⟩)=true
      rw [beq_sA]; simp
    simp [Instr.keyThatStays,h]; rfl⟩
end
section
variable {P : Program} {ρ : Operand → Value} {d : Option Tmp} {ty t : TypeId} {pos : String} {af : Array Edge} {gd : Option (Nat × Bool)} {x y : Operand}
theorem pu_six {k:List UInt8} {i:Int} {v:Int} (ht:P.underlying t=some .string) (hx:ρ x=.string ⟨k.toArray⟩) (hy:ρ y=.int .i64 i) (h:get (k.map ub) i=some v):Pu P ρ ⟨d,.index t x y,ty,pos,af,gd⟩ (.int .u8 v):=fun w=>by
  unfold Yv
  obtain ⟨h0,h1⟩:=qac h
  rw [List.getElem?_map] at h1
  cases hu:k[i.toNat]? with
  | none=>rw [hu] at h1; cases h1
  | some u=>
    rw [hu] at h1
    obtain rfl:=Option.some.inj h1
    have h2:(⟨k.toArray⟩:ByteArray)[i.toNat]? =some u:=by
      have hl:=(List.getElem?_eq_some_iff.1 hu).1
      show (if h:i.toNat<(⟨k.toArray⟩:ByteArray).size then some (⟨k.toArray⟩:ByteArray)[i.toNat] else none)=_
      rw [dif_pos (show i.toNat<(⟨k.toArray⟩:ByteArray).size from by simpa [ByteArray.size] using hl)]
      have:=(List.getElem?_eq_some_iff.1 hu).2
      rw [←this]; rfl
    simp [execOp,hx,hy,Instr.index,run_underlying ht,asIntOf,h0,h2,ub]
end
/-! One order of the entries for all. -/
noncomputable def mcan {α:Type} (m:List α):List α:=(Quot.exists_rep (Quotient.mk (List.isSetoid α) m)).choose
theorem mcan_perm {α:Type} (m:List α):m.Perm (mcan m):=(Quotient.exact (s:=List.isSetoid α) (Quot.exists_rep (Quotient.mk (List.isSetoid α) m)).choose_spec).symm
theorem mcan_eq {α:Type} {m m':List α} (h:m.Perm m'):mcan m=mcan m':=by
  have:Quotient.mk (List.isSetoid α) m=Quotient.mk (List.isSetoid α) m':=Quotient.sound h
  unfold mcan
  congr 1
  funext q
  rw [this]
