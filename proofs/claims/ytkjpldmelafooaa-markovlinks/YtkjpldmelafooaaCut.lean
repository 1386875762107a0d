import Derived.Test.YtkjpldmelafooaaNest
set_option linter.all false
namespace Go.Proofs.Ytkjpldmelafooaa
namespace Ev
section
variable {P : Program} {I : Nat → Prop} {O0 : List Nat} {w0 w : World} {L : List Fact}
theorem Cx.cutl (h:Cx I O0 w0 w L) {i:Nat} {e2:TypeId} {s:Sh} {A:Option Addr} {m c:Nat} {xs:List s.T} (hi:L[i]? =some (.own e2 s (.slice A m c) xs)) {t1:TypeId} {a:Int} (ht:P.underlying t1=some (.slice e2)) (hsz: ∀w,(sizeOf e2).run P w=.ok s.n w) (ha:0≤a∧a≤(xs.length:Int)∧(xs.length:Int)≤xs.length):
    ∃A' c',(∀{ρ:Operand→Value} {d:Option Tmp} {ty:TypeId} {pos:String} {af:Array Edge} {gd:Option (Nat×Bool)} {x lo:Operand},ρ x=.slice A m c→ρ lo=.int .i64 a→Pu P ρ ⟨d,.slice t1 x (some lo) none none,ty,pos,af,gd⟩ (.slice A' (xs.drop a.toNat).length c'))∧(xs.drop a.toNat).length≤c'∧c'≤9223372036854775807∧
      Cx I O0 w0 w (L.set i (.own e2 s (.slice A' (xs.drop a.toNat).length c') (xs.drop a.toNat))):=by
  have hown:Own (O0++blocks L) w e2 s (.slice A m c) xs (blkOf (.slice A m c)):=h.ow hi
  obtain ⟨hm,hc1,hc2⟩:=hown.qah
  have e1:(xs.drop a.toNat).length=xs.length-a.toNat:=by rw [List.length_drop]
  have e3:(xs.drop a.toNat).length=m-a.toNat:=by rw [List.length_drop,hm]
  refine ⟨if c=a.toNat then A else A.map (·.add (a.toNat*s.n)),c-a.toNat,?_,by omega,by omega,?_⟩
  rotate_left
  · refine h.turn hi (Fr.refl _ w) (.inl blk_drop) fun O hO=>?_
    have h2:=Own.drop hown (k:=a.toNat) (by omega)
    rw [e1]
    show Own O w e2 s _ _ (blkOf _)
    rw [blk_drop (m:=m)]
    exact Own.sub h2 hO
  · intro ρ d ty pos af gd x lo hx hlo
    rw [e3]
    exact pu_slice_l ht hsz hx hlo ⟨ha.1,by omega⟩
