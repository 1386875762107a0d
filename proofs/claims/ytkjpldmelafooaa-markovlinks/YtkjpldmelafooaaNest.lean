import Derived.Test.YtkjpldmelafooaaCall
set_option linter.all false
namespace Go.Proofs.Ytkjpldmelafooaa
namespace Ev
section
variable {I : Nat → Prop} {O0 : List Nat} {w0 w w' : World} {L L1 L2 L' : List Fact} {e : TypeId} {s : Sh} {hs : List Value} {xss : List (List s.T)}
/-! Operations on a list of rows:its facts stand in L,its rows in the tail. -/
variable {P : Program} {ρ : Operand → Value} {d : Option Tmp} {ty : TypeId} {pos : String} {af : Array Edge} {gd : Option (Nat × Bool)} {x y : Operand}
theorem Own.drop {O:List Nat} {w:World} {e:TypeId} {s:Sh} {A:Option Addr} {m c:Nat} {xs:List s.T} (h:Own O w e s (.slice A m c) xs (blkOf (.slice A m c))) {k:Nat} (hk:k≤xs.length):
  Own O w e s (.slice (if c=k then A else A.map (·.add (k*s.n))) (xs.length-k) (c-k)) (xs.drop k) (blkOf (.slice A m c)):=by
 obtain ⟨cs,h1,h2⟩:=h
 have hle:k*s.n≤xs.length*s.n:=Nat.mul_le_mul_right _ hk
 refine ⟨cs.drop (k*s.n),⟨?_,?_⟩,?_,fun i x hx=>?_⟩
 · rw [List.length_drop,h1.1,List.length_drop,Nat.sub_mul]
 ·
  rcases h1.2 with ⟨h0,h00,h000⟩ | ⟨g,o,cap,cur,hv,hG,hb,hn,hc,hsz,ht⟩
  ·
   injection h0 with e1 e2 e3
   subst e1 e2 e3
   obtain rfl:k=0:=by omega
   exact .inl ⟨by rw [h00]; rfl,by rw [List.length_drop]; omega,rfl⟩
  ·
   injection hv with e1 e2 e3
   subst e1 e2 e3
   by_cases hck:c=k
   ·
    subst hck
    refine .inr ⟨g,o,0,cur,?_,rfl,hb,by rw [List.length_drop]; omega,by omega,by omega,?_⟩
    · rw [if_pos rfl,List.length_drop,Nat.sub_self]
    ·
     have e0:xs.length-c=0:=by omega
     rw [List.length_drop,e0,Nat.zero_mul,List.take_zero,List.drop_eq_nil_of_le (by rw [h1.1]; exact Nat.mul_le_mul_right _ (by omega))]
   ·
    refine .inr ⟨g,o+k*s.n,c-k,cur,?_,rfl,hb,by rw [List.length_drop]; omega,by omega,?_,?_⟩
    · rw [if_neg hck,List.length_drop,Option.map_some,add_lit]
    ·
     rw [Nat.sub_mul]
     have:=Nat.mul_le_mul_right s.n (show k≤c by omega)
     omega
    · rw [List.length_drop,Nat.sub_mul,←ht,List.drop_take,List.drop_drop]
 · rw [List.length_drop,h2.1,List.length_drop,Nat.sub_mul]
 ·
  rw [List.getElem?_drop] at hx
  have:=h2.2 _ x hx
  rwa [List.drop_drop,←Nat.add_mul]
theorem blk_drop {A:Option Addr} {m c k n m' c':Nat}:blkOf (.slice (if c=k then A else A.map (·.add n)) m' c')=blkOf (.slice A m c):=by
 cases A with
 | none=>split<;>rfl
 | some a=>split<;>simp [blkOf,add_block]
