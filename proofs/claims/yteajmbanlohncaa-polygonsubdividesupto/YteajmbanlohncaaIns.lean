import Derived.Test.YteajmbanlohncaaCells
import Derived.Shelf.Spec.SlicesInsert
import Derived.Shelf.Spec.SlicesInsertGrow
import Derived.Shelf.Slices.Delete
set_option linter.unusedVariables false
namespace Go.Proofs.Yteajmbanlohncaa
namespace Ev
open Go.RowKit Go.Shelf Go.Sort

theorem ins_get {s v:List Value} {i m k:Nat} (hv:v.length=m) (hi:i≤s.length):(s.take i++v++s.drop i)[k]? =if k<i then s[k]? else if k<i+m then v[k-i]? else s[k-m]? :=by
 have hl:(s.take i).length=i:=by rw [List.length_take]; omega
 rw [List.append_assoc]
 by_cases h1:k<i
 · rw [if_pos h1,List.getElem?_append_left (by omega),List.getElem?_take_of_lt h1]
 ·
  rw [if_neg h1,List.getElem?_append_right (by omega),hl]
  by_cases h2:k<i+m
  · rw [if_pos h2,List.getElem?_append_left (by omega)]
  ·
   rw [if_neg h2,List.getElem?_append_right (by omega),List.getElem?_drop]
   congr 1; omega

end Ev
end Go.Proofs.Yteajmbanlohncaa
