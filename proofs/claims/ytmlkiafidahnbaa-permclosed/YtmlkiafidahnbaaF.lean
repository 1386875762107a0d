/- The plain functions. -/
import Derived.Test.YtmlkiafidahnbaaRun
import Derived.Test.YtmlkiafidahnbaaShort
import Derived.Test.YtmlkiafidahnbaaCall
import Derived.Test.YtmlkiafidahnbaaRange
import Derived.Test.YtmlkiafidahnbaaRev
import Derived.Test.YtmlkiafidahnbaaSort
import Derived.Test.YtmlkiafidahnbaaIter
import Derived.Test.YtmlkiafidahnbaaArr
import Derived.Test.YtmlkiafidahnbaaMap
import Derived.Test.YtmlkiafidahnbaaStr
set_option linter.unusedVariables false
set_option linter.unusedSimpArgs false
namespace Go.Proofs.Ytmlkiafidahnbaa
open Ev
namespace F
def perm_Valid_b0 (n : Nat) (p_0 : List Int) : Int × (List Bool) → Option ((Int × (List Bool)) ⊕ ((Int × (List Bool)) ⊕ (Bool)))
  | (v11_0, qf11_0) => cond (decide (v11_0 < (p_0.length : Int))) ((get p_0 v11_0).bind fun x26 => cond (decide (x26 < 0)) (some (.inr (.inr false))) (cond (decide ((p_0.length : Int) ≤ x26)) (some (.inr (.inr false))) ((get qf11_0 x26).bind fun x38 => cond x38 (some (.inr (.inr false))) ((get qf11_0 x26).bind fun x47 => (chk (v11_0 + 1)).bind fun z54 => some (.inl (z54, (qf11_0.set x26.toNat true))))))) (some (.inr (.inl (v11_0, qf11_0))))

def perm_Valid (n : Nat) (p_0 : List Int) : Option (Bool) :=
  (pos (p_0.length : Int)).bind fun u4 => ((loopN n (F.perm_Valid_b0 n p_0) (0, (List.replicate (p_0.length : Int).toNat false))).bind fun o14 => match o14 with
    | (.inl (v11_0, qf11_0)) => some true
    | (.inr q) => some q)

def perm_Mul_b0 (n : Nat) (p_0 : List Int) (q_1 : List Int) : Int × (List Int) → Option ((Int × (List Int)) ⊕ ((Int × (List Int))))
  | (v29_0, qf31_0) => cond (decide (v29_0 < (p_0.length : Int))) ((get p_0 v29_0).bind fun x46 => (get q_1 x46).bind fun x52 => (get qf31_0 v29_0).bind fun x58 => (chk (v29_0 + 1)).bind fun z65 => some (.inl (z65, (qf31_0.set v29_0.toNat x52)))) (some (.inr (v29_0, qf31_0)))

def perm_Mul (n : Nat) (p_0 : List Int) (q_1 : List Int) : Option ((List Int) × Int) :=
  (F.perm_Valid n p_0).bind fun y6 => cond (!y6) (some ([], 1)) ((F.perm_Valid n q_1).bind fun y12 => cond (!y12) (some ([], 1)) (cond (!(decide ((p_0.length : Int) = (q_1.length : Int)))) (some ([], 1)) ((pos (p_0.length : Int)).bind fun u24 => ((loopN n (F.perm_Mul_b0 n p_0 q_1) (0, (List.replicate (p_0.length : Int).toNat (0 : Int)))).bind fun o34 => match o34 with
    | (v29_0, qf31_0) => some (qf31_0, 0)))))



def slices_Clone_Perm_int (n : Nat) (s_0 : List Int) : Option ((List Int)) :=
  (lim (([] : List Int).length + s_0.length)).bind fun u16 => some (([] : List Int) ++ s_0)


def perm_advance_b1 (n : Nat) (p_0 : List Int) (v3_0 : Int) : Int → Option ((Int) ⊕ ((Int)))
  | v4_1 => (get p_0 v4_1).bind fun x59 => (get p_0 v3_0).bind fun x66 => cond (decide (x59 < x66)) ((chk (v4_1 - 1)).bind fun z74 => some (.inl z74)) (some (.inr v4_1))

def perm_advance_b0 (n : Nat) (p_0 : List Int) : Int → Option ((Int) ⊕ ((Int)))
  | v3_0 => cond (decide (0 ≤ v3_0)) ((get p_0 v3_0).bind fun x19 => (chk (v3_0 + 1)).bind fun z26 => (get p_0 z26).bind fun x28 => cond (decide (x28 < x19)) ((chk (v3_0 - 1)).bind fun z36 => some (.inl z36)) (some (.inr v3_0))) (some (.inr v3_0))

def perm_advance (n : Nat) (p_0 : List Int) : Option (Bool × (List Int)) :=
  (chk ((p_0.length : Int) - 2)).bind fun z4 => ((loopN n (F.perm_advance_b0 n p_0) z4).bind fun o7 => match o7 with
    | v3_0 => cond (decide (v3_0 < 0)) (some (false, p_0)) ((chk ((p_0.length : Int) - 1)).bind fun z45 => ((loopN n (F.perm_advance_b1 n p_0 v3_0) z45).bind fun o48 => match o48 with
    | v4_1 => (get p_0 v4_1).bind fun x81 => (get p_0 v3_0).bind fun x88 => (get p_0 v3_0).bind fun x95 => (get (p_0.set v3_0.toNat x81) v4_1).bind fun x103 => (chk (v3_0 + 1)).bind fun z112 => (cut z112 (((p_0.set v3_0.toNat x81).set v4_1.toNat x88).length : Int) ((p_0.set v3_0.toNat x81).set v4_1.toNat x88).length).bind fun u114 => some (true, (((p_0.set v3_0.toNat x81).set v4_1.toNat x88).take z112.toNat ++ (((p_0.set v3_0.toNat x81).set v4_1.toNat x88).drop z112.toNat).reverse)))))

def perm_All_c1_b1 {Sg Xg : Type} (step : List Int → Sg → Option (Sg ⊕ Xg)) (n : Nat) : Sg × Bool × (List Int) → Option ((Sg × Bool × (List Int)) ⊕ ((Sg × Bool × (List Int)) ⊕ (Sg ⊕ Xg)))
  | (s_1, v5_1, qf14_1) => cond v5_1 ((F.slices_Clone_Perm_int n qf14_1).bind fun y54 => ((step y54 s_1).bind fun o63 => Sum.elim (fun s72 => (F.perm_advance n qf14_1).bind fun y77 => some (.inl (s72, y77.1, y77.2))) (fun s75 => some (.inr (.inr (.inr s75)))) o63)) (some (.inr (.inl (s_1, v5_1, qf14_1))))

def perm_All_c1_b0 {Sg Xg : Type} (step : List Int → Sg → Option (Sg ⊕ Xg)) (n : Nat) (u_1_0 : Int) : Sg × Int × (List Int) → Option ((Sg × Int × (List Int)) ⊕ ((Sg × Int × (List Int))))
  | (s_0, v16_0, qf14_0) => cond (decide (v16_0 < (((List.replicate u_1_0.toNat (0 : Int))).length : Int))) ((get qf14_0 v16_0).bind fun x30 => (chk (v16_0 + 1)).bind fun z37 => some (.inl (s_0, z37, (qf14_0.set v16_0.toNat v16_0)))) (some (.inr (s_0, v16_0, qf14_0)))

def perm_All_c1 {Sg Xg : Type} (step : List Int → Sg → Option (Sg ⊕ Xg)) (n : Nat) (sg : Sg) (u_1_0 : Int) : Option (Sg ⊕ Xg) :=
  cond (decide (u_1_0 < 0)) (some (.inl sg)) (cond (decide (8 < u_1_0)) (some (.inl sg)) ((pos u_1_0).bind fun u7 => ((loopN n (F.perm_All_c1_b0 step n u_1_0) (sg, 0, (List.replicate u_1_0.toNat (0 : Int)))).bind fun o18 => match o18 with
    | (s_0, v16_0, qf14_0) => ((loopN n (F.perm_All_c1_b1 step n) (s_0, true, qf14_0)).bind fun o42 => match o42 with
    | (.inl (s_1, v5_1, qf14_1)) => some (.inl s_1)
    | (.inr q) => some q))))

def perm_Cycles_b1 (n : Nat) (p_0 : List Int) : (List Int) × Int × (List Bool) → Option (((List Int) × Int × (List Bool)) ⊕ (((List Int) × Int × (List Bool))))
  | (l6_1, v7_1, qf20_1) => (get qf20_1 v7_1).bind fun x50 => cond (!x50) ((get qf20_1 v7_1).bind fun x59 => (lim (l6_1.length + ([v7_1] : List Int).length)).bind fun u72 => (get p_0 v7_1).bind fun x80 => some (.inl ((l6_1 ++ ([v7_1] : List Int)), x80, (qf20_1.set v7_1.toNat true)))) (some (.inr (l6_1, v7_1, qf20_1)))

def perm_Cycles_b0 (n : Nat) (p_0 : List Int) : (List (List Int)) × Int × (List Bool) → Option (((List (List Int)) × Int × (List Bool)) ⊕ (((List (List Int)) × Int × (List Bool))))
  | (l3_0, v16_0, qf20_0) => cond (decide (v16_0 < (p_0.length : Int))) (((loopN n (F.perm_Cycles_b1 n p_0) (([] : List Int), v16_0, qf20_0)).bind fun o41 => match o41 with
    | (l6_1, v7_1, qf20_1) => cond (decide (0 < (l6_1.length : Int))) ((lim (l3_0.length + ([l6_1] : List (List Int)).length)).bind fun u96 => (chk (v16_0 + 1)).bind fun z103 => some (.inl ((l3_0 ++ ([l6_1] : List (List Int))), z103, qf20_1))) ((chk (v16_0 + 1)).bind fun z105 => some (.inl (l3_0, z105, qf20_1))))) (some (.inr (l3_0, v16_0, qf20_0)))

def perm_Cycles (n : Nat) (p_0 : List Int) : Option ((List (List Int))) :=
  (F.perm_Valid n p_0).bind fun y5 => cond (!y5) (some ([])) ((pos (p_0.length : Int)).bind fun u13 => ((loopN n (F.perm_Cycles_b0 n p_0) (([] : List (List Int)), 0, (List.replicate (p_0.length : Int).toNat false))).bind fun o25 => match o25 with
    | (l3_0, v16_0, qf20_0) => some l3_0))


def perm_Type_c1 (n : Nat) (a_0 : List Int) (b_1 : List Int) : Option (Int) :=
  (chk ((b_1.length : Int) - (a_0.length : Int))).bind fun z5 => some z5

def slices_SortFunc_LLint_Lint_perm_Type_c1 (n : Nat) (s_0 : List (List Int)) : Option (List (List Int)) := if (s_0.all fun x => s_0.all fun y => (perm_Type_c1 n x y).isSome) = true ∧ swoL (fun x y : (List Int) => (perm_Type_c1 n x y).getD 0) s_0 = true ∧ s_0.length ≤ 1099511627776 then some (sortL (fun x y : (List Int) => (perm_Type_c1 n x y).getD 0) s_0) else none

def perm_Type_b0 (n : Nat) (y4 : (List (List Int))) (y14 : List (List Int)) : (List Int) × Int → Option (((List Int) × Int) ⊕ (((List Int) × Int)))
  | (l4_0, v13_0) => cond (decide (v13_0 < (y4.length : Int))) ((get y14 v13_0).bind fun x34 => (lim (l4_0.length + ([(x34.length : Int)] : List Int).length)).bind fun u51 => (chk (v13_0 + 1)).bind fun z58 => some (.inl ((l4_0 ++ ([(x34.length : Int)] : List Int)), z58))) (some (.inr (l4_0, v13_0)))

def perm_Type (n : Nat) (p_0 : List Int) : Option ((List Int)) :=
  (F.perm_Cycles n p_0).bind fun y4 => (F.slices_SortFunc_LLint_Lint_perm_Type_c1 n y4).bind fun y14 => ((loopN n (F.perm_Type_b0 n y4 y14) (([] : List Int), 0)).bind fun o22 => match o22 with
    | (l4_0, v13_0) => some l4_0)

def slices_Equal_Lint_int_b0 (n : Nat) (s1_0 : List Int) (s2_1 : List Int) : Int → Option ((Int) ⊕ ((Int) ⊕ (Bool)))
  | v13_0 => cond (decide (v13_0 < (s1_0.length : Int))) ((get s1_0 v13_0).bind fun x25 => (get s2_1 v13_0).bind fun x32 => cond (!(decide (x25 = x32))) (some (.inr (.inr false))) ((chk (v13_0 + 1)).bind fun z41 => some (.inl z41))) (some (.inr (.inl v13_0)))

def slices_Equal_Lint_int (n : Nat) (s1_0 : List Int) (s2_1 : List Int) : Option (Bool) :=
  cond (!(decide ((s1_0.length : Int) = (s2_1.length : Int)))) (some false) (((loopN n (F.slices_Equal_Lint_int_b0 n s1_0 s2_1) 0).bind fun o10 => match o10 with
    | (.inl v13_0) => some true
    | (.inr q) => some q))

def perm_Class_b1 (n : Nat) (cycles_1 : List Int) : List Int → (List (List Int)) → Option (((List (List Int))) ⊕ ((List (List Int))))
  | x_1, kf84_0_1 => (F.perm_Type n x_1).bind fun y106 => (F.slices_Equal_Lint_int n y106 cycles_1).bind fun y115 => cond y115 ((lim (kf84_0_1.length + ([x_1] : List (List Int)).length)).bind fun u125 => some (.inl (kf84_0_1 ++ ([x_1] : List (List Int))))) (some (.inl kf84_0_1))

def perm_Class_b0 (n : Nat) (cycles_1 : List Int) : Int × Int → Option ((Int × Int) ⊕ ((Int × Int) ⊕ ((List (List Int)) × Int)))
  | (v6_0, v20_0) => cond (decide (v20_0 < (cycles_1.length : Int))) ((get cycles_1 v20_0).bind fun x32 => cond (decide (x32 < 1)) (some (.inr (.inr ([], 1)))) (cond (decide (v6_0 < x32)) (some (.inr (.inr ([], 1)))) (cond (decide (0 < v20_0)) ((chk (v20_0 - 1)).bind fun z51 => (get cycles_1 z51).bind fun x53 => cond (decide (x53 < x32)) (some (.inr (.inr ([], 1)))) ((chk (v6_0 - x32)).bind fun z64 => (chk (v20_0 + 1)).bind fun z66 => some (.inl (z64, z66)))) ((chk (v6_0 - x32)).bind fun z69 => (chk (v20_0 + 1)).bind fun z71 => some (.inl (z69, z71)))))) (some (.inr (.inl (v6_0, v20_0))))

def perm_Class (n : Nat) (nx_0 : Int) (cycles_1 : List Int) : Option ((List (List Int)) × Int) :=
  cond (decide (nx_0 < 1)) (some ([], 2)) (cond (decide (8 < nx_0)) (some ([], 2)) (((loopN n (F.perm_Class_b0 n cycles_1) (nx_0, 0)).bind fun o20 => match o20 with
    | (.inl (v6_0, v20_0)) => cond (!(decide (v6_0 = 0))) (some ([], 1)) (((F.perm_All_c1 ((F.perm_Class_b1 n cycles_1) : List Int → (List (List Int)) → Option (((List (List Int))) ⊕ ((List (List Int))))) n ([] : List (List Int)) nx_0).bind fun o91 => match lr o91 with
    | kf84_0_1 => some (kf84_0_1, 0)))
    | (.inr q) => some q)))

def slices_Equal_Perm_int_b0 (n : Nat) (s1_0 : List Int) (s2_1 : List Int) : Int → Option ((Int) ⊕ ((Int) ⊕ (Bool)))
  | v13_0 => cond (decide (v13_0 < (s1_0.length : Int))) ((get s1_0 v13_0).bind fun x25 => (get s2_1 v13_0).bind fun x32 => cond (!(decide (x25 = x32))) (some (.inr (.inr false))) ((chk (v13_0 + 1)).bind fun z41 => some (.inl z41))) (some (.inr (.inl v13_0)))

def slices_Equal_Perm_int (n : Nat) (s1_0 : List Int) (s2_1 : List Int) : Option (Bool) :=
  cond (!(decide ((s1_0.length : Int) = (s2_1.length : Int)))) (some false) (((loopN n (F.slices_Equal_Perm_int_b0 n s1_0 s2_1) 0).bind fun o10 => match o10 with
    | (.inl v13_0) => some true
    | (.inr q) => some q))


def law30_awake (n : Nat) : Option (Bool) :=
  (F.perm_Mul n ([1, 2, 0] : List Int) ([1, 0, 2] : List Int)).bind fun y15 => (F.perm_Class n 3 ([2, 1] : List Int)).bind fun y32 => cond (decide (y15.2 = 0)) ((F.slices_Equal_Perm_int n y15.1 ([0, 2, 1] : List Int)).bind fun y51 => cond y51 ((F.perm_Type n ([2, 1, 0, 4, 3] : List Int)).bind fun y61 => (F.slices_Equal_Lint_int n y61 ([2, 2, 1] : List Int)).bind fun y76 => cond y76 (cond (decide (y32.2 = 0)) (cond (decide ((y32.1.length : Int) = 3)) ((get y32.1 2).bind fun x82 => (F.slices_Equal_Perm_int n x82 ([2, 1, 0] : List Int)).bind fun y99 => some y99) (some false)) (some false)) (some false)) (some false)) (some false)

def ref01_In_b0 (n : Nat) (l_0 : List Int) (x_1 : Int) : Int → Option ((Int) ⊕ ((Int) ⊕ (Bool)))
  | v5_0 => cond (decide (v5_0 < (l_0.length : Int))) ((get l_0 v5_0).bind fun x17 => cond (decide (x17 = x_1)) (some (.inr (.inr true))) ((chk (v5_0 + 1)).bind fun z25 => some (.inl z25))) (some (.inr (.inl v5_0)))

def ref01_In (n : Nat) (l_0 : List Int) (x_1 : Int) : Option (Bool) :=
  ((loopN n (F.ref01_In_b0 n l_0 x_1) 0).bind fun o5 => match o5 with
    | (.inl v5_0) => some false
    | (.inr q) => some q)

def ref30_All_b0 (self : Int → (List Int) → Option ((List (List Int)))) (n : Nat) (nx_0 : Int) (front_1 : List Int) : (List (List Int)) × Int → Option (((List (List Int)) × Int) ⊕ (((List (List Int)) × Int)))
  | (l5_0, v6_0) => cond (decide (v6_0 < nx_0)) ((F.ref01_In n front_1 v6_0).bind fun y42 => cond (!y42) ((lim (([] : List Int).length + front_1.length)).bind fun u52 => (lim ((([] : List Int) ++ front_1).length + ([v6_0] : List Int).length)).bind fun u65 => (self nx_0 ((([] : List Int) ++ front_1) ++ ([v6_0] : List Int))).bind fun y72 => (lim (l5_0.length + y72.length)).bind fun u81 => (chk (v6_0 + 1)).bind fun z88 => some (.inl ((l5_0 ++ y72), z88))) ((chk (v6_0 + 1)).bind fun z90 => some (.inl (l5_0, z90)))) (some (.inr (l5_0, v6_0)))

def ref30_All : Nat → Int → (List Int) → Option ((List (List Int)))
  | 0, _, _ => none
  | n + 1, nx_0, front_1 => cond (decide ((front_1.length : Int) = nx_0)) ((lim (([] : List Int).length + front_1.length)).bind fun u13 => some ([(([] : List Int) ++ front_1)] : List (List Int))) (((loopN n (F.ref30_All_b0 (ref30_All n) n nx_0 front_1) (([] : List (List Int)), 0)).bind fun o30 => match o30 with
    | (l5_0, v6_0) => some l5_0))

def ref01_Ints_b0 (n : Nat) (a_0 : List Int) (b_1 : List Int) : Int → Option ((Int) ⊕ ((Int) ⊕ (Bool)))
  | v5_0 => cond (decide (v5_0 < (a_0.length : Int))) ((get a_0 v5_0).bind fun x24 => (get b_1 v5_0).bind fun x31 => cond (!(decide (x24 = x31))) (some (.inr (.inr false))) ((chk (v5_0 + 1)).bind fun z40 => some (.inl z40))) (some (.inr (.inl v5_0)))

def ref01_Ints (n : Nat) (a_0 : List Int) (b_1 : List Int) : Option (Bool) :=
  cond (!(decide ((a_0.length : Int) = (b_1.length : Int)))) (some false) (((loopN n (F.ref01_Ints_b0 n a_0 b_1) 0).bind fun o10 => match o10 with
    | (.inl v5_0) => some true
    | (.inr q) => some q))

def ref01_Lists_b0 (n : Nat) (a_0 : List (List Int)) (b_1 : List (List Int)) : Int → Option ((Int) ⊕ ((Int) ⊕ (Bool)))
  | v5_0 => cond (decide (v5_0 < (a_0.length : Int))) ((get a_0 v5_0).bind fun x24 => (get b_1 v5_0).bind fun x36 => (F.ref01_Ints n x24 x36).bind fun y48 => cond (!y48) (some (.inr (.inr false))) ((chk (v5_0 + 1)).bind fun z53 => some (.inl z53))) (some (.inr (.inl v5_0)))

def ref01_Lists (n : Nat) (a_0 : List (List Int)) (b_1 : List (List Int)) : Option (Bool) :=
  cond (!(decide ((a_0.length : Int) = (b_1.length : Int)))) (some false) (((loopN n (F.ref01_Lists_b0 n a_0 b_1) 0).bind fun o10 => match o10 with
    | (.inl v5_0) => some true
    | (.inr q) => some q))

def law30_PermAll_b3 (n : Nat) (x_2 : List Int) : Int × (List Int) → Option ((Int × (List Int)) ⊕ ((Int × (List Int))))
  | (v44_3, qR_2_3) => cond (decide (v44_3 < (x_2.length : Int))) ((get qR_2_3 v44_3).bind fun x113 => (chk (v44_3 + 1)).bind fun z120 => some (.inl (z120, (qR_2_3.set v44_3.toNat (-7))))) (some (.inr (v44_3, qR_2_3)))

def law30_PermAll_b4 (n : Nat) (stop_1 : Int) : List Int → Int → Option ((Int) ⊕ (Int))
  | x_4, bf129_0_4 => cond (decide (bf129_0_4 = stop_1)) (some (.inr bf129_0_4)) ((chk (bf129_0_4 + 1)).bind fun z148 => some (.inl z148))

def law30_PermAll_b2 (n : Nat) : List Int → (List (List Int)) → Option (((List (List Int))) ⊕ ((List (List Int))))
  | x_2, kf48_0_2 => (lim (([] : List Int).length + x_2.length)).bind fun u79 => (lim (kf48_0_2.length + ([(([] : List Int) ++ x_2)] : List (List Int)).length)).bind fun u92 => ((loopN n (F.law30_PermAll_b3 n x_2) (0, x_2)).bind fun o101 => match o101 with
    | (v44_3, qR_2_3) => some (.inl (kf48_0_2 ++ ([(([] : List Int) ++ x_2)] : List (List Int)))))

def law30_PermAll_j1 (n : Nat) (nx_0 : Int) (stop_1 : Int) (l5_1 : List (List Int)) : Option (Bool) :=
  ((F.perm_All_c1 ((F.law30_PermAll_b2 n) : List Int → (List (List Int)) → Option (((List (List Int))) ⊕ ((List (List Int))))) n ([] : List (List Int)) nx_0).bind fun o58 => match lr o58 with
    | kf48_0_2 => ((F.perm_All_c1 ((F.law30_PermAll_b4 n stop_1) : List Int → Int → Option ((Int) ⊕ (Int))) n 0 nx_0).bind fun o133 => match lr o133 with
    | bf129_0_4 => (F.ref01_Lists n kf48_0_2 l5_1).bind fun y154 => cond y154 (some (decide (bf129_0_4 = (min stop_1 (l5_1.length : Int))))) (some false)))

def law30_PermAll_j0 (n : Nat) (nx_0 : Int) (stop_1 : Int) : Option (Bool) :=
  cond (decide (0 ≤ nx_0)) (cond (decide (nx_0 ≤ 8)) ((F.ref30_All n nx_0 ([])).bind fun y32 => F.law30_PermAll_j1 n nx_0 stop_1 y32) (F.law30_PermAll_j1 n nx_0 stop_1 ([] : List (List Int)))) (F.law30_PermAll_j1 n nx_0 stop_1 ([] : List (List Int)))

def law30_PermAll (n : Nat) (nx_0 : Int) (stop_1 : Int) : Option (Bool) :=
  (F.law30_awake n).bind fun y7 => cond (!y7) ((F.law30_awake n).bind fun y12 => some y12) (cond (decide (5 < nx_0)) (cond (decide (nx_0 ≤ 8)) ((F.law30_awake n).bind fun y20 => some y20) (F.law30_PermAll_j0 n nx_0 stop_1)) (F.law30_PermAll_j0 n nx_0 stop_1))

def ref30_Partition_b0 (n : Nat) (l_0 : List Int) : Int × Int → Option ((Int × Int) ⊕ ((Int × Int) ⊕ (Bool)))
  | (v1_0, v5_0) => cond (decide (v5_0 < (l_0.length : Int))) ((get l_0 v5_0).bind fun x20 => cond (decide (x20 < 1)) (some (.inr (.inr false))) ((get l_0 v5_0).bind fun x29 => cond (decide (v1_0 < x29)) (some (.inr (.inr false))) (cond (decide (0 < v5_0)) ((get l_0 v5_0).bind fun x39 => (chk (v5_0 - 1)).bind fun z46 => (get l_0 z46).bind fun x48 => cond (decide (x48 < x39)) (some (.inr (.inr false))) ((get l_0 v5_0).bind fun x58 => (chk (v1_0 - x58)).bind fun z64 => (chk (v5_0 + 1)).bind fun z66 => some (.inl (z64, z66)))) ((get l_0 v5_0).bind fun x69 => (chk (v1_0 - x69)).bind fun z75 => (chk (v5_0 + 1)).bind fun z77 => some (.inl (z75, z77)))))) (some (.inr (.inl (v1_0, v5_0))))

def ref30_Partition (n : Nat) (l_0 : List Int) (nx_1 : Int) : Option (Bool) :=
  ((loopN n (F.ref30_Partition_b0 n l_0) (nx_1, 0)).bind fun o5 => match o5 with
    | (.inl (v1_0, v5_0)) => some (decide (v1_0 = 0))
    | (.inr q) => some q)

def law30_plain_b0 (n : Nat) (l_0 : List (List Int)) : (List (List Int)) × Int → Option (((List (List Int)) × Int) ⊕ (((List (List Int)) × Int)))
  | (l3_0, v8_0) => cond (decide (v8_0 < (l_0.length : Int))) ((get l_0 v8_0).bind fun x19 => (lim (l3_0.length + ([x19] : List (List Int)).length)).bind fun u36 => (chk (v8_0 + 1)).bind fun z43 => some (.inl ((l3_0 ++ ([x19] : List (List Int))), z43))) (some (.inr (l3_0, v8_0)))

def law30_plain (n : Nat) (l_0 : List (List Int)) : Option ((List (List Int))) :=
  ((loopN n (F.law30_plain_b0 n l_0) (([] : List (List Int)), 0)).bind fun o7 => match o7 with
    | (l3_0, v8_0) => some l3_0)

def ref30_Cycles_b1 (n : Nat) (p_0 : List Int) : (List Int) × Int × (List Bool) → Option (((List Int) × Int × (List Bool)) ⊕ (((List Int) × Int × (List Bool))))
  | (l6_1, v7_1, qf12_1) => (get qf12_1 v7_1).bind fun x40 => cond (!x40) ((get qf12_1 v7_1).bind fun x49 => (lim (l6_1.length + ([v7_1] : List Int).length)).bind fun u62 => (get p_0 v7_1).bind fun x70 => some (.inl ((l6_1 ++ ([v7_1] : List Int)), x70, (qf12_1.set v7_1.toNat true)))) (some (.inr (l6_1, v7_1, qf12_1)))

def ref30_Cycles_b0 (n : Nat) (p_0 : List Int) : (List (List Int)) × Int × (List Bool) → Option (((List (List Int)) × Int × (List Bool)) ⊕ (((List (List Int)) × Int × (List Bool))))
  | (l3_0, v5_0, qf12_0) => cond (decide (v5_0 < (p_0.length : Int))) (((loopN n (F.ref30_Cycles_b1 n p_0) (([] : List Int), v5_0, qf12_0)).bind fun o31 => match o31 with
    | (l6_1, v7_1, qf12_1) => cond (decide (0 < (l6_1.length : Int))) ((lim (l3_0.length + ([l6_1] : List (List Int)).length)).bind fun u86 => (chk (v5_0 + 1)).bind fun z93 => some (.inl ((l3_0 ++ ([l6_1] : List (List Int))), z93, qf12_1))) ((chk (v5_0 + 1)).bind fun z95 => some (.inl (l3_0, z95, qf12_1))))) (some (.inr (l3_0, v5_0, qf12_0)))

def ref30_Cycles (n : Nat) (p_0 : List Int) : Option ((List (List Int))) :=
  (pos (p_0.length : Int)).bind fun u5 => ((loopN n (F.ref30_Cycles_b0 n p_0) (([] : List (List Int)), 0, (List.replicate (p_0.length : Int).toNat false))).bind fun o16 => match o16 with
    | (l3_0, v5_0, qf12_0) => some l3_0)

def ref30_Type_b1 (n : Nat) (y4 : (List (List Int))) (v5_0 : Int) : (List Int) × Int → Option (((List Int) × Int) ⊕ (((List Int) × Int)))
  | (l4_1, v6_1) => cond (decide (v6_1 < (y4.length : Int))) ((get y4 v6_1).bind fun x41 => cond (decide ((x41.length : Int) = v5_0)) ((lim (l4_1.length + ([v5_0] : List Int).length)).bind fun u60 => (chk (v6_1 + 1)).bind fun z67 => some (.inl ((l4_1 ++ ([v5_0] : List Int)), z67))) ((chk (v6_1 + 1)).bind fun z69 => some (.inl (l4_1, z69)))) (some (.inr (l4_1, v6_1)))

def ref30_Type_b0 (n : Nat) (y4 : (List (List Int))) : (List Int) × Int → Option (((List Int) × Int) ⊕ (((List Int) × Int)))
  | (l4_0, v5_0) => cond (decide (0 < v5_0)) (((loopN n (F.ref30_Type_b1 n y4 v5_0) (l4_0, 0)).bind fun o29 => match o29 with
    | (l4_1, v6_1) => (chk (v5_0 - 1)).bind fun z73 => some (.inl (l4_1, z73)))) (some (.inr (l4_0, v5_0)))

def ref30_Type (n : Nat) (p_0 : List Int) : Option ((List Int)) :=
  (F.ref30_Cycles n p_0).bind fun y4 => ((loopN n (F.ref30_Type_b0 n y4) (([] : List Int), (p_0.length : Int))).bind fun o17 => match o17 with
    | (l4_0, v5_0) => some l4_0)

def ref30_Class_b0 (n : Nat) (cycles_1 : List Int) (y5 : (List (List Int))) : (List (List Int)) × Int → Option (((List (List Int)) × Int) ⊕ (((List (List Int)) × Int)))
  | (l5_0, v7_0) => cond (decide (v7_0 < (y5.length : Int))) ((get y5 v7_0).bind fun x29 => (F.ref30_Type n x29).bind fun y40 => (F.ref01_Ints n y40 cycles_1).bind fun y49 => cond y49 ((get y5 v7_0).bind fun x54 => (lim (l5_0.length + ([x54] : List (List Int)).length)).bind fun u71 => (chk (v7_0 + 1)).bind fun z78 => some (.inl ((l5_0 ++ ([x54] : List (List Int))), z78))) ((chk (v7_0 + 1)).bind fun z80 => some (.inl (l5_0, z80)))) (some (.inr (l5_0, v7_0)))

def ref30_Class (n : Nat) (nx_0 : Int) (cycles_1 : List Int) : Option ((List (List Int))) :=
  (F.ref30_All n nx_0 ([])).bind fun y5 => ((loopN n (F.ref30_Class_b0 n cycles_1 y5) (([] : List (List Int)), 0)).bind fun o17 => match o17 with
    | (l5_0, v7_0) => some l5_0)

def law30_PermClass_j1 (n : Nat) (nx_0 : Int) (cycles_1 : List Int) (y35 : (List (List Int)) × Int) (v29_1 : Bool) : Option (Bool) :=
  cond v29_1 (cond (decide (y35.2 = 2)) (some (decide ((y35.1.length : Int) = 0))) (some false)) ((F.ref30_Partition n cycles_1 nx_0).bind fun y54 => cond (!y54) (cond (decide (y35.2 = 1)) (some (decide ((y35.1.length : Int) = 0))) (some false)) (cond (decide (y35.2 = 0)) ((F.law30_plain n y35.1).bind fun y62 => (F.ref30_Class n nx_0 cycles_1).bind fun y71 => (F.ref01_Lists n y62 y71).bind fun y80 => some y80) (some false)))

def law30_PermClass_j0 (n : Nat) (nx_0 : Int) (cycles_1 : List Int) : Option (Bool) :=
  (F.perm_Class n nx_0 cycles_1).bind fun y35 => cond (decide (nx_0 < 1)) (F.law30_PermClass_j1 n nx_0 cycles_1 y35 true) (F.law30_PermClass_j1 n nx_0 cycles_1 y35 (decide (8 < nx_0)))

def law30_PermClass (n : Nat) (nx_0 : Int) (cycles_1 : List Int) : Option (Bool) :=
  (F.law30_awake n).bind fun y5 => cond (!y5) ((F.law30_awake n).bind fun y10 => some y10) (cond (decide (6 < nx_0)) (cond (decide (nx_0 ≤ 8)) ((F.law30_awake n).bind fun y17 => some y17) (cond (decide (30 < (cycles_1.length : Int))) ((F.law30_awake n).bind fun y23 => some y23) (F.law30_PermClass_j0 n nx_0 cycles_1))) (cond (decide (30 < (cycles_1.length : Int))) ((F.law30_awake n).bind fun y29 => some y29) (F.law30_PermClass_j0 n nx_0 cycles_1)))

def ref01_IsPerm_b0 (n : Nat) (l_0 : List Int) (nx_1 : Int) : Int → Option ((Int) ⊕ ((Int) ⊕ (Bool)))
  | v5_0 => cond (decide (v5_0 < nx_1)) ((F.ref01_In n l_0 v5_0).bind fun y21 => cond (!y21) (some (.inr (.inr false))) ((chk (v5_0 + 1)).bind fun z26 => some (.inl z26))) (some (.inr (.inl v5_0)))

def ref01_IsPerm (n : Nat) (l_0 : List Int) (nx_1 : Int) : Option (Bool) :=
  cond (!(decide ((l_0.length : Int) = nx_1))) (some false) (((loopN n (F.ref01_IsPerm_b0 n l_0 nx_1) 0).bind fun o9 => match o9 with
    | (.inl v5_0) => some true
    | (.inr q) => some q))


def ref30_Valid (n : Nat) (p_0 : List Int) : Option (Bool) :=
  (F.ref01_IsPerm n p_0 (p_0.length : Int)).bind fun y4 => some y4

def ref30_Mul_b0 (n : Nat) (p_0 : List Int) (q_1 : List Int) : (List Int) × Int → Option (((List Int) × Int) ⊕ (((List Int) × Int)))
  | (l5_0, v6_0) => cond (decide (v6_0 < (p_0.length : Int))) ((get p_0 v6_0).bind fun x19 => (get q_1 x19).bind fun x25 => (lim (l5_0.length + ([x25] : List Int).length)).bind fun u37 => (chk (v6_0 + 1)).bind fun z44 => some (.inl ((l5_0 ++ ([x25] : List Int)), z44))) (some (.inr (l5_0, v6_0)))

def ref30_Mul (n : Nat) (p_0 : List Int) (q_1 : List Int) : Option ((List Int)) :=
  ((loopN n (F.ref30_Mul_b0 n p_0 q_1) (([] : List Int), 0)).bind fun o8 => match o8 with
    | (l5_0, v6_0) => some l5_0)

def perm_Inverse_b0 (n : Nat) (p_0 : List Int) : Int × (List Int) → Option ((Int × (List Int)) ⊕ ((Int × (List Int))))
  | (v14_0, qf19_0) => cond (decide (v14_0 < (p_0.length : Int))) ((get p_0 v14_0).bind fun x35 => (get qf19_0 x35).bind fun x41 => (chk (v14_0 + 1)).bind fun z48 => some (.inl (z48, (qf19_0.set x35.toNat v14_0)))) (some (.inr (v14_0, qf19_0)))

def perm_Inverse (n : Nat) (p_0 : List Int) : Option ((List Int)) :=
  (F.perm_Valid n p_0).bind fun y5 => cond (!y5) (some ([])) ((pos (p_0.length : Int)).bind fun u12 => ((loopN n (F.perm_Inverse_b0 n p_0) (0, (List.replicate (p_0.length : Int).toNat (0 : Int)))).bind fun o23 => match o23 with
    | (v14_0, qf19_0) => some qf19_0))

def perm_Sign_b0 (n : Nat) (y13 : (List (List Int))) : Int × Int → Option ((Int × Int) ⊕ ((Int × Int)))
  | (v3_0, v12_0) => cond (decide (v12_0 < (y13.length : Int))) ((get y13 v12_0).bind fun x34 => (nz 2).bind fun u46 => cond (decide ((Int.tmod (x34.length : Int) 2) = 0)) ((chk (-v3_0)).bind fun z49 => (chk (v12_0 + 1)).bind fun z51 => some (.inl (z49, z51))) ((chk (v12_0 + 1)).bind fun z53 => some (.inl (v3_0, z53)))) (some (.inr (v3_0, v12_0)))

def perm_Sign (n : Nat) (p_0 : List Int) : Option (Int) :=
  (F.perm_Valid n p_0).bind fun y5 => cond (!y5) (some 0) ((F.perm_Cycles n p_0).bind fun y13 => ((loopN n (F.perm_Sign_b0 n y13) (1, 0)).bind fun o22 => match o22 with
    | (v3_0, v12_0) => some v3_0))

def ref30_Inverse_b0 (n : Nat) (p_0 : List Int) : Int × (List Int) → Option ((Int × (List Int)) ⊕ ((Int × (List Int))))
  | (v4_0, qf11_0) => cond (decide (v4_0 < (p_0.length : Int))) ((get p_0 v4_0).bind fun x25 => (get qf11_0 x25).bind fun x31 => (chk (v4_0 + 1)).bind fun z38 => some (.inl (z38, (qf11_0.set x25.toNat v4_0)))) (some (.inr (v4_0, qf11_0)))

def ref30_Inverse (n : Nat) (p_0 : List Int) : Option ((List Int)) :=
  (pos (p_0.length : Int)).bind fun u4 => ((loopN n (F.ref30_Inverse_b0 n p_0) (0, (List.replicate (p_0.length : Int).toNat (0 : Int)))).bind fun o14 => match o14 with
    | (v4_0, qf11_0) => some qf11_0)

def ref30_Sign_b1 (n : Nat) (p_0 : List Int) (v4_0 : Int) : Int × Int → Option ((Int × Int) ⊕ ((Int × Int)))
  | (v3_1, v5_1) => cond (decide (v5_1 < (p_0.length : Int))) ((get p_0 v4_0).bind fun x34 => (get p_0 v5_1).bind fun x41 => cond (decide (x41 < x34)) ((chk (0 - v3_1)).bind fun z50 => (chk (v5_1 + 1)).bind fun z52 => some (.inl (z50, z52))) ((chk (v5_1 + 1)).bind fun z54 => some (.inl (v3_1, z54)))) (some (.inr (v3_1, v5_1)))

def ref30_Sign_b0 (n : Nat) (p_0 : List Int) : Int × Int → Option ((Int × Int) ⊕ ((Int × Int)))
  | (v3_0, v4_0) => cond (decide (v4_0 < (p_0.length : Int))) ((chk (v4_0 + 1)).bind fun z18 => ((loopN n (F.ref30_Sign_b1 n p_0 v4_0) (v3_0, z18)).bind fun o20 => match o20 with
    | (v3_1, v5_1) => (chk (v4_0 + 1)).bind fun z58 => some (.inl (v3_1, z58)))) (some (.inr (v3_0, v4_0)))

def ref30_Sign (n : Nat) (p_0 : List Int) : Option (Int) :=
  ((loopN n (F.ref30_Sign_b0 n p_0) (1, 0)).bind fun o6 => match o6 with
    | (v3_0, v4_0) => some v3_0)

def law30_PermTells_j0 (n : Nat) (p_0 : List Int) (y27 : Bool) : Option (Bool) :=
  cond (!y27) ((F.perm_Inverse n p_0).bind fun y87 => cond (decide ((y87.length : Int) = 0)) ((F.perm_Cycles n p_0).bind fun y97 => cond (decide ((y97.length : Int) = 0)) ((F.perm_Type n p_0).bind fun y107 => cond (decide ((y107.length : Int) = 0)) ((F.perm_Sign n p_0).bind fun y117 => some (decide (y117 = 0))) (some false)) (some false)) (some false)) ((F.perm_Inverse n p_0).bind fun y122 => (F.ref30_Inverse n p_0).bind fun y131 => (F.slices_Equal_Perm_int n y122 y131).bind fun y140 => cond y140 ((F.perm_Cycles n p_0).bind fun y144 => (F.ref30_Cycles n p_0).bind fun y153 => (F.ref01_Lists n y144 y153).bind fun y162 => cond y162 ((F.perm_Type n p_0).bind fun y166 => (F.ref30_Type n p_0).bind fun y175 => (F.slices_Equal_Lint_int n y166 y175).bind fun y184 => cond y184 ((F.perm_Sign n p_0).bind fun y188 => (F.ref30_Sign n p_0).bind fun y192 => some (decide (y188 = y192))) (some false)) (some false)) (some false))

def law30_PermTells_j1 (n : Nat) (p_0 : List Int) (q_1 : List Int) (y27 : Bool) (y38 : (List Int) × Int) (v46_1 : Bool) : Option (Bool) :=
  cond v46_1 (cond (!(decide (y38.2 = 1))) (some false) (cond (!(decide ((y38.1.length : Int) = 0))) (some false) (F.law30_PermTells_j0 n p_0 y27))) (cond (!(decide (y38.2 = 0))) (some false) ((F.ref30_Mul n p_0 q_1).bind fun y67 => (F.slices_Equal_Perm_int n y38.1 y67).bind fun y76 => cond (!y76) (some false) (F.law30_PermTells_j0 n p_0 y27)))

def law30_PermTells (n : Nat) (p_0 : List Int) (q_1 : List Int) : Option (Bool) :=
  (F.law30_awake n).bind fun y6 => cond (!y6) ((F.law30_awake n).bind fun y11 => some y11) (cond (decide (30 < (p_0.length : Int))) ((F.law30_awake n).bind fun y17 => some y17) (cond (decide (30 < (q_1.length : Int))) ((F.law30_awake n).bind fun y23 => some y23) ((F.ref30_Valid n p_0).bind fun y27 => (F.perm_Valid n p_0).bind fun y32 => cond (!(y32 == y27)) (some false) ((F.perm_Mul n p_0 q_1).bind fun y38 => cond (!y27) (F.law30_PermTells_j1 n p_0 q_1 y27 y38 true) ((F.ref30_Valid n q_1).bind fun y52 => cond (!y52) (F.law30_PermTells_j1 n p_0 q_1 y27 y38 true) (F.law30_PermTells_j1 n p_0 q_1 y27 y38 (!(decide ((p_0.length : Int) = (q_1.length : Int))))))))))

def law30_PermGroup_b0 (n : Nat) (y117 : (List Int) × Int) : Int → Option ((Int) ⊕ ((Int) ⊕ (Bool)))
  | v89_0 => cond (decide (v89_0 < (y117.1.length : Int))) ((get y117.1 v89_0).bind fun x142 => cond (!(decide (v89_0 = x142))) (some (.inr (.inr false))) ((chk (v89_0 + 1)).bind fun z151 => some (.inl z151))) (some (.inr (.inl v89_0)))

def law30_PermGroup (n : Nat) (p_0 : List Int) (q_1 : List Int) (rx_2 : List Int) : Option (Bool) :=
  (F.law30_awake n).bind fun y7 => cond (!y7) ((F.law30_awake n).bind fun y13 => some y13) (cond (decide (30 < (p_0.length : Int))) ((F.law30_awake n).bind fun y19 => some y19) (cond (!(decide ((q_1.length : Int) = (p_0.length : Int)))) ((F.law30_awake n).bind fun y25 => some y25) (cond (!(decide ((rx_2.length : Int) = (p_0.length : Int)))) ((F.law30_awake n).bind fun y31 => some y31) ((F.perm_Valid n p_0).bind fun y34 => cond (!y34) ((F.law30_awake n).bind fun y40 => some y40) ((F.perm_Valid n q_1).bind fun y43 => cond (!y43) ((F.law30_awake n).bind fun y49 => some y49) ((F.perm_Valid n rx_2).bind fun y52 => cond (!y52) ((F.law30_awake n).bind fun y58 => some y58) ((F.perm_Mul n p_0 q_1).bind fun y62 => (F.perm_Mul n q_1 rx_2).bind fun y73 => (F.perm_Mul n y62.1 rx_2).bind fun y85 => (F.perm_Mul n p_0 y73.1).bind fun y96 => (F.perm_Inverse n p_0).bind fun y108 => (F.perm_Mul n p_0 y108).bind fun y117 => ((loopN n (F.law30_PermGroup_b0 n y117) 0).bind fun o130 => match o130 with
    | (.inl v89_0) => cond (decide (y62.2 = 0)) (cond (decide (y73.2 = 0)) (cond (decide (y85.2 = 0)) (cond (decide (y96.2 = 0)) (cond (decide (y117.2 = 0)) (cond (decide ((y117.1.length : Int) = (p_0.length : Int))) ((F.slices_Equal_Perm_int n y85.1 y96.1).bind fun y162 => cond y162 ((F.perm_Sign n y62.1).bind fun y166 => (F.perm_Sign n p_0).bind fun y170 => (F.perm_Sign n q_1).bind fun y174 => (chk (y170 * y174)).bind fun z178 => some (decide (y166 = z178))) (some false)) (some false)) (some false)) (some false)) (some false)) (some false)) (some false)
    | (.inr q) => some q))))))))

def law30_PermConjugates_b1 (n : Nat) (q_1 : List Int) (y66 : (List Int) × Int) (x140 : List Int) : Int → Option ((Int) ⊕ ((Int) ⊕ (Bool)))
  | v80_1 => cond (decide (v80_1 < (x140.length : Int))) ((get x140 v80_1).bind fun x164 => (get q_1 x164).bind fun x173 => (get y66.1 x173).bind fun x180 => (chk (v80_1 + 1)).bind fun z187 => (nz (x140.length : Int)).bind fun u189 => (get x140 (Int.tmod z187 (x140.length : Int))).bind fun x191 => (get q_1 x191).bind fun x198 => cond (!(decide (x180 = x198))) (some (.inr (.inr false))) ((chk (v80_1 + 1)).bind fun z207 => some (.inl z207))) (some (.inr (.inl v80_1)))

def law30_PermConjugates_b0 (n : Nat) (q_1 : List Int) (y66 : (List Int) × Int) (y119 : (List (List Int))) : Int → Option ((Int) ⊕ ((Int) ⊕ (Bool)))
  | v74_0 => cond (decide (v74_0 < (y119.length : Int))) ((get y119 v74_0).bind fun x140 => ((loopN n (F.law30_PermConjugates_b1 n q_1 y66 x140) 0).bind fun o152 => match o152 with
    | (.inl v80_1) => (chk (v74_0 + 1)).bind fun z211 => some (.inl z211)
    | (.inr q) => some (.inr (.inr q)))) (some (.inr (.inl v74_0)))

def law30_PermConjugates (n : Nat) (p_0 : List Int) (q_1 : List Int) : Option (Bool) :=
  (F.law30_awake n).bind fun y6 => cond (!y6) ((F.law30_awake n).bind fun y12 => some y12) (cond (decide (30 < (p_0.length : Int))) ((F.law30_awake n).bind fun y18 => some y18) (cond (!(decide ((q_1.length : Int) = (p_0.length : Int)))) ((F.law30_awake n).bind fun y24 => some y24) ((F.perm_Valid n p_0).bind fun y27 => cond (!y27) ((F.law30_awake n).bind fun y33 => some y33) ((F.perm_Valid n q_1).bind fun y36 => cond (!y36) ((F.law30_awake n).bind fun y42 => some y42) ((F.perm_Inverse n q_1).bind fun y46 => (F.perm_Mul n y46 p_0).bind fun y55 => (F.perm_Mul n y55.1 q_1).bind fun y66 => cond (!(decide (y55.2 = 0))) (some false) (cond (!(decide (y66.2 = 0))) (some false) ((F.perm_Type n y66.1).bind fun y83 => (F.perm_Type n p_0).bind fun y92 => (F.slices_Equal_Lint_int n y83 y92).bind fun y101 => cond (!y101) (some false) ((F.perm_Sign n y66.1).bind fun y106 => (F.perm_Sign n p_0).bind fun y110 => cond (!(decide (y106 = y110))) (some false) ((F.perm_Cycles n p_0).bind fun y119 => ((loopN n (F.law30_PermConjugates_b0 n q_1 y66 y119) 0).bind fun o128 => match o128 with
    | (.inl v74_0) => some true
    | (.inr q) => some q))))))))))

def law30_short_b0 (n : Nat) (l_0 : List (List Int)) : Int → Option ((Int) ⊕ ((Int) ⊕ (Bool)))
  | v7_0 => cond (decide (v7_0 < (l_0.length : Int))) ((get l_0 v7_0).bind fun x17 => cond (decide (30 < (x17.length : Int))) (some (.inr (.inr false))) ((chk (v7_0 + 1)).bind fun z31 => some (.inl z31))) (some (.inr (.inl v7_0)))

def law30_short (n : Nat) (l_0 : List (List Int)) : Option (Bool) :=
  ((loopN n (F.law30_short_b0 n l_0) 0).bind fun o5 => match o5 with
    | (.inl v7_0) => some (decide ((l_0.length : Int) ≤ 30))
    | (.inr q) => some q)

def perm_Transitive_b2 (n : Nat) (l_0 : List (List Int)) (v7_1 : Int) : (List Int) × Int × (List Bool) → Option (((List Int) × Int × (List Bool)) ⊕ (((List Int) × Int × (List Bool))))
  | (l6_2, v56_2, qf88_2) => cond (decide (v56_2 < (l_0.length : Int))) ((get l_0 v56_2).bind fun x131 => (get l6_2 v7_1).bind fun x143 => (get x131 x143).bind fun x149 => (get qf88_2 x149).bind fun x157 => cond (!x157) ((get qf88_2 x149).bind fun x165 => (lim (l6_2.length + ([x149] : List Int).length)).bind fun u178 => (chk (v56_2 + 1)).bind fun z185 => some (.inl ((l6_2 ++ ([x149] : List Int)), z185, (qf88_2.set x149.toNat true)))) ((chk (v56_2 + 1)).bind fun z187 => some (.inl (l6_2, z187, qf88_2)))) (some (.inr (l6_2, v56_2, qf88_2)))

def perm_Transitive_b1 (n : Nat) (l_0 : List (List Int)) : (List Int) × Int × (List Bool) → Option (((List Int) × Int × (List Bool)) ⊕ (((List Int) × Int × (List Bool))))
  | (l6_1, v7_1, qf88_1) => cond (decide (v7_1 < (l6_1.length : Int))) (((loopN n (F.perm_Transitive_b2 n l_0 v7_1) (l6_1, 0, qf88_1)).bind fun o119 => match o119 with
    | (l6_2, v56_2, qf88_2) => (chk (v7_1 + 1)).bind fun z191 => some (.inl (l6_2, z191, qf88_2)))) (some (.inr (l6_1, v7_1, qf88_1)))

def perm_Transitive_b0 (n : Nat) (l_0 : List (List Int)) : Int → Option ((Int) ⊕ ((Int) ⊕ (Bool)))
  | v23_0 => cond (decide (v23_0 < (l_0.length : Int))) ((get l_0 v23_0).bind fun x35 => (F.perm_Valid n x35).bind fun y47 => cond (!y47) (some (.inr (.inr false))) ((get l_0 0).bind fun x52 => cond (!(decide ((x35.length : Int) = (x52.length : Int)))) (some (.inr (.inr false))) ((chk (v23_0 + 1)).bind fun z65 => some (.inl z65)))) (some (.inr (.inl v23_0)))

def perm_Transitive (n : Nat) (l_0 : List (List Int)) : Option (Bool) :=
  cond (decide ((l_0.length : Int) = 0)) (some false) ((get l_0 0).bind fun x7 => cond (decide ((x7.length : Int) = 0)) (some false) (((loopN n (F.perm_Transitive_b0 n l_0) 0).bind fun o23 => match o23 with
    | (.inl v23_0) => (get l_0 0).bind fun x70 => (pos (x70.length : Int)).bind fun u81 => (get (List.replicate (x70.length : Int).toNat false) 0).bind fun x90 => ((loopN n (F.perm_Transitive_b1 n l_0) (([0] : List Int), 0, ((List.replicate (x70.length : Int).toNat false).set (0 : Int).toNat true))).bind fun o107 => match o107 with
    | (l6_1, v7_1, qf88_1) => some (decide ((l6_1.length : Int) = (((List.replicate (x70.length : Int).toNat false)).length : Int))))
    | (.inr q) => some q)))

def ref30_Transitive_b3 (n : Nat) (l_0 : List (List Int)) (v7_2 : Int) : Int × (List Bool) → Option ((Int × (List Bool)) ⊕ ((Int × (List Bool))))
  | (v8_3, qf116_3) => cond (decide (v8_3 < (l_0.length : Int))) ((get qf116_3 v7_2).bind fun x164 => cond x164 ((get l_0 v8_3).bind fun x171 => (get x171 v7_2).bind fun x182 => (get qf116_3 x182).bind fun x188 => (chk (v8_3 + 1)).bind fun z195 => some (.inl (z195, (qf116_3.set x182.toNat true)))) ((chk (v8_3 + 1)).bind fun z197 => some (.inl (z197, qf116_3)))) (some (.inr (v8_3, qf116_3)))

def ref30_Transitive_b2 (n : Nat) (l_0 : List (List Int)) (x97 : List Int) : Int × (List Bool) → Option ((Int × (List Bool)) ⊕ ((Int × (List Bool))))
  | (v7_2, qf116_2) => cond (decide (v7_2 < (x97.length : Int))) (((loopN n (F.ref30_Transitive_b3 n l_0 v7_2) (0, qf116_2)).bind fun o152 => match o152 with
    | (v8_3, qf116_3) => (chk (v7_2 + 1)).bind fun z201 => some (.inl (z201, qf116_3)))) (some (.inr (v7_2, qf116_2)))

def ref30_Transitive_b4 (n : Nat) (x97 : List Int) (qf116_1 : List Bool) : Int → Option ((Int) ⊕ ((Int) ⊕ (Bool)))
  | v9_4 => cond (decide (v9_4 < (x97.length : Int))) ((get qf116_1 v9_4).bind fun x223 => cond (!x223) (some (.inr (.inr false))) ((chk (v9_4 + 1)).bind fun z231 => some (.inl z231))) (some (.inr (.inl v9_4)))

def ref30_Transitive_b1 (n : Nat) (l_0 : List (List Int)) (x97 : List Int) : Int × (List Bool) → Option ((Int × (List Bool)) ⊕ ((Int × (List Bool))))
  | (v6_1, qf116_1) => cond (decide (v6_1 < (x97.length : Int))) (((loopN n (F.ref30_Transitive_b2 n l_0 x97) (0, qf116_1)).bind fun o140 => match o140 with
    | (v7_2, qf116_2) => (chk (v6_1 + 1)).bind fun z205 => some (.inl (z205, qf116_2)))) (some (.inr (v6_1, qf116_1)))

def ref30_Transitive_b0 (n : Nat) (l_0 : List (List Int)) : Int → Option ((Int) ⊕ ((Int) ⊕ (Bool)))
  | v3_0 => cond (decide (v3_0 < (l_0.length : Int))) ((get l_0 v3_0).bind fun x37 => (F.ref30_Valid n x37).bind fun y49 => cond (!y49) (some (.inr (.inr false))) ((get l_0 v3_0).bind fun x54 => (get l_0 0).bind fun x72 => cond (!(decide ((x54.length : Int) = (x72.length : Int)))) (some (.inr (.inr false))) ((chk (v3_0 + 1)).bind fun z92 => some (.inl z92)))) (some (.inr (.inl v3_0)))

def ref30_Transitive (n : Nat) (l_0 : List (List Int)) : Option (Bool) :=
  cond (decide ((l_0.length : Int) = 0)) (some false) ((get l_0 0).bind fun x7 => cond (decide ((x7.length : Int) = 0)) (some false) (((loopN n (F.ref30_Transitive_b0 n l_0) 0).bind fun o23 => match o23 with
    | (.inl v3_0) => (get l_0 0).bind fun x97 => (pos (x97.length : Int)).bind fun u109 => (get (List.replicate (x97.length : Int).toNat false) 0).bind fun x118 => ((loopN n (F.ref30_Transitive_b1 n l_0 x97) (0, ((List.replicate (x97.length : Int).toNat false).set (0 : Int).toNat true))).bind fun o128 => match o128 with
    | (v6_1, qf116_1) => ((loopN n (F.ref30_Transitive_b4 n x97 qf116_1) 0).bind fun o211 => match o211 with
    | (.inl v9_4) => some true
    | (.inr q) => some q))
    | (.inr q) => some q)))

def law30_PermTransitive_b0 (n : Nat) (l_0 : List (List Int)) (q_1 : List Int) : (List (List Int)) × Int → Option (((List (List Int)) × Int) ⊕ (((List (List Int)) × Int) ⊕ (Bool)))
  | (l6_0, v34_0) => cond (decide (v34_0 < (l_0.length : Int))) ((get l_0 v34_0).bind fun x66 => (F.perm_Valid n x66).bind fun y79 => cond (!y79) (some (.inr (.inr true))) ((F.perm_Valid n q_1).bind fun y84 => cond (!y84) (some (.inr (.inr true))) (cond (!(decide ((x66.length : Int) = (q_1.length : Int)))) (some (.inr (.inr true))) ((F.perm_Inverse n q_1).bind fun y93 => (F.perm_Mul n y93 x66).bind fun y102 => (F.perm_Mul n y102.1 q_1).bind fun y113 => cond (!(decide (y102.2 = 0))) (some (.inr (.inr false))) (cond (!(decide (y113.2 = 0))) (some (.inr (.inr false))) ((lim (l6_0.length + ([y113.1] : List (List Int)).length)).bind fun u136 => (chk (v34_0 + 1)).bind fun z143 => some (.inl ((l6_0 ++ ([y113.1] : List (List Int))), z143)))))))) (some (.inr (.inl (l6_0, v34_0))))

def law30_PermTransitive (n : Nat) (l_0 : List (List Int)) (q_1 : List Int) : Option (Bool) :=
  (F.law30_awake n).bind fun y6 => cond (!y6) ((F.law30_awake n).bind fun y11 => some y11) ((F.law30_short n l_0).bind fun y14 => cond (!y14) ((F.law30_awake n).bind fun y20 => some y20) (cond (decide (30 < (q_1.length : Int))) ((F.law30_awake n).bind fun y26 => some y26) ((F.perm_Transitive n l_0).bind fun y30 => (F.law30_plain n l_0).bind fun y35 => (F.ref30_Transitive n y35).bind fun y44 => cond (!(y30 == y44)) (some false) (((loopN n (F.law30_PermTransitive_b0 n l_0 q_1) (([] : List (List Int)), 0)).bind fun o54 => match o54 with
    | (.inl (l6_0, v34_0)) => (F.perm_Transitive n l6_0).bind fun y148 => some (y148 == y30)
    | (.inr q) => some q)))))

def perm_key_b0 (n : Nat) (p_0 : List Int) : (List Int) × Int → Option (((List Int) × Int) ⊕ (((List Int) × Int)))
  | (l3_0, v12_0) => cond (decide (v12_0 < (p_0.length : Int))) ((get p_0 v12_0).bind fun x28 => (lim (l3_0.length + ([(w8 x28), (w8 (x28 / 256)), (w8 (x28 / 65536)), (w8 (x28 / 16777216))] : List Int).length)).bind fun u40 => (chk (v12_0 + 1)).bind fun z47 => some (.inl ((l3_0 ++ ([(w8 x28), (w8 (x28 / 256)), (w8 (x28 / 65536)), (w8 (x28 / 16777216))] : List Int)), z47))) (some (.inr (l3_0, v12_0)))

def perm_key (n : Nat) (p_0 : List Int) : Option ((List Int)) :=
  (chk (4 * (p_0.length : Int))).bind fun z4 => (pos z4).bind fun u6 => ((loopN n (F.perm_key_b0 n p_0) (([] : List Int), 0)).bind fun o16 => match o16 with
    | (l3_0, v12_0) => some l3_0)

def perm_Conjugation_b5 (n : Nat) (x206 : List Int) (x241 : List Int) (x254 : List Int) : Int × (List Int) → Option ((Int × (List Int)) ⊕ ((Int × (List Int))))
  | (v116_5, qf188_5) => cond (decide (v116_5 < (x254.length : Int))) ((get x254 v116_5).bind fun x278 => (get x206 x278).bind fun x284 => (get x241 x284).bind fun x290 => (get qf188_5 v116_5).bind fun x296 => (chk (v116_5 + 1)).bind fun z303 => some (.inl (z303, (qf188_5.set v116_5.toNat x290)))) (some (.inr (v116_5, qf188_5)))

def perm_Conjugation_b4 (n : Nat) (l_0 : List (List Int)) (qf68_1 : List ((List Int) × Int)) (qf123_2 : List (List Int)) (x206 : List Int) : Int × (List Int) × (List Int) → Option ((Int × (List Int) × (List Int)) ⊕ ((Int × (List Int) × (List Int)) ⊕ ((List (List Int)) × Int)))
  | (v106_4, qf188_4, qf225_4) => cond (decide (v106_4 < (l_0.length : Int))) ((get l_0 v106_4).bind fun x241 => (get qf123_2 v106_4).bind fun x254 => ((loopN n (F.perm_Conjugation_b5 n x206 x241 x254) (0, qf188_4)).bind fun o266 => match o266 with
    | (v116_5, qf188_5) => (F.perm_key n qf188_5).bind fun y308 => (chk ((smget qf68_1 y308).getD 0)).bind fun z311 => cond (!(smget qf68_1 y308).isSome) (some (.inr (.inr ([], 12)))) ((get qf225_4 v106_4).bind fun x320 => (chk (v106_4 + 1)).bind fun z327 => some (.inl (z327, qf188_5, (qf225_4.set v106_4.toNat z311)))))) (some (.inr (.inl (v106_4, qf188_4, qf225_4))))

def perm_Conjugation_b3 (n : Nat) (l_0 : List (List Int)) (qf68_1 : List ((List Int) × Int)) (qf123_2 : List (List Int)) : (List (List Int)) × Int × (List Int) → Option (((List (List Int)) × Int × (List Int)) ⊕ (((List (List Int)) × Int × (List Int)) ⊕ ((List (List Int)) × Int)))
  | (l16_3, v97_3, qf188_3) => cond (decide (v97_3 < (l_0.length : Int))) ((get l_0 v97_3).bind fun x206 => (pos (l_0.length : Int)).bind fun u218 => ((loopN n (F.perm_Conjugation_b4 n l_0 qf68_1 qf123_2 x206) (0, qf188_3, (List.replicate (l_0.length : Int).toNat (0 : Int)))).bind fun o229 => match o229 with
    | (.inl (v106_4, qf188_4, qf225_4)) => (lim (l16_3.length + ([qf225_4] : List (List Int)).length)).bind fun u337 => (chk (v97_3 + 1)).bind fun z344 => some (.inl ((l16_3 ++ ([qf225_4] : List (List Int))), z344, qf188_4))
    | (.inr q) => some (.inr (.inr q)))) (some (.inr (.inl (l16_3, v97_3, qf188_3))))

def perm_Conjugation_b2 (n : Nat) (l_0 : List (List Int)) : Int × (List (List Int)) → Option ((Int × (List (List Int))) ⊕ ((Int × (List (List Int)))))
  | (v79_2, qf123_2) => cond (decide (v79_2 < (l_0.length : Int))) ((get l_0 v79_2).bind fun x138 => (F.perm_Inverse n x138).bind fun y149 => (get qf123_2 v79_2).bind fun x158 => (chk (v79_2 + 1)).bind fun z165 => some (.inl (z165, (qf123_2.set v79_2.toNat y149)))) (some (.inr (v79_2, qf123_2)))

def perm_Conjugation_b1 (n : Nat) (l_0 : List (List Int)) : Int × (List ((List Int) × Int)) → Option ((Int × (List ((List Int) × Int))) ⊕ ((Int × (List ((List Int) × Int))) ⊕ ((List (List Int)) × Int)))
  | (v55_1, qf68_1) => cond (decide (v55_1 < (l_0.length : Int))) ((get l_0 v55_1).bind fun x83 => (F.perm_key n x83).bind fun y95 => (chk ((smget qf68_1 y95).getD 0)).bind fun z100 => cond ((smget qf68_1 y95).isSome) (some (.inr (.inr ([], 14)))) ((nok (smget qf68_1 y95)).bind fun u108 => (chk (v55_1 + 1)).bind fun z111 => some (.inl (z111, (qf68_1 ++ [(y95, v55_1)]))))) (some (.inr (.inl (v55_1, qf68_1))))

def perm_Conjugation_b0 (n : Nat) (l_0 : List (List Int)) : Int → Option ((Int) ⊕ ((Int) ⊕ ((List (List Int)) × Int)))
  | v32_0 => cond (decide (v32_0 < (l_0.length : Int))) ((get l_0 v32_0).bind fun x26 => (F.perm_Valid n x26).bind fun y38 => cond (!y38) (some (.inr (.inr ([], 1)))) ((get l_0 0).bind fun x45 => cond (!(decide ((x26.length : Int) = (x45.length : Int)))) (some (.inr (.inr ([], 1)))) ((chk (v32_0 + 1)).bind fun z61 => some (.inl z61)))) (some (.inr (.inl v32_0)))

def perm_Conjugation (n : Nat) (l_0 : List (List Int)) : Option ((List (List Int)) × Int) :=
  cond (decide ((l_0.length : Int) = 0)) (some ([], 1)) (((loopN n (F.perm_Conjugation_b0 n l_0) 0).bind fun o14 => match o14 with
    | (.inl v32_0) => ((loopN n (F.perm_Conjugation_b1 n l_0) (0, ([] : List (List Int × Int)))).bind fun o71 => match o71 with
    | (.inl (v55_1, qf68_1)) => (pos (l_0.length : Int)).bind fun u116 => ((loopN n (F.perm_Conjugation_b2 n l_0) (0, (List.replicate (l_0.length : Int).toNat ([] : List Int)))).bind fun o126 => match o126 with
    | (v79_2, qf123_2) => (get l_0 0).bind fun x170 => (pos (x170.length : Int)).bind fun u181 => ((loopN n (F.perm_Conjugation_b3 n l_0 qf68_1 qf123_2) (([] : List (List Int)), 0, (List.replicate (x170.length : Int).toNat (0 : Int)))).bind fun o194 => match o194 with
    | (.inl (l16_3, v97_3, qf188_3)) => some (l16_3, 0)
    | (.inr q) => some q))
    | (.inr q) => some q)
    | (.inr q) => some q))

def quandle_idempotent_b0 (n : Nat) (t_0 : List (List Int)) : Int → Option ((Int) ⊕ ((Int) ⊕ (Bool)))
  | v6_0 => cond (decide (v6_0 < (t_0.length : Int))) ((get t_0 v6_0).bind fun x18 => (get x18 v6_0).bind fun x29 => cond (!(decide (x29 = v6_0))) (some (.inr (.inr false))) ((chk (v6_0 + 1)).bind fun z37 => some (.inl z37))) (some (.inr (.inl v6_0)))

def quandle_idempotent (n : Nat) (t_0 : List (List Int)) : Option (Bool) :=
  ((loopN n (F.quandle_idempotent_b0 n t_0) 0).bind fun o5 => match o5 with
    | (.inl v6_0) => some true
    | (.inr q) => some q)

def quandle_invertible_b1 (n : Nat) (t_0 : List (List Int)) (v8_0 : Int) : Int × (List Bool) → Option ((Int × (List Bool)) ⊕ ((Int × (List Bool)) ⊕ (Bool)))
  | (v13_1, qf20_1) => cond (decide (v13_1 < (t_0.length : Int))) ((get t_0 v13_1).bind fun x36 => (get x36 v8_0).bind fun x47 => (ixn 30 x47).bind fun u53 => (get qf20_1 x47).bind fun x55 => cond x55 (some (.inr (.inr false))) ((get t_0 v13_1).bind fun x60 => (get x60 v8_0).bind fun x71 => (ixn 30 x71).bind fun u77 => (get qf20_1 x71).bind fun x79 => (chk (v13_1 + 1)).bind fun z82 => some (.inl (z82, (qf20_1.set x71.toNat true))))) (some (.inr (.inl (v13_1, qf20_1))))

def quandle_invertible_b0 (n : Nat) (t_0 : List (List Int)) : Int → Option ((Int) ⊕ ((Int) ⊕ (Bool)))
  | v8_0 => cond (decide (v8_0 < (t_0.length : Int))) (((loopN n (F.quandle_invertible_b1 n t_0 v8_0) (0, (List.replicate 30 false))).bind fun o22 => match o22 with
    | (.inl (v13_1, qf20_1)) => (chk (v8_0 + 1)).bind fun z86 => some (.inl z86)
    | (.inr q) => some (.inr (.inr q)))) (some (.inr (.inl v8_0)))

def quandle_invertible (n : Nat) (t_0 : List (List Int)) : Option (Bool) :=
  ((loopN n (F.quandle_invertible_b0 n t_0) 0).bind fun o5 => match o5 with
    | (.inl v8_0) => some true
    | (.inr q) => some q)

def quandle_distributive_b2 (n : Nat) (t_0 : List (List Int)) (v8_0 : Int) (v13_1 : Int) : Int → Option ((Int) ⊕ ((Int) ⊕ (Bool)))
  | v18_2 => cond (decide (v18_2 < (t_0.length : Int))) ((get t_0 v8_0).bind fun x46 => (get x46 v13_1).bind fun x58 => (get t_0 x58).bind fun x65 => (get x65 v18_2).bind fun x77 => (get t_0 v8_0).bind fun x84 => (get x84 v18_2).bind fun x96 => (get t_0 x96).bind fun x103 => (get t_0 v13_1).bind fun x115 => (get x115 v18_2).bind fun x127 => (get x103 x127).bind fun x134 => cond (!(decide (x77 = x134))) (some (.inr (.inr false))) ((chk (v18_2 + 1)).bind fun z143 => some (.inl z143))) (some (.inr (.inl v18_2)))

def quandle_distributive_b1 (n : Nat) (t_0 : List (List Int)) (v8_0 : Int) : Int → Option ((Int) ⊕ ((Int) ⊕ (Bool)))
  | v13_1 => cond (decide (v13_1 < (t_0.length : Int))) (((loopN n (F.quandle_distributive_b2 n t_0 v8_0 v13_1) 0).bind fun o31 => match o31 with
    | (.inl v18_2) => (chk (v13_1 + 1)).bind fun z147 => some (.inl z147)
    | (.inr q) => some (.inr (.inr q)))) (some (.inr (.inl v13_1)))

def quandle_distributive_b0 (n : Nat) (t_0 : List (List Int)) : Int → Option ((Int) ⊕ ((Int) ⊕ (Bool)))
  | v8_0 => cond (decide (v8_0 < (t_0.length : Int))) (((loopN n (F.quandle_distributive_b1 n t_0 v8_0) 0).bind fun o18 => match o18 with
    | (.inl v13_1) => (chk (v8_0 + 1)).bind fun z151 => some (.inl z151)
    | (.inr q) => some (.inr (.inr q)))) (some (.inr (.inl v8_0)))

def quandle_distributive (n : Nat) (t_0 : List (List Int)) : Option (Bool) :=
  ((loopN n (F.quandle_distributive_b0 n t_0) 0).bind fun o5 => match o5 with
    | (.inl v8_0) => some true
    | (.inr q) => some q)

def quandle_Valid_b1 (n : Nat) (q_0 : List (List Int)) (x28 : List Int) : Int → Option ((Int) ⊕ ((Int) ⊕ (Bool)))
  | v30_1 => cond (decide (v30_1 < (x28.length : Int))) ((get x28 v30_1).bind fun x57 => cond (decide (x57 < 0)) (some (.inr (.inr false))) (cond (decide ((q_0.length : Int) ≤ x57)) (some (.inr (.inr false))) ((chk (v30_1 + 1)).bind fun z68 => some (.inl z68)))) (some (.inr (.inl v30_1)))

def quandle_Valid_b0 (n : Nat) (q_0 : List (List Int)) : Int → Option ((Int) ⊕ ((Int) ⊕ (Bool)))
  | v20_0 => cond (decide (v20_0 < (q_0.length : Int))) ((get q_0 v20_0).bind fun x28 => cond (!(decide ((x28.length : Int) = (q_0.length : Int)))) (some (.inr (.inr false))) (((loopN n (F.quandle_Valid_b1 n q_0 x28) 0).bind fun o45 => match o45 with
    | (.inl v30_1) => (chk (v20_0 + 1)).bind fun z72 => some (.inl z72)
    | (.inr q) => some (.inr (.inr q))))) (some (.inr (.inl v20_0)))

def quandle_Valid (n : Nat) (q_0 : List (List Int)) : Option (Bool) :=
  cond (decide ((q_0.length : Int) < 1)) (some false) (cond (decide (30 < (q_0.length : Int))) (some false) (((loopN n (F.quandle_Valid_b0 n q_0) 0).bind fun o16 => match o16 with
    | (.inl v20_0) => (F.quandle_idempotent n q_0).bind fun y77 => cond y77 ((F.quandle_invertible n q_0).bind fun y81 => cond y81 ((F.quandle_distributive n q_0).bind fun y85 => some y85) (some false)) (some false)
    | (.inr q) => some q)))


def law30_PermClosed_c1 (n : Nat) (x_0 : List Int) (u_1_0 : List Int) : Option (Bool) :=
  (F.slices_Equal_Perm_int n x_0 u_1_0).bind fun y6 => some y6

def slices_IndexFunc_Perm_Perm_law30_PermClosed_c1_b0 (n : Nat) (s_0 : List (List Int)) (f_1_0_0 : List Int) : Int → Option ((Int) ⊕ ((Int) ⊕ (Int)))
  | v8_0 => cond (decide (v8_0 < (s_0.length : Int))) ((get s_0 v8_0).bind fun x20 => (F.law30_PermClosed_c1 n x20 f_1_0_0).bind fun y31 => cond y31 (some (.inr (.inr v8_0))) ((chk (v8_0 + 1)).bind fun z36 => some (.inl z36))) (some (.inr (.inl v8_0)))

def slices_IndexFunc_Perm_Perm_law30_PermClosed_c1 (n : Nat) (s_0 : List (List Int)) (f_1_0_0 : List Int) : Option (Int) :=
  ((loopN n (F.slices_IndexFunc_Perm_Perm_law30_PermClosed_c1_b0 n s_0 f_1_0_0) 0).bind fun o7 => match o7 with
    | (.inl v8_0) => some (-1)
    | (.inr q) => some q)


def slices_ContainsFunc_Perm_Perm_law30_PermClosed_c1 (n : Nat) (s_0 : List (List Int)) (f_1_0_0 : List Int) : Option (Bool) :=
  (F.slices_IndexFunc_Perm_Perm_law30_PermClosed_c1 n s_0 f_1_0_0).bind fun y6 => some (decide (0 ≤ y6))

def law30_PermClosed_j0 (n : Nat) (p_0 : List Int) (y50 : (List (List Int)) × Int) (v44_0 : Bool) : Option (Bool) :=
  cond v44_0 (cond (decide (y50.2 = 0)) (some (decide (0 < (y50.1.length : Int)))) (some false)) ((F.perm_Conjugation n y50.1).bind fun y71 => cond (decide (y71.2 = 0)) (cond (decide ((y71.1.length : Int) = (y50.1.length : Int))) ((F.quandle_Valid n y71.1).bind fun y88 => cond y88 ((F.slices_ContainsFunc_Perm_Perm_law30_PermClosed_c1 n y50.1 p_0).bind fun y92 => some y92) (some false)) (some false)) (some false))

def law30_PermClosed (n : Nat) (p_0 : List Int) : Option (Bool) :=
  (F.law30_awake n).bind fun y8 => cond (!y8) ((F.law30_awake n).bind fun y14 => some y14) (cond (decide ((p_0.length : Int) < 1)) ((F.law30_awake n).bind fun y20 => some y20) (cond (decide (5 < (p_0.length : Int))) ((F.law30_awake n).bind fun y26 => some y26) ((F.perm_Valid n p_0).bind fun y29 => cond (!y29) ((F.law30_awake n).bind fun y35 => some y35) ((F.perm_Type n p_0).bind fun y41 => (F.perm_Class n (p_0.length : Int) y41).bind fun y50 => cond (!(decide (y50.2 = 0))) (F.law30_PermClosed_j0 n p_0 y50 true) (cond (decide ((y50.1.length : Int) = 0)) (F.law30_PermClosed_j0 n p_0 y50 true) (F.law30_PermClosed_j0 n p_0 y50 (decide (24 < (y50.1.length : Int)))))))))

end F
end Go.Proofs.Ytmlkiafidahnbaa
