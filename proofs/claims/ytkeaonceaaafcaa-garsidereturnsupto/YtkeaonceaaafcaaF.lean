/- The plain functions. -/
import Derived.Test.YtkeaonceaaafcaaRun
import Derived.Test.YtkeaonceaaafcaaMore
import Derived.Test.YtkeaonceaaafcaaCall
import Derived.Test.YtkeaonceaaafcaaNest
import Derived.Test.YtkeaonceaaafcaaRange
set_option linter.unusedVariables false
set_option linter.unusedSimpArgs false
namespace Go.Proofs.Ytkeaonceaaafcaa
open Ev
namespace F
def braid_Valid_b0 (n : Nat) (b_0_0 : Int) (b_0_1 : List Int) : Int → Option ((Int) ⊕ ((Int) ⊕ (Bool)))
  | v22_0 => cond (decide (v22_0 < (b_0_1.length : Int))) ((get b_0_1 v22_0).bind fun x29 => cond (decide (x29 = 0)) (some (.inr (.inr false))) ((chk (-b_0_0)).bind fun z38 => cond (decide (x29 ≤ z38)) (some (.inr (.inr false))) (cond (decide (b_0_0 ≤ x29)) (some (.inr (.inr false))) ((chk (v22_0 + 1)).bind fun z44 => some (.inl z44))))) (some (.inr (.inl v22_0)))

def braid_Valid (n : Nat) (b_0_0 : Int) (b_0_1 : List Int) : Option (Bool) :=
  cond (decide (b_0_0 < 1)) (some false) (cond (decide (10 < b_0_0)) (some false) (cond (decide (200 < (b_0_1.length : Int))) (some false) (((loopN n (F.braid_Valid_b0 n b_0_0 b_0_1) 0).bind fun o17 => match o17 with
    | (.inl v22_0) => some true
    | (.inr q) => some q))))

def garside_halfTwist_b0 (n : Nat) (nx_0 : Int) : Int × (List Int) → Option ((Int × (List Int)) ⊕ ((Int × (List Int))))
  | (v9_0, qf10_0) => cond (decide (v9_0 < (((List.replicate nx_0.toNat (0 : Int))).length : Int))) ((chk (nx_0 - 1)).bind fun z25 => (chk (z25 - v9_0)).bind fun z27 => (get qf10_0 v9_0).bind fun x29 => (chk (v9_0 + 1)).bind fun z36 => some (.inl (z36, (qf10_0.set v9_0.toNat z27)))) (some (.inr (v9_0, qf10_0)))

def garside_halfTwist (n : Nat) (nx_0 : Int) : Option ((List Int)) :=
  (pos nx_0).bind fun u3 => ((loopN n (F.garside_halfTwist_b0 n nx_0) (0, (List.replicate nx_0.toNat (0 : Int)))).bind fun o13 => match o13 with
    | (v9_0, qf10_0) => some qf10_0)

def garside_identity_b0 (n : Nat) (nx_0 : Int) : Int × (List Int) → Option ((Int × (List Int)) ⊕ ((Int × (List Int))))
  | (v9_0, qf10_0) => cond (decide (v9_0 < (((List.replicate nx_0.toNat (0 : Int))).length : Int))) ((get qf10_0 v9_0).bind fun x25 => (chk (v9_0 + 1)).bind fun z32 => some (.inl (z32, (qf10_0.set v9_0.toNat v9_0)))) (some (.inr (v9_0, qf10_0)))

def garside_identity (n : Nat) (nx_0 : Int) : Option ((List Int)) :=
  (pos nx_0).bind fun u3 => ((loopN n (F.garside_identity_b0 n nx_0) (0, (List.replicate nx_0.toNat (0 : Int)))).bind fun o13 => match o13 with
    | (v9_0, qf10_0) => some qf10_0)

def slices_Reverse_Perm_int_b0 (n : Nat) : Int × Int × (List Int) → Option ((Int × Int × (List Int)) ⊕ ((Int × Int × (List Int))))
  | (v2_0, v3_0, qf1_0) => cond (decide (v2_0 < v3_0)) ((get qf1_0 v3_0).bind fun x18 => (get qf1_0 v2_0).bind fun x25 => (get qf1_0 v2_0).bind fun x32 => (get (qf1_0.set v2_0.toNat x18) v3_0).bind fun x40 => (chk (v2_0 + 1)).bind fun z48 => (chk (v3_0 - 1)).bind fun z50 => some (.inl (z48, z50, ((qf1_0.set v2_0.toNat x18).set v3_0.toNat x25)))) (some (.inr (v2_0, v3_0, qf1_0)))

def slices_Reverse_Perm_int (n : Nat) (s_0 : List Int) : Option ((List Int)) :=
  (chk ((s_0.length : Int) - 1)).bind fun z3 => ((loopN n (F.slices_Reverse_Perm_int_b0 n) (0, z3, s_0)).bind fun o5 => match o5 with
    | (v2_0, v3_0, qf1_0) => some qf1_0)

def garside_turnAround_b0 (n : Nat) (p_0 : List Int) : Int × (List Int) → Option ((Int × (List Int)) ⊕ ((Int × (List Int))))
  | (v7_0, qf1_0) => cond (decide (v7_0 < (p_0.length : Int))) ((chk ((p_0.length : Int) - 1)).bind fun z19 => (get qf1_0 v7_0).bind fun x21 => (chk (z19 - x21)).bind fun z27 => (get qf1_0 v7_0).bind fun x29 => (chk (v7_0 + 1)).bind fun z36 => some (.inl (z36, (qf1_0.set v7_0.toNat z27)))) (some (.inr (v7_0, qf1_0)))

def garside_turnAround (n : Nat) (p_0 : List Int) : Option ((List Int)) :=
  (F.slices_Reverse_Perm_int n p_0).bind fun y3 => ((loopN n (F.garside_turnAround_b0 n p_0) (0, y3)).bind fun o7 => match o7 with
    | (v7_0, qf1_0) => some qf1_0)


def slices_Clone_Perm_int (n : Nat) (s_0 : List Int) : Option ((List Int)) :=
  (lim (([] : List Int).length + s_0.length)).bind fun u16 => some (([] : List Int) ++ s_0)

def perm_Valid_b0 (n : Nat) (p_0 : List Int) : Int × (List Bool) → Option ((Int × (List Bool)) ⊕ ((Int × (List Bool)) ⊕ (Bool)))
  | (v11_0, qf11_0) => cond (decide (v11_0 < (p_0.length : Int))) ((get p_0 v11_0).bind fun x26 => cond (decide (x26 < 0)) (some (.inr (.inr false))) (cond (decide ((p_0.length : Int) ≤ x26)) (some (.inr (.inr false))) ((get qf11_0 x26).bind fun x38 => cond x38 (some (.inr (.inr false))) ((get qf11_0 x26).bind fun x47 => (chk (v11_0 + 1)).bind fun z54 => some (.inl (z54, (qf11_0.set x26.toNat true))))))) (some (.inr (.inl (v11_0, qf11_0))))

def perm_Valid (n : Nat) (p_0 : List Int) : Option (Bool) :=
  (pos (p_0.length : Int)).bind fun u4 => ((loopN n (F.perm_Valid_b0 n p_0) (0, (List.replicate (p_0.length : Int).toNat false))).bind fun o14 => match o14 with
    | (.inl (v11_0, qf11_0)) => some true
    | (.inr q) => some q)

def perm_Inverse_b0 (n : Nat) (p_0 : List Int) : Int × (List Int) → Option ((Int × (List Int)) ⊕ ((Int × (List Int))))
  | (v14_0, qf19_0) => cond (decide (v14_0 < (p_0.length : Int))) ((get p_0 v14_0).bind fun x35 => (get qf19_0 x35).bind fun x41 => (chk (v14_0 + 1)).bind fun z48 => some (.inl (z48, (qf19_0.set x35.toNat v14_0)))) (some (.inr (v14_0, qf19_0)))

def perm_Inverse (n : Nat) (p_0 : List Int) : Option ((List Int)) :=
  (F.perm_Valid n p_0).bind fun y5 => cond (!y5) (some ([])) ((pos (p_0.length : Int)).bind fun u12 => ((loopN n (F.perm_Inverse_b0 n p_0) (0, (List.replicate (p_0.length : Int).toNat (0 : Int)))).bind fun o23 => match o23 with
    | (v14_0, qf19_0) => some qf19_0))

def garside_moveLetters_b0 (n : Nat) (after_1 : List Int) : Bool × Int × (List Int) × (List Int) → Option ((Bool × Int × (List Int) × (List Int)) ⊕ ((Bool × Int × (List Int) × (List Int))))
  | (v5_0, v7_0, qf2_0, qf11_0) => cond (decide (v7_0 < (after_1.length : Int))) ((chk (v7_0 - 1)).bind fun z31 => (get qf2_0 z31).bind fun x33 => (get qf2_0 v7_0).bind fun x40 => cond (decide (x33 < x40)) ((chk (v7_0 + 1)).bind fun z50 => some (.inl (v5_0, z50, qf2_0, qf11_0))) ((chk (v7_0 - 1)).bind fun z52 => (get qf11_0 z52).bind fun x54 => (get qf11_0 v7_0).bind fun x61 => cond (decide (x61 < x54)) ((chk (v7_0 + 1)).bind fun z71 => some (.inl (v5_0, z71, qf2_0, qf11_0))) ((chk (v7_0 - 1)).bind fun z76 => (get qf2_0 v7_0).bind fun x78 => (chk (v7_0 - 1)).bind fun z85 => (get qf2_0 z85).bind fun x87 => (get qf2_0 z76).bind fun x94 => (get (qf2_0.set z76.toNat x78) v7_0).bind fun x102 => (chk (v7_0 - 1)).bind fun z113 => (get qf11_0 v7_0).bind fun x115 => (chk (v7_0 - 1)).bind fun z122 => (get qf11_0 z122).bind fun x124 => (get qf11_0 z113).bind fun x131 => (get (qf11_0.set z113.toNat x115) v7_0).bind fun x139 => (chk (v7_0 - 1)).bind fun z148 => some (.inl (true, (max 1 z148), ((qf2_0.set z76.toNat x78).set v7_0.toNat x87), ((qf11_0.set z113.toNat x115).set v7_0.toNat x124)))))) (some (.inr (v5_0, v7_0, qf2_0, qf11_0)))

def garside_moveLetters (n : Nat) (before_0 : List Int) (after_1 : List Int) : Option (Bool × (List Int) × (List Int)) :=
  (F.perm_Inverse n before_0).bind fun y6 => ((loopN n (F.garside_moveLetters_b0 n after_1) (false, 1, after_1, y6)).bind fun o17 => match o17 with
    | (v5_0, v7_0, qf2_0, qf11_0) => (F.perm_Inverse n qf11_0).bind fun y153 => some (v5_0, (y153.take (min y153.length before_0.length) ++ before_0.drop (min y153.length before_0.length)), qf2_0))


def cmp_isNaN_int (n : Nat) (x_0 : Int) : Option (Bool) :=
  some (!(decide (x_0 = x_0)))


def cmp_Less_int (n : Nat) (x_0 : Int) (y_1 : Int) : Option (Bool) :=
  (F.cmp_isNaN_int n x_0).bind fun y3 => cond y3 ((F.cmp_isNaN_int n y_1).bind fun y7 => cond (!y7) (some true) (some (decide (x_0 < y_1)))) (some (decide (x_0 < y_1)))

def slices_IsSorted_Perm_int_b0 (n : Nat) (x_0 : List Int) : Int → Option ((Int) ⊕ ((Int) ⊕ (Bool)))
  | v3_0 => cond (decide (0 < v3_0)) ((get x_0 v3_0).bind fun x21 => (chk (v3_0 - 1)).bind fun z28 => (get x_0 z28).bind fun x30 => (F.cmp_Less_int n x21 x30).bind fun y37 => cond y37 (some (.inr (.inr false))) ((chk (v3_0 - 1)).bind fun z42 => some (.inl z42))) (some (.inr (.inl v3_0)))

def slices_IsSorted_Perm_int (n : Nat) (x_0 : List Int) : Option (Bool) :=
  (chk ((x_0.length : Int) - 1)).bind fun z5 => ((loopN n (F.slices_IsSorted_Perm_int_b0 n x_0) z5).bind fun o7 => match o7 with
    | (.inl v3_0) => some true
    | (.inr q) => some q)

def garside_settle_b1 (n : Nat) : Bool × Int × (List (List Int)) → Option ((Bool × Int × (List (List Int))) ⊕ ((Bool × Int × (List (List Int)))))
  | (v3_1, v4_1, qf1_1) => cond (decide (0 < v4_1)) ((chk (v4_1 - 1)).bind fun z31 => (get qf1_1 z31).bind fun x33 => (get qf1_1 v4_1).bind fun x48 => (F.garside_moveLetters n x33 x48).bind fun y64 => cond y64.1 ((chk (v4_1 - 1)).bind fun z69 => some (.inl (true, z69, ((qf1_1.set z31.toNat y64.2.1).set v4_1.toNat y64.2.2)))) ((chk (v4_1 - 1)).bind fun z71 => some (.inl (v3_1, z71, ((qf1_1.set z31.toNat y64.2.1).set v4_1.toNat y64.2.2))))) (some (.inr (v3_1, v4_1, qf1_1)))

def garside_settle_b2 (n : Nat) : (List (List Int)) → Option (((List (List Int))) ⊕ (((List (List Int)))))
  | l0_2 => cond (decide (0 < (l0_2.length : Int))) ((chk ((l0_2.length : Int) - 1)).bind fun z91 => (get l0_2 z91).bind fun x93 => (F.slices_IsSorted_Perm_int n x93).bind fun y107 => cond y107 ((chk ((l0_2.length : Int) - 1)).bind fun z112 => (cut 0 z112 l0_2.length).bind fun u114 => some (.inl (l0_2.take z112.toNat))) (some (.inr l0_2))) (some (.inr l0_2))

def garside_settle_b0 (n : Nat) (factors_0 : List (List Int)) : (List (List Int)) → Option (((List (List Int))) ⊕ (((List (List Int)))))
  | qf1_0 => (chk ((factors_0.length : Int) - 1)).bind fun z15 => ((loopN n (F.garside_settle_b1 n) (false, z15, qf1_0)).bind fun o17 => match o17 with
    | (v3_1, v4_1, qf1_1) => cond v3_1 (some (.inl qf1_1)) (some (.inr qf1_1)))

def garside_settle (n : Nat) (factors_0 : List (List Int)) : Option ((List (List Int))) :=
  ((loopN n (F.garside_settle_b0 n factors_0) factors_0).bind fun o5 => match o5 with
    | qf1_0 => ((loopN n (F.garside_settle_b2 n) qf1_0).bind fun o81 => match o81 with
    | l0_2 => some l0_2))

def slices_Equal_Perm_int_b0 (n : Nat) (s1_0 : List Int) (s2_1 : List Int) : Int → Option ((Int) ⊕ ((Int) ⊕ (Bool)))
  | v13_0 => cond (decide (v13_0 < (s1_0.length : Int))) ((get s1_0 v13_0).bind fun x25 => (get s2_1 v13_0).bind fun x32 => cond (!(decide (x25 = x32))) (some (.inr (.inr false))) ((chk (v13_0 + 1)).bind fun z41 => some (.inl z41))) (some (.inr (.inl v13_0)))

def slices_Equal_Perm_int (n : Nat) (s1_0 : List Int) (s2_1 : List Int) : Option (Bool) :=
  cond (!(decide ((s1_0.length : Int) = (s2_1.length : Int)))) (some false) (((loopN n (F.slices_Equal_Perm_int_b0 n s1_0 s2_1) 0).bind fun o10 => match o10 with
    | (.inl v13_0) => some true
    | (.inr q) => some q))

def garside_Form_b3 (n : Nat) (y25 : (List Int)) : Int × (List (List Int)) → Option ((Int × (List (List Int))) ⊕ ((Int × (List (List Int)))))
  | (bf21_1_3, kf21_2_3) => cond (decide (0 < (kf21_2_3.length : Int))) ((get kf21_2_3 0).bind fun x201 => (F.slices_Equal_Perm_int n x201 y25).bind fun y215 => cond y215 ((chk (bf21_1_3 + 1)).bind fun z221 => (cut 1 (kf21_2_3.length : Int) kf21_2_3.length).bind fun u224 => some (.inl (z221, (kf21_2_3.drop (1 : Int).toNat)))) (some (.inr (bf21_1_3, kf21_2_3)))) (some (.inr (bf21_1_3, kf21_2_3)))

def garside_Form_j1 (n : Nat) (y25 : (List Int)) (v25_0 : Int) (l8_1 : List Int) (v9_1 : Int) (v37_1 : Bool) (bf21_1_1 : Int) (qFf21_2_0_1 : List (List Int)) : Option ((Int × Int × (List (List Int))) ⊕ ((Int × Int × (List (List Int))))) :=
  (chk (v9_1 - 1)).bind fun z130 => (get l8_1 v9_1).bind fun x132 => (chk (v9_1 - 1)).bind fun z139 => (get l8_1 z139).bind fun x141 => (get l8_1 z130).bind fun x148 => (get (l8_1.set z130.toNat x132) v9_1).bind fun x156 => (lim (qFf21_2_0_1.length + 1)).bind fun u171 => (F.garside_settle n (qFf21_2_0_1 ++ [((l8_1.set z130.toNat x132).set v9_1.toNat x141)])).bind fun y179 => ((loopN n (F.garside_Form_b3 n y25) (bf21_1_1, y179)).bind fun o191 => match o191 with
    | (bf21_1_3, kf21_2_3) => (chk (v25_0 + 1)).bind fun z235 => some (.inl (z235, bf21_1_3, kf21_2_3)))

def garside_Form_b2 (n : Nat) (kf21_2_0 : List (List Int)) : Int × (List (List Int)) → Option ((Int × (List (List Int))) ⊕ ((Int × (List (List Int)))))
  | (v45_2, qFf21_2_0_2) => cond (decide (v45_2 < (kf21_2_0.length : Int))) ((get qFf21_2_0_2 v45_2).bind fun x91 => (F.garside_turnAround n x91).bind fun y105 => (chk (v45_2 + 1)).bind fun z109 => some (.inl (z109, (qFf21_2_0_2.set v45_2.toNat y105)))) (some (.inr (v45_2, qFf21_2_0_2)))

def garside_Form_b0 (n : Nat) (b_0_0 : Int) (b_0_1 : List Int) (y25 : (List Int)) : Int × Int × (List (List Int)) → Option ((Int × Int × (List (List Int))) ⊕ ((Int × Int × (List (List Int)))))
  | (v25_0, bf21_1_0, kf21_2_0) => cond (decide (v25_0 < (b_0_1.length : Int))) ((get b_0_1 v25_0).bind fun x49 => (F.garside_identity n b_0_0).bind fun y56 => (chk (-x49)).bind fun z66 => cond (decide (x49 < 0)) ((chk (bf21_1_0 - 1)).bind fun z73 => ((loopN n (F.garside_Form_b2 n kf21_2_0) (0, kf21_2_0)).bind fun o79 => match o79 with
    | (v45_2, qFf21_2_0_2) => (F.slices_Clone_Perm_int n y25).bind fun y114 => (chk (b_0_0 - (max x49 z66))).bind fun z123 => F.garside_Form_j1 n y25 v25_0 y114 z123 (decide (x49 < 0)) z73 qFf21_2_0_2)) (F.garside_Form_j1 n y25 v25_0 y56 (max x49 z66) (decide (x49 < 0)) bf21_1_0 kf21_2_0)) (some (.inr (v25_0, bf21_1_0, kf21_2_0)))

def garside_Form (n : Nat) (b_0_0 : Int) (b_0_1 : List Int) : Option (Int × Int × (List (List Int)) × Int) :=
  (F.braid_Valid n b_0_0 b_0_1).bind fun y11 => cond (!y11) (some (0, 0, [], 1)) ((F.garside_halfTwist n b_0_0).bind fun y25 => ((loopN n (F.garside_Form_b0 n b_0_0 b_0_1 y25) (0, 0, ([] : List (List Int)))).bind fun o37 => match o37 with
    | (v25_0, bf21_1_0, kf21_2_0) => some (b_0_0, bf21_1_0, kf21_2_0, 0)))


def law34_awake (n : Nat) : Option (Bool) :=
  (F.garside_Form n 3 ([1, 2, 1] : List Int)).bind fun y9 => (F.garside_Form n 3 ([2, 1, 2] : List Int)).bind fun y32 => cond (decide (y9.2.2.2 = 0)) (cond (decide (y32.2.2.2 = 0)) (cond (decide (y9.2.1 = 1)) (cond (decide (y32.2.1 = 1)) (cond (decide ((y9.2.2.1.length : Int) = 0)) (cond (decide ((y32.2.2.1.length : Int) = 0)) (some (decide (y9.1 = 3))) (some false)) (some false)) (some false)) (some false)) (some false)) (some false)


def law34_zero (n : Nat) (nx_0_0 : Int) (nx_0_1 : Int) (nx_0_2 : List (List Int)) : Option (Bool) :=
  cond (decide (nx_0_0 = 0)) (cond (decide (nx_0_1 = 0)) (some (decide ((nx_0_2.length : Int) = 0))) (some false)) (some false)

def law34_plain_b0 (n : Nat) (l_0 : List (List Int)) : (List (List Int)) × Int → Option (((List (List Int)) × Int) ⊕ (((List (List Int)) × Int)))
  | (l3_0, v8_0) => cond (decide (v8_0 < (l_0.length : Int))) ((get l_0 v8_0).bind fun x19 => (lim (l3_0.length + ([x19] : List (List Int)).length)).bind fun u36 => (chk (v8_0 + 1)).bind fun z43 => some (.inl ((l3_0 ++ ([x19] : List (List Int))), z43))) (some (.inr (l3_0, v8_0)))

def law34_plain (n : Nat) (l_0 : List (List Int)) : Option ((List (List Int))) :=
  ((loopN n (F.law34_plain_b0 n l_0) (([] : List (List Int)), 0)).bind fun o7 => match o7 with
    | (l3_0, v8_0) => some l3_0)

def ref01_In_b0 (n : Nat) (l_0 : List Int) (x_1 : Int) : Int → Option ((Int) ⊕ ((Int) ⊕ (Bool)))
  | v5_0 => cond (decide (v5_0 < (l_0.length : Int))) ((get l_0 v5_0).bind fun x17 => cond (decide (x17 = x_1)) (some (.inr (.inr true))) ((chk (v5_0 + 1)).bind fun z25 => some (.inl z25))) (some (.inr (.inl v5_0)))

def ref01_In (n : Nat) (l_0 : List Int) (x_1 : Int) : Option (Bool) :=
  ((loopN n (F.ref01_In_b0 n l_0 x_1) 0).bind fun o5 => match o5 with
    | (.inl v5_0) => some false
    | (.inr q) => some q)

def ref01_IsPerm_b0 (n : Nat) (l_0 : List Int) (nx_1 : Int) : Int → Option ((Int) ⊕ ((Int) ⊕ (Bool)))
  | v5_0 => cond (decide (v5_0 < nx_1)) ((F.ref01_In n l_0 v5_0).bind fun y21 => cond (!y21) (some (.inr (.inr false))) ((chk (v5_0 + 1)).bind fun z26 => some (.inl z26))) (some (.inr (.inl v5_0)))

def ref01_IsPerm (n : Nat) (l_0 : List Int) (nx_1 : Int) : Option (Bool) :=
  cond (!(decide ((l_0.length : Int) = nx_1))) (some false) (((loopN n (F.ref01_IsPerm_b0 n l_0 nx_1) 0).bind fun o9 => match o9 with
    | (.inl v5_0) => some true
    | (.inr q) => some q))


def ref30_Valid (n : Nat) (p_0 : List Int) : Option (Bool) :=
  (F.ref01_IsPerm n p_0 (p_0.length : Int)).bind fun y4 => some y4

def ref34_Letters_b0 (n : Nat) (p_0 : List Int) : (List Int) × Int → Option (((List Int) × Int) ⊕ (((List Int) × Int)))
  | (l3_0, v4_0) => cond (decide (v4_0 < (p_0.length : Int))) ((chk (v4_0 - 1)).bind fun z21 => (get p_0 z21).bind fun x23 => (get p_0 v4_0).bind fun x30 => cond (decide (x30 < x23)) ((lim (l3_0.length + ([v4_0] : List Int).length)).bind fun u45 => (chk (v4_0 + 1)).bind fun z52 => some (.inl ((l3_0 ++ ([v4_0] : List Int)), z52))) ((chk (v4_0 + 1)).bind fun z54 => some (.inl (l3_0, z54)))) (some (.inr (l3_0, v4_0)))

def ref34_Letters (n : Nat) (p_0 : List Int) : Option ((List Int)) :=
  ((loopN n (F.ref34_Letters_b0 n p_0) (([] : List Int), 1)).bind fun o7 => match o7 with
    | (l3_0, v4_0) => some l3_0)

def ref30_Inverse_b0 (n : Nat) (p_0 : List Int) : Int × (List Int) → Option ((Int × (List Int)) ⊕ ((Int × (List Int))))
  | (v4_0, qf11_0) => cond (decide (v4_0 < (p_0.length : Int))) ((get p_0 v4_0).bind fun x25 => (get qf11_0 x25).bind fun x31 => (chk (v4_0 + 1)).bind fun z38 => some (.inl (z38, (qf11_0.set x25.toNat v4_0)))) (some (.inr (v4_0, qf11_0)))

def ref30_Inverse (n : Nat) (p_0 : List Int) : Option ((List Int)) :=
  (pos (p_0.length : Int)).bind fun u4 => ((loopN n (F.ref30_Inverse_b0 n p_0) (0, (List.replicate (p_0.length : Int).toNat (0 : Int)))).bind fun o14 => match o14 with
    | (v4_0, qf11_0) => some qf11_0)

def ref34_contains_b0 (n : Nat) (l_0 : List Int) (x_1 : Int) : Int → Option ((Int) ⊕ ((Int) ⊕ (Bool)))
  | v5_0 => cond (decide (v5_0 < (l_0.length : Int))) ((get l_0 v5_0).bind fun x17 => cond (decide (x17 = x_1)) (some (.inr (.inr true))) ((chk (v5_0 + 1)).bind fun z25 => some (.inl z25))) (some (.inr (.inl v5_0)))

def ref34_contains (n : Nat) (l_0 : List Int) (x_1 : Int) : Option (Bool) :=
  ((loopN n (F.ref34_contains_b0 n l_0 x_1) 0).bind fun o5 => match o5 with
    | (.inl v5_0) => some false
    | (.inr q) => some q)

def ref34_Valid_b2 (n : Nat) (y87 : (List Int)) (y119 : (List Int)) : Int → Option ((Int) ⊕ ((Int) ⊕ (Bool)))
  | v11_2 => cond (decide (v11_2 < (y87.length : Int))) ((get y87 v11_2).bind fun x142 => (F.ref34_contains n y119 x142).bind fun y148 => cond (!y148) (some (.inr (.inr false))) ((chk (v11_2 + 1)).bind fun z153 => some (.inl z153))) (some (.inr (.inl v11_2)))

def ref34_Valid_b1 (n : Nat) (strands_0 : Int) (factors_2 : List (List Int)) : Int → Option ((Int) ⊕ ((Int) ⊕ (Bool)))
  | v7_1 => cond (decide (v7_1 < (factors_2.length : Int))) ((get factors_2 v7_1).bind fun x36 => cond (!(decide ((x36.length : Int) = strands_0))) (some (.inr (.inr false))) ((F.ref30_Valid n x36).bind fun y51 => cond (!y51) (some (.inr (.inr false))) ((F.ref34_Letters n x36).bind fun y56 => cond (decide ((y56.length : Int) = 0)) (some (.inr (.inr false))) ((F.ref34_Letters n x36).bind fun y67 => (chk (strands_0 - 1)).bind fun z76 => cond (decide ((y67.length : Int) = z76)) (some (.inr (.inr false))) (cond (decide (v7_1 = 0)) ((chk (v7_1 + 1)).bind fun z84 => some (.inl z84)) ((F.ref34_Letters n x36).bind fun y87 => (chk (v7_1 - 1)).bind fun z97 => (get factors_2 z97).bind fun x99 => (F.ref30_Inverse n x99).bind fun y110 => (F.ref34_Letters n y110).bind fun y119 => ((loopN n (F.ref34_Valid_b2 n y87 y119) 0).bind fun o130 => match o130 with
    | (.inl v11_2) => (chk (v7_1 + 1)).bind fun z157 => some (.inl z157)
    | (.inr q) => some (.inr (.inr q))))))))) (some (.inr (.inl v7_1)))

def ref34_Valid_j0 (n : Nat) (strands_0 : Int) (factors_2 : List (List Int)) : Option (Bool) :=
  ((loopN n (F.ref34_Valid_b1 n strands_0 factors_2) 0).bind fun o24 => match o24 with
    | (.inl v7_1) => some true
    | (.inr q) => some q)

def ref34_Valid (n : Nat) (strands_0 : Int) (power_1 : Int) (factors_2 : List (List Int)) : Option (Bool) :=
  cond (decide (strands_0 < 1)) (some false) (cond (decide (10 < strands_0)) (some false) (cond (decide (power_1 < (-200))) (some false) (cond (decide (200 < power_1)) (some false) (cond (decide (strands_0 = 1)) (cond (!(decide (power_1 = 0))) (some false) (cond (decide (400 < (factors_2.length : Int))) (some false) (F.ref34_Valid_j0 n strands_0 factors_2))) (cond (decide (400 < (factors_2.length : Int))) (some false) (F.ref34_Valid_j0 n strands_0 factors_2))))))

def ref21_Reduce_b0 (n : Nat) : (List Int) × Int → Option (((List Int) × Int) ⊕ (((List Int) × Int)))
  | (l3_0, v4_0) => (chk (v4_0 + 1)).bind fun z28 => cond (decide (z28 < (l3_0.length : Int))) ((get l3_0 v4_0).bind fun x34 => (chk (v4_0 + 1)).bind fun z41 => (get l3_0 z41).bind fun x43 => (chk (-x43)).bind fun z50 => cond (decide (x34 = z50)) ((cut 0 v4_0 l3_0.length).bind fun u63 => (lim (([] : List Int).length + ((l3_0.drop (0 : Int).toNat).take (v4_0.toNat - (0 : Int).toNat)).length)).bind fun u72 => (chk (v4_0 + 2)).bind fun z79 => (cut z79 (l3_0.length : Int) l3_0.length).bind fun u81 => (lim ((([] : List Int) ++ ((l3_0.drop (0 : Int).toNat).take (v4_0.toNat - (0 : Int).toNat))).length + ((l3_0.drop z79.toNat).take ((l3_0.length : Int).toNat - z79.toNat)).length)).bind fun u90 => some (.inl (((([] : List Int) ++ ((l3_0.drop (0 : Int).toNat).take (v4_0.toNat - (0 : Int).toNat))) ++ ((l3_0.drop z79.toNat).take ((l3_0.length : Int).toNat - z79.toNat))), 0))) ((chk (v4_0 + 1)).bind fun z97 => some (.inl (l3_0, z97)))) (some (.inr (l3_0, v4_0)))

def ref21_Reduce (n : Nat) (wx_0 : List Int) : Option ((List Int)) :=
  (lim (([] : List Int).length + wx_0.length)).bind fun u10 => ((loopN n (F.ref21_Reduce_b0 n) ((([] : List Int) ++ wx_0), 0)).bind fun o19 => match o19 with
    | (l3_0, v4_0) => some l3_0)

def ref21_Inverse_b0 (n : Nat) (wx_0 : List Int) : (List Int) × Int → Option (((List Int) × Int) ⊕ (((List Int) × Int)))
  | (l3_0, v4_0) => cond (decide (0 ≤ v4_0)) ((get wx_0 v4_0).bind fun x20 => (chk (-x20)).bind fun z26 => (lim (l3_0.length + ([z26] : List Int).length)).bind fun u34 => (chk (v4_0 - 1)).bind fun z41 => some (.inl ((l3_0 ++ ([z26] : List Int)), z41))) (some (.inr (l3_0, v4_0)))

def ref21_Inverse (n : Nat) (wx_0 : List Int) : Option ((List Int)) :=
  (chk ((wx_0.length : Int) - 1)).bind fun z6 => ((loopN n (F.ref21_Inverse_b0 n wx_0) (([] : List Int), z6)).bind fun o9 => match o9 with
    | (l3_0, v4_0) => (F.ref21_Reduce n l3_0).bind fun y46 => some y46)

def ref21_Substitute_b0 (n : Nat) (wx_0 : List Int) (images_1 : List (List Int)) : (List Int) × Int → Option (((List Int) × Int) ⊕ (((List Int) × Int)))
  | (l5_0, v6_0) => cond (decide (v6_0 < (wx_0.length : Int))) ((get wx_0 v6_0).bind fun x20 => cond (decide (0 < x20)) ((get wx_0 v6_0).bind fun x27 => (chk (x27 - 1)).bind fun z33 => (get images_1 z33).bind fun x35 => (lim (l5_0.length + x35.length)).bind fun u46 => (chk (v6_0 + 1)).bind fun z53 => some (.inl ((l5_0 ++ x35), z53))) ((get wx_0 v6_0).bind fun x55 => (chk (-x55)).bind fun z61 => (chk (z61 - 1)).bind fun z63 => (get images_1 z63).bind fun x65 => (F.ref21_Inverse n x65).bind fun y76 => (lim (l5_0.length + y76.length)).bind fun u85 => (chk (v6_0 + 1)).bind fun z92 => some (.inl ((l5_0 ++ y76), z92)))) (some (.inr (l5_0, v6_0)))

def ref21_Substitute (n : Nat) (wx_0 : List Int) (images_1 : List (List Int)) : Option ((List Int)) :=
  ((loopN n (F.ref21_Substitute_b0 n wx_0 images_1) (([] : List Int), 0)).bind fun o8 => match o8 with
    | (l5_0, v6_0) => (F.ref21_Reduce n l5_0).bind fun y97 => some y97)

def ref34_Action_b5 (n : Nat) (strands_0 : Int) (most_2 : Int) (l7_1 : List (List Int)) (qf80_4 : List (List Int)) : (List (List Int)) × Int → Option (((List (List Int)) × Int) ⊕ (((List (List Int)) × Int) ⊕ ((List (List Int)))))
  | (l13_5, v14_5) => cond (decide (v14_5 < strands_0)) ((get l7_1 v14_5).bind fun x212 => (F.ref21_Substitute n x212 qf80_4).bind fun y223 => cond (decide (most_2 < (y223.length : Int))) (some (.inr (.inr ([])))) ((lim (l13_5.length + ([y223] : List (List Int)).length)).bind fun u244 => (chk (v14_5 + 1)).bind fun z251 => some (.inl ((l13_5 ++ ([y223] : List (List Int))), z251)))) (some (.inr (.inl (l13_5, v14_5))))

def ref34_Action_j4 (n : Nat) (strands_0 : Int) (most_2 : Int) (l7_1 : List (List Int)) (v9_1 : Int) (v59_4 : Bool) (qf80_4 : List (List Int)) : Option (((List (List Int)) × Int) ⊕ (((List (List Int)) × Int) ⊕ ((List (List Int))))) :=
  ((loopN n (F.ref34_Action_b5 n strands_0 most_2 l7_1 qf80_4) (([] : List (List Int)), 0)).bind fun o200 => match o200 with
    | (.inl (l13_5, v14_5)) => (chk (v9_1 - 1)).bind fun z255 => some (.inl (l13_5, z255))
    | (.inr q) => some (.inr (.inr q)))

def ref34_Action_b3 (n : Nat) (strands_0 : Int) : Int × (List (List Int)) → Option ((Int × (List (List Int))) ⊕ ((Int × (List (List Int)))))
  | (v12_3, qf80_3) => cond (decide (v12_3 < strands_0)) ((chk (v12_3 + 1)).bind fun z94 => (get qf80_3 v12_3).bind fun x102 => (chk (v12_3 + 1)).bind fun z109 => some (.inl (z109, (qf80_3.set v12_3.toNat ([z94] : List Int))))) (some (.inr (v12_3, qf80_3)))

def ref34_Action_j2 (n : Nat) (strands_0 : Int) (letters_1 : List Int) (most_2 : Int) (l7_1 : List (List Int)) (v9_1 : Int) (v10_2 : Int) (v39_2 : Bool) : Option (((List (List Int)) × Int) ⊕ (((List (List Int)) × Int) ⊕ ((List (List Int))))) :=
  (pos strands_0).bind fun u73 => ((loopN n (F.ref34_Action_b3 n strands_0) (0, (List.replicate strands_0.toNat ([] : List Int)))).bind fun o83 => match o83 with
    | (v12_3, qf80_3) => (get letters_1 v9_1).bind fun x115 => cond (decide (0 < x115)) ((chk (v10_2 - 1)).bind fun z123 => (chk (v10_2 + 1)).bind fun z125 => (chk (0 - v10_2)).bind fun z127 => (get qf80_3 z123).bind fun x135 => (get (qf80_3.set z123.toNat ([v10_2, z125, z127] : List Int)) v10_2).bind fun x149 => F.ref34_Action_j4 n strands_0 most_2 l7_1 v9_1 (decide (0 < x115)) ((qf80_3.set z123.toNat ([v10_2, z125, z127] : List Int)).set v10_2.toNat ([v10_2] : List Int))) ((chk (v10_2 - 1)).bind fun z157 => (chk (v10_2 + 1)).bind fun z159 => (get qf80_3 z157).bind fun x167 => (chk (v10_2 + 1)).bind fun z175 => (chk (0 - z175)).bind fun z177 => (chk (v10_2 + 1)).bind fun z179 => (get (qf80_3.set z157.toNat ([z159] : List Int)) v10_2).bind fun x187 => F.ref34_Action_j4 n strands_0 most_2 l7_1 v9_1 (decide (0 < x115)) ((qf80_3.set z157.toNat ([z159] : List Int)).set v10_2.toNat ([z177, v10_2, z179] : List Int))))

def ref34_Action_b1 (n : Nat) (strands_0 : Int) (letters_1 : List Int) (most_2 : Int) : (List (List Int)) × Int → Option (((List (List Int)) × Int) ⊕ (((List (List Int)) × Int) ⊕ ((List (List Int)))))
  | (l7_1, v9_1) => cond (decide (0 ≤ v9_1)) ((get letters_1 v9_1).bind fun x59 => cond (decide (x59 < 0)) ((chk (0 - x59)).bind fun z68 => F.ref34_Action_j2 n strands_0 letters_1 most_2 l7_1 v9_1 z68 (decide (x59 < 0))) (F.ref34_Action_j2 n strands_0 letters_1 most_2 l7_1 v9_1 x59 (decide (x59 < 0)))) (some (.inr (.inl (l7_1, v9_1))))

def ref34_Action_b0 (n : Nat) (strands_0 : Int) : (List (List Int)) × Int → Option (((List (List Int)) × Int) ⊕ (((List (List Int)) × Int)))
  | (l7_0, v8_0) => cond (decide (v8_0 < strands_0)) ((chk (v8_0 + 1)).bind fun z18 => (lim (l7_0.length + ([([z18] : List Int)] : List (List Int)).length)).bind fun u32 => (chk (v8_0 + 1)).bind fun z39 => some (.inl ((l7_0 ++ ([([z18] : List Int)] : List (List Int))), z39))) (some (.inr (l7_0, v8_0)))

def ref34_Action (n : Nat) (strands_0 : Int) (letters_1 : List Int) (most_2 : Int) : Option ((List (List Int))) :=
  ((loopN n (F.ref34_Action_b0 n strands_0) (([] : List (List Int)), 0)).bind fun o7 => match o7 with
    | (l7_0, v8_0) => (chk ((letters_1.length : Int) - 1)).bind fun z45 => ((loopN n (F.ref34_Action_b1 n strands_0 letters_1 most_2) (l7_0, z45)).bind fun o47 => match o47 with
    | (.inl (l7_1, v9_1)) => some l7_1
    | (.inr q) => some q))

def ref34_Half_b0 (n : Nat) (nx_0 : Int) : (List Int) × Int → Option (((List Int) × Int) ⊕ (((List Int) × Int)))
  | (l3_0, v4_0) => cond (decide (v4_0 < nx_0)) ((chk (nx_0 - 1)).bind fun z17 => (chk (z17 - v4_0)).bind fun z19 => (lim (l3_0.length + ([z19] : List Int).length)).bind fun u27 => (chk (v4_0 + 1)).bind fun z34 => some (.inl ((l3_0 ++ ([z19] : List Int)), z34))) (some (.inr (l3_0, v4_0)))

def ref34_Half (n : Nat) (nx_0 : Int) : Option ((List Int)) :=
  ((loopN n (F.ref34_Half_b0 n nx_0) (([] : List Int), 0)).bind fun o6 => match o6 with
    | (l3_0, v4_0) => some l3_0)

def ref34_Word_b0 (n : Nat) : (List Int) × (List Int) → Option (((List Int) × (List Int)) ⊕ (((List Int) × (List Int))))
  | (l3_0, qf10_0) => (F.ref34_Letters n qf10_0).bind fun y29 => cond (decide (0 < (y29.length : Int))) ((F.ref34_Letters n qf10_0).bind fun y40 => (get y40 0).bind fun x49 => (lim (l3_0.length + ([x49] : List Int).length)).bind fun u62 => (chk (x49 - 1)).bind fun z72 => (get qf10_0 x49).bind fun x74 => (chk (x49 - 1)).bind fun z81 => (get qf10_0 z81).bind fun x83 => (get qf10_0 z72).bind fun x90 => (get (qf10_0.set z72.toNat x74) x49).bind fun x98 => some (.inl ((l3_0 ++ ([x49] : List Int)), ((qf10_0.set z72.toNat x74).set x49.toNat x83)))) (some (.inr (l3_0, qf10_0)))

def ref34_Word (n : Nat) (p_0 : List Int) : Option ((List Int)) :=
  (lim (([] : List Int).length + p_0.length)).bind fun u11 => ((loopN n (F.ref34_Word_b0 n) (([] : List Int), (([] : List Int) ++ p_0))).bind fun o20 => match o20 with
    | (l3_0, qf10_0) => some l3_0)

def ref34_Whole_b2 (n : Nat) (y14 : (List Int)) : (List Int) × Int → Option (((List Int) × Int) ⊕ (((List Int) × Int)))
  | (l7_2, v11_2) => cond (decide (0 ≤ v11_2)) ((get y14 v11_2).bind fun x75 => (chk (0 - x75)).bind fun z81 => (lim (l7_2.length + ([z81] : List Int).length)).bind fun u89 => (chk (v11_2 - 1)).bind fun z96 => some (.inl ((l7_2 ++ ([z81] : List Int)), z96))) (some (.inr (l7_2, v11_2)))

def ref34_Whole_b3 (n : Nat) (factors_2 : List (List Int)) : (List Int) × Int → Option (((List Int) × Int) ⊕ (((List Int) × Int)))
  | (l7_3, v12_3) => cond (decide (v12_3 < (factors_2.length : Int))) ((get factors_2 v12_3).bind fun x117 => (F.ref34_Word n x117).bind fun y128 => (lim (l7_3.length + y128.length)).bind fun u137 => (chk (v12_3 + 1)).bind fun z144 => some (.inl ((l7_3 ++ y128), z144))) (some (.inr (l7_3, v12_3)))

def ref34_Whole_b1 (n : Nat) (y14 : (List Int)) : (List Int) × Int → Option (((List Int) × Int) ⊕ (((List Int) × Int)))
  | (l7_1, v10_1) => cond (decide (v10_1 < 0)) ((chk ((y14.length : Int) - 1)).bind fun z62 => ((loopN n (F.ref34_Whole_b2 n y14) (l7_1, z62)).bind fun o64 => match o64 with
    | (l7_2, v11_2) => (chk (v10_1 + 1)).bind fun z100 => some (.inl (l7_2, z100)))) (some (.inr (l7_1, v10_1)))

def ref34_Whole_b0 (n : Nat) (power_1 : Int) (y14 : (List Int)) : (List Int) × Int → Option (((List Int) × Int) ⊕ (((List Int) × Int)))
  | (l7_0, v9_0) => cond (decide (v9_0 < power_1)) ((lim (l7_0.length + y14.length)).bind fun u37 => (chk (v9_0 + 1)).bind fun z44 => some (.inl ((l7_0 ++ y14), z44))) (some (.inr (l7_0, v9_0)))

def ref34_Whole (n : Nat) (strands_0 : Int) (power_1 : Int) (factors_2 : List (List Int)) : Option ((List Int)) :=
  (F.ref34_Half n strands_0).bind fun y5 => (F.ref34_Word n y5).bind fun y14 => ((loopN n (F.ref34_Whole_b0 n power_1 y14) (([] : List Int), 0)).bind fun o26 => match o26 with
    | (l7_0, v9_0) => ((loopN n (F.ref34_Whole_b1 n y14) (l7_0, power_1)).bind fun o50 => match o50 with
    | (l7_1, v10_1) => ((loopN n (F.ref34_Whole_b3 n factors_2) (l7_1, 0)).bind fun o106 => match o106 with
    | (l7_3, v12_3) => some l7_3)))

def ref21_less_b0 (n : Nat) (a_0 : List Int) (b_1 : List Int) : Int → Option ((Int) ⊕ ((Int) ⊕ (Bool)))
  | v5_0 => cond (decide (v5_0 < (a_0.length : Int))) ((get a_0 v5_0).bind fun x20 => (get b_1 v5_0).bind fun x27 => cond (!(decide (x20 = x27))) ((get a_0 v5_0).bind fun x39 => (get b_1 v5_0).bind fun x46 => some (.inr (.inr (decide (x39 < x46))))) ((chk (v5_0 + 1)).bind fun z53 => some (.inl z53))) (some (.inr (.inl v5_0)))

def ref21_less (n : Nat) (a_0 : List Int) (b_1 : List Int) : Option (Bool) :=
  ((loopN n (F.ref21_less_b0 n a_0 b_1) 0).bind fun o6 => match o6 with
    | (.inl v5_0) => some false
    | (.inr q) => some q)


def ref21_Same (n : Nat) (a_0 : List Int) (b_1 : List Int) : Option (Bool) :=
  cond (decide ((a_0.length : Int) = (b_1.length : Int))) ((F.ref21_less n a_0 b_1).bind fun y6 => cond (!y6) ((F.ref21_less n b_1 a_0).bind fun y10 => some (!y10)) (some false)) (some false)

def ref34_Same_b0 (n : Nat) (a_0 : List (List Int)) (b_1 : List (List Int)) : Int → Option ((Int) ⊕ ((Int) ⊕ (Bool)))
  | v5_0 => cond (decide (v5_0 < (a_0.length : Int))) ((get a_0 v5_0).bind fun x24 => (get b_1 v5_0).bind fun x36 => (F.ref21_Same n x24 x36).bind fun y48 => cond (!y48) (some (.inr (.inr false))) ((chk (v5_0 + 1)).bind fun z53 => some (.inl z53))) (some (.inr (.inl v5_0)))

def ref34_Same (n : Nat) (a_0 : List (List Int)) (b_1 : List (List Int)) : Option (Bool) :=
  cond (!(decide ((a_0.length : Int) = (b_1.length : Int)))) (some false) (((loopN n (F.ref34_Same_b0 n a_0 b_1) 0).bind fun o10 => match o10 with
    | (.inl v5_0) => some true
    | (.inr q) => some q))

def law34_GarsideForm_j0 (n : Nat) (b_0_0 : Int) (b_0_1 : List Int) : Option (Bool) :=
  (F.garside_Form n b_0_0 b_0_1).bind fun y27 => (F.braid_Valid n b_0_0 b_0_1).bind fun y45 => cond (!y45) (cond (decide (y27.2.2.2 = 1)) ((F.law34_zero n y27.1 y27.2.1 y27.2.2.1).bind fun y52 => some y52) (some false)) (cond (!(decide (y27.2.2.2 = 0))) (some false) (cond (!(decide (y27.1 = b_0_0))) (some false) ((F.law34_plain n y27.2.2.1).bind fun y63 => (F.ref34_Valid n y27.1 y27.2.1 y63).bind fun y72 => cond (!y72) (some false) ((chk (-(b_0_1.length : Int))).bind fun z77 => cond (decide (y27.2.1 < z77)) (some false) ((chk (y27.2.1 + (y27.2.2.1.length : Int))).bind fun z81 => cond (decide ((b_0_1.length : Int) < z81)) (some false) ((F.ref34_Action n b_0_0 b_0_1 20000).bind fun y87 => (F.law34_plain n y27.2.2.1).bind fun y99 => (F.ref34_Whole n y27.1 y27.2.1 y99).bind fun y108 => (F.ref34_Action n b_0_0 y108 20000).bind fun y117 => cond (decide ((y87.length : Int) = 0)) (some true) (cond (decide ((y117.length : Int) = 0)) (some true) ((F.ref34_Same n y87 y117).bind fun y130 => some y130))))))))

def law34_GarsideForm (n : Nat) (b_0_0 : Int) (b_0_1 : List Int) : Option (Bool) :=
  (F.law34_awake n).bind fun y8 => cond (!y8) ((F.law34_awake n).bind fun y13 => some y13) (cond (decide (12 < (b_0_1.length : Int))) (cond (decide ((b_0_1.length : Int) ≤ 200)) ((F.law34_awake n).bind fun y20 => some y20) (F.law34_GarsideForm_j0 n b_0_0 b_0_1)) (F.law34_GarsideForm_j0 n b_0_0 b_0_1))


def garside_Same_c1 (n : Nat) (p_0 : List Int) (q_1 : List Int) : Option (Bool) :=
  (F.slices_Equal_Perm_int n p_0 q_1).bind fun y5 => some y5

def slices_EqualFunc_Perm_Perm_Perm_Perm_garside_Same_c1_b0 (n : Nat) (s1_0 : List (List Int)) (s2_1 : List (List Int)) : Int → Option ((Int) ⊕ ((Int) ⊕ (Bool)))
  | v17_0 => cond (decide (v17_0 < (s1_0.length : Int))) ((get s1_0 v17_0).bind fun x22 => (get s2_1 v17_0).bind fun x34 => (F.garside_Same_c1 n x22 x34).bind fun y47 => cond (!y47) (some (.inr (.inr false))) ((chk (v17_0 + 1)).bind fun z52 => some (.inl z52))) (some (.inr (.inl v17_0)))

def slices_EqualFunc_Perm_Perm_Perm_Perm_garside_Same_c1 (n : Nat) (s1_0 : List (List Int)) (s2_1 : List (List Int)) : Option (Bool) :=
  cond (!(decide ((s1_0.length : Int) = (s2_1.length : Int)))) (some false) (((loopN n (F.slices_EqualFunc_Perm_Perm_Perm_Perm_garside_Same_c1_b0 n s1_0 s2_1) 0).bind fun o10 => match o10 with
    | (.inl v17_0) => some true
    | (.inr q) => some q))


def garside_Same (n : Nat) (a_0_0 : Int) (a_0_1 : List Int) (b_1_0 : Int) (b_1_1 : List Int) : Option (Bool) :=
  (F.garside_Form n a_0_0 a_0_1).bind fun y11 => cond (!(decide (y11.2.2.2 = 0))) (some false) ((F.garside_Form n b_1_0 b_1_1).bind fun y33 => cond (!(decide (y33.2.2.2 = 0))) (some false) (cond (decide (y11.1 = y33.1)) (cond (decide (y11.2.1 = y33.2.1)) ((F.slices_EqualFunc_Perm_Perm_Perm_Perm_garside_Same_c1 n y11.2.2.1 y33.2.2.1).bind fun y57 => some y57) (some false)) (some false)))


def law34_GarsideSame (n : Nat) (a_0_0 : Int) (a_0_1 : List Int) (b_1_0 : Int) (b_1_1 : List Int) : Option (Bool) :=
  (F.law34_awake n).bind fun y12 => cond (!y12) ((F.law34_awake n).bind fun y17 => some y17) (cond (decide (12 < (a_0_1.length : Int))) ((F.law34_awake n).bind fun y23 => some y23) (cond (decide (12 < (b_1_1.length : Int))) ((F.law34_awake n).bind fun y29 => some y29) ((F.garside_Same n a_0_0 a_0_1 b_1_0 b_1_1).bind fun y33 => (F.braid_Valid n a_0_0 a_0_1).bind fun y38 => cond (!y38) (some (!y33)) ((F.braid_Valid n b_1_0 b_1_1).bind fun y44 => cond (!y44) (some (!y33)) (cond (!(decide (a_0_0 = b_1_0))) (some (!y33)) ((F.ref34_Action n a_0_0 a_0_1 20000).bind fun y56 => (F.ref34_Action n b_1_0 b_1_1 20000).bind fun y65 => cond (decide ((y56.length : Int) = 0)) (some true) (cond (decide ((y65.length : Int) = 0)) (some true) ((F.ref34_Same n y56 y65).bind fun y78 => some (y33 == y78)))))))))


def slices_Grow_Lint_int_nil (n : Nat) (nx_1 : Int) : Option ((List Int)) :=
  cond (decide (nx_1 < 0)) (none) ((chk (0 - 0)).bind fun z7 => (chk (nx_1 - z7)).bind fun z9 => cond (decide (0 < z9)) ((posz z9).bind fun u14 => (cut 0 0 (List.replicate z9.toNat (0 : Int)).length).bind fun u22 => some ((List.replicate z9.toNat (0 : Int)).take (0 : Int).toNat)) (some ([])))

def slices_Concat_Lint_int_b1 (n : Nat) (slices_0 : List (List Int)) : (List Int) × Int → Option (((List Int) × Int) ⊕ (((List Int) × Int)))
  | (l6_1, v27_1) => cond (decide (v27_1 < (slices_0.length : Int))) ((get slices_0 v27_1).bind fun x63 => (lim (l6_1.length + x63.length)).bind fun u74 => (chk (v27_1 + 1)).bind fun z81 => some (.inl ((l6_1 ++ x63), z81))) (some (.inr (l6_1, v27_1)))

def slices_Concat_Lint_int_b0 (n : Nat) (slices_0 : List (List Int)) : Int × Int → Option ((Int × Int) ⊕ ((Int × Int)))
  | (v3_0, v11_0) => cond (decide (v11_0 < (slices_0.length : Int))) ((get slices_0 v11_0).bind fun x18 => (chk (v3_0 + (x18.length : Int))).bind fun z30 => cond (decide (z30 < 0)) (none) ((chk (v11_0 + 1)).bind fun z35 => some (.inl (z30, z35)))) (some (.inr (v3_0, v11_0)))

def slices_Concat_Lint_int (n : Nat) (slices_0 : List (List Int)) : Option ((List Int)) :=
  ((loopN n (F.slices_Concat_Lint_int_b0 n slices_0) (0, 0)).bind fun o6 => match o6 with
    | (v3_0, v11_0) => (F.slices_Grow_Lint_int_nil n v3_0).bind fun y40 => ((loopN n (F.slices_Concat_Lint_int_b1 n slices_0) (y40, 0)).bind fun o51 => match o51 with
    | (l6_1, v27_1) => some l6_1))


def law34_equal_c1 (n : Nat) (p_0 : List Int) (q_1 : List Int) : Option (Bool) :=
  (F.slices_Equal_Perm_int n p_0 q_1).bind fun y5 => some y5

def slices_EqualFunc_Perm_Perm_Perm_Perm_law34_equal_c1_b0 (n : Nat) (s1_0 : List (List Int)) (s2_1 : List (List Int)) : Int → Option ((Int) ⊕ ((Int) ⊕ (Bool)))
  | v17_0 => cond (decide (v17_0 < (s1_0.length : Int))) ((get s1_0 v17_0).bind fun x22 => (get s2_1 v17_0).bind fun x34 => (F.law34_equal_c1 n x22 x34).bind fun y47 => cond (!y47) (some (.inr (.inr false))) ((chk (v17_0 + 1)).bind fun z52 => some (.inl z52))) (some (.inr (.inl v17_0)))

def slices_EqualFunc_Perm_Perm_Perm_Perm_law34_equal_c1 (n : Nat) (s1_0 : List (List Int)) (s2_1 : List (List Int)) : Option (Bool) :=
  cond (!(decide ((s1_0.length : Int) = (s2_1.length : Int)))) (some false) (((loopN n (F.slices_EqualFunc_Perm_Perm_Perm_Perm_law34_equal_c1_b0 n s1_0 s2_1) 0).bind fun o10 => match o10 with
    | (.inl v17_0) => some true
    | (.inr q) => some q))


def law34_equal (n : Nat) (a_0_0 : Int) (a_0_1 : Int) (a_0_2 : List (List Int)) (b_1_0 : Int) (b_1_1 : Int) (b_1_2 : List (List Int)) : Option (Bool) :=
  cond (decide (a_0_0 = b_1_0)) (cond (decide (a_0_1 = b_1_1)) ((F.slices_EqualFunc_Perm_Perm_Perm_Perm_law34_equal_c1 n a_0_2 b_1_2).bind fun y13 => some y13) (some false)) (some false)


def law34_GarsideCenter (n : Nat) (b_0_0 : Int) (b_0_1 : List Int) : Option (Bool) :=
  (F.law34_awake n).bind fun y8 => cond (!y8) ((F.law34_awake n).bind fun y14 => some y14) (cond (decide (40 < (b_0_1.length : Int))) ((F.law34_awake n).bind fun y20 => some y20) ((F.braid_Valid n b_0_0 b_0_1).bind fun y23 => cond (!y23) ((F.law34_awake n).bind fun y29 => some y29) (cond (decide (b_0_0 < 2)) ((F.law34_awake n).bind fun y35 => some y35) (cond (decide (5 < b_0_0)) ((F.law34_awake n).bind fun y41 => some y41) ((F.ref34_Whole n b_0_0 2 ([])).bind fun y45 => (F.garside_Form n b_0_0 b_0_1).bind fun y55 => (F.slices_Concat_Lint_int n ([y45, b_0_1] : List (List Int))).bind fun y81 => (F.garside_Form n b_0_0 y81).bind fun y90 => (F.slices_Concat_Lint_int n ([b_0_1, y45] : List (List Int))).bind fun y116 => (F.garside_Form n b_0_0 y116).bind fun y125 => (chk (y55.2.1 + 2)).bind fun z143 => cond (decide (y55.2.2.2 = 0)) (cond (decide (y90.2.2.2 = 0)) (cond (decide (y125.2.2.2 = 0)) ((F.law34_equal n y90.1 y90.2.1 y90.2.2.1 y55.1 z143 y55.2.2.1).bind fun y150 => cond y150 ((F.law34_equal n y125.1 y125.2.1 y125.2.2.1 y55.1 z143 y55.2.2.1).bind fun y154 => some y154) (some false)) (some false)) (some false)) (some false))))))

def perm_Mul_b0 (n : Nat) (p_0 : List Int) (q_1 : List Int) : Int × (List Int) → Option ((Int × (List Int)) ⊕ ((Int × (List Int))))
  | (v29_0, qf31_0) => cond (decide (v29_0 < (p_0.length : Int))) ((get p_0 v29_0).bind fun x46 => (get q_1 x46).bind fun x52 => (get qf31_0 v29_0).bind fun x58 => (chk (v29_0 + 1)).bind fun z65 => some (.inl (z65, (qf31_0.set v29_0.toNat x52)))) (some (.inr (v29_0, qf31_0)))

def perm_Mul (n : Nat) (p_0 : List Int) (q_1 : List Int) : Option ((List Int) × Int) :=
  (F.perm_Valid n p_0).bind fun y6 => cond (!y6) (some ([], 1)) ((F.perm_Valid n q_1).bind fun y12 => cond (!y12) (some ([], 1)) (cond (!(decide ((p_0.length : Int) = (q_1.length : Int)))) (some ([], 1)) ((pos (p_0.length : Int)).bind fun u24 => ((loopN n (F.perm_Mul_b0 n p_0 q_1) (0, (List.replicate (p_0.length : Int).toNat (0 : Int)))).bind fun o34 => match o34 with
    | (v29_0, qf31_0) => some (qf31_0, 0)))))

def ref34_Inversions_b1 (n : Nat) (p_0 : List Int) (v4_0 : Int) : Int × Int → Option ((Int × Int) ⊕ ((Int × Int)))
  | (v3_1, v5_1) => cond (decide (v5_1 < (p_0.length : Int))) ((get p_0 v4_0).bind fun x34 => (get p_0 v5_1).bind fun x41 => cond (decide (x41 < x34)) ((chk (v3_1 + 1)).bind fun z50 => (chk (v5_1 + 1)).bind fun z52 => some (.inl (z50, z52))) ((chk (v5_1 + 1)).bind fun z54 => some (.inl (v3_1, z54)))) (some (.inr (v3_1, v5_1)))

def ref34_Inversions_b0 (n : Nat) (p_0 : List Int) : Int × Int → Option ((Int × Int) ⊕ ((Int × Int)))
  | (v3_0, v4_0) => cond (decide (v4_0 < (p_0.length : Int))) ((chk (v4_0 + 1)).bind fun z18 => ((loopN n (F.ref34_Inversions_b1 n p_0 v4_0) (v3_0, z18)).bind fun o20 => match o20 with
    | (v3_1, v5_1) => (chk (v4_0 + 1)).bind fun z58 => some (.inl (v3_1, z58)))) (some (.inr (v3_0, v4_0)))

def ref34_Inversions (n : Nat) (p_0 : List Int) : Option (Int) :=
  ((loopN n (F.ref34_Inversions_b0 n p_0) (0, 0)).bind fun o6 => match o6 with
    | (v3_0, v4_0) => some v3_0)

def braid_Exponent_b0 (n : Nat) (b_0_1 : List Int) : Int × Int → Option ((Int × Int) ⊕ ((Int × Int)))
  | (v3_0, v12_0) => cond (decide (v12_0 < (b_0_1.length : Int))) ((get b_0_1 v12_0).bind fun x29 => cond (decide (0 < x29)) ((chk (v3_0 + 1)).bind fun z37 => (chk (v12_0 + 1)).bind fun z39 => some (.inl (z37, z39))) ((chk (v3_0 - 1)).bind fun z41 => (chk (v12_0 + 1)).bind fun z43 => some (.inl (z41, z43)))) (some (.inr (v3_0, v12_0)))

def braid_Exponent (n : Nat) (b_0_0 : Int) (b_0_1 : List Int) : Option (Int) :=
  (F.braid_Valid n b_0_0 b_0_1).bind fun y8 => cond (!y8) (some 0) (((loopN n (F.braid_Exponent_b0 n b_0_1) (0, 0)).bind fun o17 => match o17 with
    | (v3_0, v12_0) => some v3_0))


def braid_generator (n : Nat) (letter_0 : Int) : Option (Int) :=
  (chk (-letter_0)).bind fun z3 => some (max letter_0 z3)

def braid_Perm_b2 (n : Nat) (b_0_0 : Int) (qf22_1 : List Int) : Int × (List Int) → Option ((Int × (List Int)) ⊕ ((Int × (List Int))))
  | (v58_2, qf121_2) => cond (decide (v58_2 < (((List.replicate b_0_0.toNat (0 : Int))).length : Int))) ((get qf22_1 v58_2).bind fun x136 => (get qf121_2 x136).bind fun x142 => (chk (v58_2 + 1)).bind fun z149 => some (.inl (z149, (qf121_2.set x136.toNat v58_2)))) (some (.inr (v58_2, qf121_2)))

def braid_Perm_b1 (n : Nat) (b_0_1 : List Int) : Int × (List Int) → Option ((Int × (List Int)) ⊕ ((Int × (List Int))))
  | (v30_1, qf22_1) => cond (decide (v30_1 < (b_0_1.length : Int))) ((get b_0_1 v30_1).bind fun x63 => (F.braid_generator n x63).bind fun y70 => (chk (y70 - 1)).bind fun z76 => (get qf22_1 y70).bind fun x78 => (chk (y70 - 1)).bind fun z85 => (get qf22_1 z85).bind fun x87 => (get qf22_1 z76).bind fun x94 => (get (qf22_1.set z76.toNat x78) y70).bind fun x102 => (chk (v30_1 + 1)).bind fun z109 => some (.inl (z109, ((qf22_1.set z76.toNat x78).set y70.toNat x87)))) (some (.inr (v30_1, qf22_1)))

def braid_Perm_b0 (n : Nat) (b_0_0 : Int) : Int × (List Int) → Option ((Int × (List Int)) ⊕ ((Int × (List Int))))
  | (v19_0, qf22_0) => cond (decide (v19_0 < (((List.replicate b_0_0.toNat (0 : Int))).length : Int))) ((get qf22_0 v19_0).bind fun x38 => (chk (v19_0 + 1)).bind fun z45 => some (.inl (z45, (qf22_0.set v19_0.toNat v19_0)))) (some (.inr (v19_0, qf22_0)))

def braid_Perm (n : Nat) (b_0_0 : Int) (b_0_1 : List Int) : Option ((List Int)) :=
  (F.braid_Valid n b_0_0 b_0_1).bind fun y8 => cond (!y8) (some ([])) ((pos b_0_0).bind fun u15 => ((loopN n (F.braid_Perm_b0 n b_0_0) (0, (List.replicate b_0_0.toNat (0 : Int)))).bind fun o26 => match o26 with
    | (v19_0, qf22_0) => ((loopN n (F.braid_Perm_b1 n b_0_1) (0, qf22_0)).bind fun o51 => match o51 with
    | (v30_1, qf22_1) => (pos b_0_0).bind fun u114 => ((loopN n (F.braid_Perm_b2 n b_0_0 qf22_1) (0, (List.replicate b_0_0.toNat (0 : Int)))).bind fun o124 => match o124 with
    | (v58_2, qf121_2) => some qf121_2))))

def law34_GarsideExponent_b1 (n : Nat) (y32 : Int × Int × (List (List Int)) × Int) : Int × (List Int) × Int → Option ((Int × (List Int) × Int) ⊕ ((Int × (List Int) × Int)))
  | (v5_1, l6_1, v54_1) => cond (decide (v54_1 < (y32.2.2.1.length : Int))) ((get y32.2.2.1 v54_1).bind fun x101 => (F.ref34_Inversions n x101).bind fun y113 => (chk (v5_1 + y113)).bind fun z117 => (F.perm_Mul n l6_1 x101).bind fun y119 => (chk (v54_1 + 1)).bind fun z129 => some (.inl (z117, y119.1, z129))) (some (.inr (v5_1, l6_1, v54_1)))

def law34_GarsideExponent_j0 (n : Nat) (b_0_0 : Int) (b_0_1 : List Int) (y32 : Int × Int × (List (List Int)) × Int) (z57 : Int) (l6_0 : List Int) : Option (Bool) :=
  ((loopN n (F.law34_GarsideExponent_b1 n y32) (z57, l6_0, 0)).bind fun o89 => match o89 with
    | (v5_1, l6_1, v54_1) => cond (decide (y32.2.2.2 = 0)) ((F.braid_Exponent n b_0_0 b_0_1).bind fun y135 => cond (decide (v5_1 = y135)) ((F.braid_Perm n b_0_0 b_0_1).bind fun y140 => (F.slices_Equal_Perm_int n l6_1 y140).bind fun y149 => some y149) (some false)) (some false))

def law34_GarsideExponent (n : Nat) (b_0_0 : Int) (b_0_1 : List Int) : Option (Bool) :=
  (F.law34_awake n).bind fun y8 => cond (!y8) ((F.law34_awake n).bind fun y13 => some y13) (cond (decide (40 < (b_0_1.length : Int))) ((F.law34_awake n).bind fun y19 => some y19) ((F.braid_Valid n b_0_0 b_0_1).bind fun y22 => cond (!y22) ((F.law34_awake n).bind fun y28 => some y28) ((F.garside_Form n b_0_0 b_0_1).bind fun y32 => (chk (b_0_0 - 1)).bind fun z49 => (chk (b_0_0 * z49)).bind fun z51 => (nz 2).bind fun u53 => (chk (Int.tdiv z51 2)).bind fun z55 => (chk (y32.2.1 * z55)).bind fun z57 => (F.ref34_Half n b_0_0).bind fun y61 => (nz 2).bind fun u72 => cond (decide ((Int.tmod y32.2.1 2) = 0)) ((F.perm_Mul n y61 y61).bind fun y75 => F.law34_GarsideExponent_j0 n b_0_0 b_0_1 y32 z57 y75.1) (F.law34_GarsideExponent_j0 n b_0_0 b_0_1 y32 z57 y61))))

def law34_GarsideRelations_b6 (n : Nat) (b_0_0 : Int) (b_0_1 : List Int) (y39 : Int × Int × (List (List Int)) × Int) (l10_4 : List (Int × (List Int))) : Int → Option ((Int) ⊕ ((Int) ⊕ (Bool)))
  | v210_6 => cond (decide (v210_6 < (l10_4.length : Int))) ((get l10_4 v210_6).bind fun x349 => (F.garside_Form n x349.1 x349.2).bind fun y369 => cond (!(decide (y369.2.2.2 = 0))) (some (.inr (.inr false))) ((F.law34_equal n y369.1 y369.2.1 y369.2.2.1 y39.1 y39.2.1 y39.2.2.1).bind fun y389 => cond (!y389) (some (.inr (.inr false))) ((F.garside_Same n b_0_0 b_0_1 x349.1 x349.2).bind fun y394 => cond (!y394) (some (.inr (.inr false))) ((chk (v210_6 + 1)).bind fun z399 => some (.inl z399))))) (some (.inr (.inl v210_6)))

def law34_GarsideRelations_j4 (n : Nat) (b_0_0 : Int) (b_0_1 : List Int) (y39 : Int × Int × (List (List Int)) × Int) (l10_4 : List (Int × (List Int))) : Option (Bool) :=
  ((loopN n (F.law34_GarsideRelations_b6 n b_0_0 b_0_1 y39 l10_4) 0).bind fun o337 => match o337 with
    | (.inl v210_6) => some true
    | (.inr q) => some q)

def law34_GarsideRelations_j5 (n : Nat) (b_0_0 : Int) (b_0_1 : List Int) (at_1 : Int) (y39 : Int × Int × (List (List Int)) × Int) (z60 : Int) (l10_2 : List (Int × (List Int))) (x239 : Int) (x248 : Int) (v186_5 : Bool) : Option (Bool) :=
  cond v186_5 ((cut 0 (Int.tmod at_1 z60) b_0_1.length).bind fun u279 => (chk ((Int.tmod at_1 z60) + 3)).bind fun z294 => (cut z294 (b_0_1.length : Int) b_0_1.length).bind fun u296 => (F.slices_Concat_Lint_int n ([((b_0_1.drop (0 : Int).toNat).take ((Int.tmod at_1 z60).toNat - (0 : Int).toNat)), ([x248, x239, x248] : List Int), ((b_0_1.drop z294.toNat).take ((b_0_1.length : Int).toNat - z294.toNat))] : List (List Int))).bind fun y311 => (lim (l10_2.length + ([(b_0_0, y311)] : List (Int × (List Int))).length)).bind fun u326 => F.law34_GarsideRelations_j4 n b_0_0 b_0_1 y39 (l10_2 ++ ([(b_0_0, y311)] : List (Int × (List Int))))) (F.law34_GarsideRelations_j4 n b_0_0 b_0_1 y39 l10_2)

def law34_GarsideRelations_j2 (n : Nat) (b_0_0 : Int) (b_0_1 : List Int) (at_1 : Int) (y39 : Int × Int × (List (List Int)) × Int) (z60 : Int) (l10_2 : List (Int × (List Int))) : Option (Bool) :=
  (chk ((Int.tmod at_1 z60) + 2)).bind fun z233 => cond (decide (z233 < (b_0_1.length : Int))) ((get b_0_1 (Int.tmod at_1 z60)).bind fun x239 => (chk ((Int.tmod at_1 z60) + 1)).bind fun z246 => (get b_0_1 z246).bind fun x248 => (chk ((Int.tmod at_1 z60) + 2)).bind fun z255 => (get b_0_1 z255).bind fun x257 => cond (decide (0 < x239)) (cond (decide (0 < x248)) (cond (decide (x239 = x257)) ((chk (x239 - x248)).bind fun z269 => cond (decide (z269 = 1)) (F.law34_GarsideRelations_j5 n b_0_0 b_0_1 at_1 y39 z60 l10_2 x239 x248 true) ((chk (x248 - x239)).bind fun z272 => F.law34_GarsideRelations_j5 n b_0_0 b_0_1 at_1 y39 z60 l10_2 x239 x248 (decide (z272 = 1)))) (F.law34_GarsideRelations_j5 n b_0_0 b_0_1 at_1 y39 z60 l10_2 x239 x248 false)) (F.law34_GarsideRelations_j5 n b_0_0 b_0_1 at_1 y39 z60 l10_2 x239 x248 false)) (F.law34_GarsideRelations_j5 n b_0_0 b_0_1 at_1 y39 z60 l10_2 x239 x248 false)) (F.law34_GarsideRelations_j4 n b_0_0 b_0_1 y39 l10_2)

def law34_GarsideRelations_j3 (n : Nat) (b_0_0 : Int) (b_0_1 : List Int) (at_1 : Int) (y39 : Int × Int × (List (List Int)) × Int) (z60 : Int) (l10_0 : List (Int × (List Int))) (x143 : Int) (x152 : Int) (v120_3 : Bool) : Option (Bool) :=
  cond v120_3 ((cut 0 (Int.tmod at_1 z60) b_0_1.length).bind fun u175 => (chk ((Int.tmod at_1 z60) + 2)).bind fun z190 => (cut z190 (b_0_1.length : Int) b_0_1.length).bind fun u192 => (F.slices_Concat_Lint_int n ([((b_0_1.drop (0 : Int).toNat).take ((Int.tmod at_1 z60).toNat - (0 : Int).toNat)), ([x152, x143] : List Int), ((b_0_1.drop z190.toNat).take ((b_0_1.length : Int).toNat - z190.toNat))] : List (List Int))).bind fun y207 => (lim (l10_0.length + ([(b_0_0, y207)] : List (Int × (List Int))).length)).bind fun u222 => F.law34_GarsideRelations_j2 n b_0_0 b_0_1 at_1 y39 z60 (l10_0 ++ ([(b_0_0, y207)] : List (Int × (List Int))))) (F.law34_GarsideRelations_j2 n b_0_0 b_0_1 at_1 y39 z60 l10_0)

def law34_GarsideRelations_j0 (n : Nat) (b_0_0 : Int) (b_0_1 : List Int) (at_1 : Int) (y39 : Int × Int × (List (List Int)) × Int) (z60 : Int) (l10_0 : List (Int × (List Int))) : Option (Bool) :=
  (chk ((Int.tmod at_1 z60) + 1)).bind fun z137 => cond (decide (z137 < (b_0_1.length : Int))) ((get b_0_1 (Int.tmod at_1 z60)).bind fun x143 => (chk ((Int.tmod at_1 z60) + 1)).bind fun z150 => (get b_0_1 z150).bind fun x152 => (chk (-x143)).bind fun z161 => (chk (-x152)).bind fun z163 => (chk ((max x143 z161) - (max x152 z163))).bind fun z165 => cond (decide (1 < z165)) (F.law34_GarsideRelations_j3 n b_0_0 b_0_1 at_1 y39 z60 l10_0 x143 x152 true) (F.law34_GarsideRelations_j3 n b_0_0 b_0_1 at_1 y39 z60 l10_0 x143 x152 (decide (z165 < (-1))))) (F.law34_GarsideRelations_j2 n b_0_0 b_0_1 at_1 y39 z60 l10_0)

def law34_GarsideRelations_j1 (n : Nat) (b_0_0 : Int) (b_0_1 : List Int) (at_1 : Int) (letter_2 : Int) (y39 : Int × Int × (List (List Int)) × Int) (z60 : Int) (v68_1 : Bool) : Option (Bool) :=
  cond v68_1 ((cut 0 (Int.tmod at_1 z60) b_0_1.length).bind fun u77 => (chk (-letter_2)).bind fun z86 => (cut (Int.tmod at_1 z60) (b_0_1.length : Int) b_0_1.length).bind fun u94 => (F.slices_Concat_Lint_int n ([((b_0_1.drop (0 : Int).toNat).take ((Int.tmod at_1 z60).toNat - (0 : Int).toNat)), ([letter_2, z86] : List Int), ((b_0_1.drop (Int.tmod at_1 z60).toNat).take ((b_0_1.length : Int).toNat - (Int.tmod at_1 z60).toNat))] : List (List Int))).bind fun y109 => (lim (([] : List (Int × (List Int))).length + ([(b_0_0, y109)] : List (Int × (List Int))).length)).bind fun u125 => F.law34_GarsideRelations_j0 n b_0_0 b_0_1 at_1 y39 z60 (([] : List (Int × (List Int))) ++ ([(b_0_0, y109)] : List (Int × (List Int))))) (F.law34_GarsideRelations_j0 n b_0_0 b_0_1 at_1 y39 z60 ([] : List (Int × (List Int))))

def law34_GarsideRelations (n : Nat) (b_0_0 : Int) (b_0_1 : List Int) (at_1 : Int) (letter_2 : Int) : Option (Bool) :=
  (F.law34_awake n).bind fun y8 => cond (!y8) ((F.law34_awake n).bind fun y14 => some y14) (cond (decide (40 < (b_0_1.length : Int))) ((F.law34_awake n).bind fun y20 => some y20) ((F.braid_Valid n b_0_0 b_0_1).bind fun y23 => cond (!y23) ((F.law34_awake n).bind fun y29 => some y29) (cond (decide (b_0_0 < 2)) ((F.law34_awake n).bind fun y35 => some y35) ((F.garside_Form n b_0_0 b_0_1).bind fun y39 => cond (!(decide (y39.2.2.2 = 0))) (some false) ((chk ((b_0_1.length : Int) + 1)).bind fun z60 => (nz z60).bind fun u62 => cond (!(decide (letter_2 = 0))) ((chk (-b_0_0)).bind fun z69 => cond (decide (z69 < letter_2)) (F.law34_GarsideRelations_j1 n b_0_0 b_0_1 at_1 letter_2 y39 z60 (decide (letter_2 < b_0_0))) (F.law34_GarsideRelations_j1 n b_0_0 b_0_1 at_1 letter_2 y39 z60 false)) (F.law34_GarsideRelations_j1 n b_0_0 b_0_1 at_1 letter_2 y39 z60 false))))))

def garside_letters_b0 (n : Nat) (y4 : (List Int)) : (List Int) × Int × (List Int) → Option (((List Int) × Int × (List Int)) ⊕ (((List Int) × Int × (List Int))))
  | (l3_0, v4_0, qf9_0) => cond (decide (v4_0 < (y4.length : Int))) ((chk (v4_0 - 1)).bind fun z31 => (get qf9_0 z31).bind fun x33 => (get qf9_0 v4_0).bind fun x40 => cond (decide (x33 < x40)) ((chk (v4_0 + 1)).bind fun z50 => some (.inl (l3_0, z50, qf9_0))) ((chk (v4_0 - 1)).bind fun z55 => (get qf9_0 v4_0).bind fun x57 => (chk (v4_0 - 1)).bind fun z64 => (get qf9_0 z64).bind fun x66 => (get qf9_0 z55).bind fun x73 => (get (qf9_0.set z55.toNat x57) v4_0).bind fun x81 => (lim (l3_0.length + ([v4_0] : List Int).length)).bind fun u96 => (chk (v4_0 - 1)).bind fun z103 => some (.inl ((l3_0 ++ ([v4_0] : List Int)), (max 1 z103), ((qf9_0.set z55.toNat x57).set v4_0.toNat x66))))) (some (.inr (l3_0, v4_0, qf9_0)))

def garside_letters (n : Nat) (p_0 : List Int) : Option ((List Int)) :=
  (F.slices_Clone_Perm_int n p_0).bind fun y4 => ((loopN n (F.garside_letters_b0 n y4) (([] : List Int), 1, y4)).bind fun o17 => match o17 with
    | (l3_0, v4_0, qf9_0) => some l3_0)


def garside_Simple (n : Nat) (p_0 : List Int) : Option (Int × (List Int) × Int) :=
  (F.perm_Valid n p_0).bind fun y8 => cond (!y8) (some (0, [], 1)) (cond (decide ((p_0.length : Int) < 1)) (some (0, [], 1)) (cond (decide (10 < (p_0.length : Int))) (some (0, [], 1)) ((F.garside_letters n p_0).bind fun y26 => some ((p_0.length : Int), y26, 0))))

def slices_Equal_Lint_int_b0 (n : Nat) (s1_0 : List Int) (s2_1 : List Int) : Int → Option ((Int) ⊕ ((Int) ⊕ (Bool)))
  | v13_0 => cond (decide (v13_0 < (s1_0.length : Int))) ((get s1_0 v13_0).bind fun x25 => (get s2_1 v13_0).bind fun x32 => cond (!(decide (x25 = x32))) (some (.inr (.inr false))) ((chk (v13_0 + 1)).bind fun z41 => some (.inl z41))) (some (.inr (.inl v13_0)))

def slices_Equal_Lint_int (n : Nat) (s1_0 : List Int) (s2_1 : List Int) : Option (Bool) :=
  cond (!(decide ((s1_0.length : Int) = (s2_1.length : Int)))) (some false) (((loopN n (F.slices_Equal_Lint_int_b0 n s1_0 s2_1) 0).bind fun o10 => match o10 with
    | (.inl v13_0) => some true
    | (.inr q) => some q))

def law34_GarsideSimple_j1 (n : Nat) (p_0 : List Int) (y92 : Int × Int × (List (List Int)) × Int) (bf111_1_1 : Int) (kf111_2_1 : List (List Int)) : Option (Bool) :=
  cond (decide (y92.2.2.2 = 0)) ((F.law34_equal n y92.1 y92.2.1 y92.2.2.1 (p_0.length : Int) bf111_1_1 kf111_2_1).bind fun y148 => some y148) (some false)

def law34_GarsideSimple_j2 (n : Nat) (p_0 : List Int) (y19 : Int × (List Int) × Int) (y92 : Int × Int × (List (List Int)) × Int) (v96_2 : Bool) : Option (Bool) :=
  cond v96_2 (F.law34_GarsideSimple_j1 n p_0 y92 1 ([] : List (List Int))) (cond (decide (0 < (y19.2.1.length : Int))) (F.law34_GarsideSimple_j1 n p_0 y92 0 ([p_0] : List (List Int))) (F.law34_GarsideSimple_j1 n p_0 y92 0 ([] : List (List Int))))

def law34_GarsideSimple_j0 (n : Nat) (p_0 : List Int) (y19 : Int × (List Int) × Int) (v33_0 : Bool) : Option (Bool) :=
  cond v33_0 (cond (decide (y19.2.2 = 1)) (cond (decide (y19.1 = 0)) (some (decide ((y19.2.1.length : Int) = 0))) (some false)) (some false)) (cond (!(decide (y19.2.2 = 0))) (some false) (cond (!(decide (y19.1 = (p_0.length : Int)))) (some false) ((F.ref34_Word n p_0).bind fun y56 => (F.slices_Equal_Lint_int n y19.2.1 y56).bind fun y65 => cond (!y65) (some false) ((F.ref34_Inversions n p_0).bind fun y70 => cond (!(decide ((y19.2.1.length : Int) = y70))) (some false) ((F.braid_Perm n y19.1 y19.2.1).bind fun y76 => (F.slices_Equal_Perm_int n y76 p_0).bind fun y85 => cond (!y85) (some false) ((F.garside_Form n y19.1 y19.2.1).bind fun y92 => cond (decide (1 < (p_0.length : Int))) ((F.ref34_Half n (p_0.length : Int)).bind fun y117 => (F.slices_Equal_Lint_int n p_0 y117).bind fun y126 => F.law34_GarsideSimple_j2 n p_0 y19 y92 y126) (F.law34_GarsideSimple_j2 n p_0 y19 y92 false)))))))

def law34_GarsideSimple (n : Nat) (p_0 : List Int) : Option (Bool) :=
  (F.law34_awake n).bind fun y5 => cond (!y5) ((F.law34_awake n).bind fun y10 => some y10) (cond (decide (20 < (p_0.length : Int))) ((F.law34_awake n).bind fun y15 => some y15) ((F.garside_Simple n p_0).bind fun y19 => cond (decide ((p_0.length : Int) < 1)) (F.law34_GarsideSimple_j0 n p_0 y19 true) (cond (decide (10 < (p_0.length : Int))) (F.law34_GarsideSimple_j0 n p_0 y19 true) ((F.perm_Valid n p_0).bind fun y39 => F.law34_GarsideSimple_j0 n p_0 y19 (!y39)))))

def garside_Valid_b3 (n : Nat) (nx_0_0 : Int) (nx_0_2 : List (List Int)) (v5_2 : Int) (y111 : (List Int)) : Int → Option ((Int) ⊕ ((Int) ⊕ (Bool)))
  | v7_3 => cond (decide (v7_3 < nx_0_0)) ((get nx_0_2 v5_2).bind fun x136 => (chk (v7_3 - 1)).bind fun z148 => (get x136 z148).bind fun x150 => (get nx_0_2 v5_2).bind fun x157 => (get x157 v7_3).bind fun x169 => cond (decide (x169 < x150)) ((chk (v7_3 - 1)).bind fun z177 => (get y111 z177).bind fun x179 => (get y111 v7_3).bind fun x186 => cond (decide (x179 < x186)) (some (.inr (.inr false))) ((chk (v7_3 + 1)).bind fun z195 => some (.inl z195))) ((chk (v7_3 + 1)).bind fun z197 => some (.inl z197))) (some (.inr (.inl v7_3)))

def garside_Valid_b2 (n : Nat) (nx_0_0 : Int) (nx_0_2 : List (List Int)) : Int → Option ((Int) ⊕ ((Int) ⊕ (Bool)))
  | v5_2 => cond (decide (v5_2 < (nx_0_2.length : Int))) ((chk (v5_2 - 1)).bind fun z98 => (get nx_0_2 z98).bind fun x100 => (F.perm_Inverse n x100).bind fun y111 => ((loopN n (F.garside_Valid_b3 n nx_0_0 nx_0_2 v5_2 y111) 1).bind fun o122 => match o122 with
    | (.inl v7_3) => (chk (v5_2 + 1)).bind fun z201 => some (.inl z201)
    | (.inr q) => some (.inr (.inr q)))) (some (.inr (.inl v5_2)))

def garside_Valid_b1 (n : Nat) (nx_0_0 : Int) (nx_0_2 : List (List Int)) : Int → Option ((Int) ⊕ ((Int) ⊕ (Bool)))
  | v43_1 => cond (decide (v43_1 < (nx_0_2.length : Int))) ((get nx_0_2 v43_1).bind fun x42 => (F.perm_Valid n x42).bind fun y54 => cond (!y54) (some (.inr (.inr false))) (cond (!(decide ((x42.length : Int) = nx_0_0))) (some (.inr (.inr false))) ((F.slices_IsSorted_Perm_int n x42).bind fun y61 => cond y61 (some (.inr (.inr false))) ((F.garside_halfTwist n nx_0_0).bind fun y66 => (F.slices_Equal_Perm_int n x42 y66).bind fun y75 => cond y75 (some (.inr (.inr false))) ((chk (v43_1 + 1)).bind fun z80 => some (.inl z80)))))) (some (.inr (.inl v43_1)))

def garside_Valid_j0 (n : Nat) (nx_0_0 : Int) (nx_0_2 : List (List Int)) : Option (Bool) :=
  ((loopN n (F.garside_Valid_b1 n nx_0_0 nx_0_2) 0).bind fun o30 => match o30 with
    | (.inl v43_1) => ((loopN n (F.garside_Valid_b2 n nx_0_0 nx_0_2) 1).bind fun o86 => match o86 with
    | (.inl v5_2) => some true
    | (.inr q) => some q)
    | (.inr q) => some q)

def garside_Valid (n : Nat) (nx_0_0 : Int) (nx_0_1 : Int) (nx_0_2 : List (List Int)) : Option (Bool) :=
  cond (decide (nx_0_0 < 1)) (some false) (cond (decide (10 < nx_0_0)) (some false) (cond (decide (nx_0_1 < (-200))) (some false) (cond (decide (200 < nx_0_1)) (some false) (cond (decide (nx_0_0 = 1)) (cond (!(decide (nx_0_1 = 0))) (some false) (cond (decide (400 < (nx_0_2.length : Int))) (some false) (F.garside_Valid_j0 n nx_0_0 nx_0_2))) (cond (decide (400 < (nx_0_2.length : Int))) (some false) (F.garside_Valid_j0 n nx_0_0 nx_0_2))))))


def garside_Canonical (n : Nat) (nx_0_0 : Int) (nx_0_1 : Int) (nx_0_2 : List (List Int)) : Option (Int × Int) :=
  (F.garside_Valid n nx_0_0 nx_0_1 nx_0_2).bind fun y8 => cond (!y8) (some (0, 0)) ((chk (nx_0_1 + (nx_0_2.length : Int))).bind fun z16 => some (nx_0_1, z16))


def braid_Inverse_b0 (n : Nat) (b_0_1 : List Int) : Nat × (List Int) → Option ((Nat × (List Int)) ⊕ ((List Int)))
  | (k_0, kf30_0_0) => cond (decide (k_0 < b_0_1.length)) (((b_0_1.reverse)[k_0]?).bind fun x_0 => (chk (-x_0)).bind fun z50 => (lim (kf30_0_0.length + ([z50] : List Int).length)).bind fun u58 => some (.inl (k_0 + 1, (kf30_0_0 ++ ([z50] : List Int))))) (some (.inr kf30_0_0))

def braid_Inverse (n : Nat) (b_0_0 : Int) (b_0_1 : List Int) : Option (Int × (List Int)) :=
  (F.braid_Valid n b_0_0 b_0_1).bind fun y11 => cond (!y11) (some (0, [])) ((pos (b_0_1.length : Int)).bind fun u20 => ((loopN n (F.braid_Inverse_b0 n b_0_1) (0, ([] : List Int))).bind fun o38 => match o38 with
    | kf30_0_0 => some (b_0_0, kf30_0_0)))

def garside_Word_b2 (n : Nat) (nx_0_2 : List (List Int)) : Int × (List Int) → Option ((Int × (List Int)) ⊕ ((Int × (List Int))))
  | (v46_2, kf68_1_2) => cond (decide (v46_2 < (nx_0_2.length : Int))) ((get nx_0_2 v46_2).bind fun x110 => (F.garside_letters n x110).bind fun y123 => (lim (kf68_1_2.length + y123.length)).bind fun u132 => (chk (v46_2 + 1)).bind fun z140 => some (.inl (z140, (kf68_1_2 ++ y123)))) (some (.inr (v46_2, kf68_1_2)))

def garside_Word_b1 (n : Nat) (v5_0 : Int) (kf41_1_0 : List Int) : Int × (List Int) → Option ((Int × (List Int)) ⊕ ((Int × (List Int))))
  | (v34_1, kf68_1_1) => cond (decide (v34_1 < v5_0)) ((lim (kf68_1_1.length + kf41_1_0.length)).bind fun u84 => (chk (v34_1 + 1)).bind fun z92 => some (.inl (z92, (kf68_1_1 ++ kf41_1_0)))) (some (.inr (v34_1, kf68_1_1)))

def garside_Word_j0 (n : Nat) (nx_0_0 : Int) (nx_0_2 : List (List Int)) (v5_0 : Int) (bf41_0_0 : Int) (kf41_1_0 : List Int) : Option (Int × (List Int) × Int) :=
  ((loopN n (F.garside_Word_b1 n v5_0 kf41_1_0) (0, ([] : List Int))).bind fun o73 => match o73 with
    | (v34_1, kf68_1_1) => ((loopN n (F.garside_Word_b2 n nx_0_2) (0, kf68_1_1)).bind fun o98 => match o98 with
    | (v46_2, kf68_1_2) => cond (decide (200 < (kf68_1_2.length : Int))) (some (0, [], 5)) (some (nx_0_0, kf68_1_2, 0))))

def garside_Word (n : Nat) (nx_0_0 : Int) (nx_0_1 : Int) (nx_0_2 : List (List Int)) : Option (Int × (List Int) × Int) :=
  (F.garside_Valid n nx_0_0 nx_0_1 nx_0_2).bind fun y11 => cond (!y11) (some (0, [], 1)) ((F.garside_halfTwist n nx_0_0).bind fun y21 => (F.garside_letters n y21).bind fun y30 => cond (decide (nx_0_1 < 0)) ((F.braid_Inverse n nx_0_0 y30).bind fun y50 => (chk (-nx_0_1)).bind fun z60 => F.garside_Word_j0 n nx_0_0 nx_0_2 z60 y50.1 y50.2) (F.garside_Word_j0 n nx_0_0 nx_0_2 nx_0_1 nx_0_0 y30))

def law34_GarsideValid_b0 (n : Nat) (nx_0_2 : List (List Int)) : Int → Option ((Int) ⊕ ((Int) ⊕ (Bool)))
  | v23_0 => cond (decide (v23_0 < (nx_0_2.length : Int))) ((get nx_0_2 v23_0).bind fun x36 => cond (decide (20 < (x36.length : Int))) (some (.inr (.inr true))) ((chk (v23_0 + 1)).bind fun z50 => some (.inl z50))) (some (.inr (.inl v23_0)))

def law34_GarsideValid (n : Nat) (nx_0_0 : Int) (nx_0_1 : Int) (nx_0_2 : List (List Int)) : Option (Bool) :=
  (F.law34_awake n).bind fun y8 => cond (!y8) ((F.law34_awake n).bind fun y13 => some y13) (cond (decide (40 < (nx_0_2.length : Int))) ((F.law34_awake n).bind fun y19 => some y19) (((loopN n (F.law34_GarsideValid_b0 n nx_0_2) 0).bind fun o24 => match o24 with
    | (.inl v23_0) => (F.law34_plain n nx_0_2).bind fun y57 => (F.ref34_Valid n nx_0_0 nx_0_1 y57).bind fun y66 => (F.garside_Canonical n nx_0_0 nx_0_1 nx_0_2).bind fun y70 => (F.garside_Word n nx_0_0 nx_0_1 nx_0_2).bind fun y77 => (F.garside_Valid n nx_0_0 nx_0_1 nx_0_2).bind fun y94 => cond (!(y94 == y66)) (some false) (cond (!y66) (cond (decide (y70.1 = 0)) (cond (decide (y70.2 = 0)) (cond (decide (y77.2.2 = 1)) (cond (decide (y77.1 = 0)) (some (decide ((y77.2.1.length : Int) = 0))) (some false)) (some false)) (some false)) (some false)) (cond (!(decide (y70.1 = nx_0_1))) (some false) ((chk (nx_0_1 + (nx_0_2.length : Int))).bind fun z112 => cond (!(decide (y70.2 = z112))) (some false) ((F.law34_plain n nx_0_2).bind fun y120 => (F.ref34_Whole n nx_0_0 nx_0_1 y120).bind fun y129 => cond (decide (200 < (y129.length : Int))) (cond (decide (y77.2.2 = 5)) (cond (decide (y77.1 = 0)) (some (decide ((y77.2.1.length : Int) = 0))) (some false)) (some false)) (cond (decide (y77.2.2 = 0)) (cond (decide (y77.1 = nx_0_0)) ((F.slices_Equal_Lint_int n y77.2.1 y129).bind fun y148 => some y148) (some false)) (some false))))))
    | (.inr q) => some q)))


def braid_Mul (n : Nat) (a_0_0 : Int) (a_0_1 : List Int) (b_1_0 : Int) (b_1_1 : List Int) : Option (Int × (List Int) × Int) :=
  (F.braid_Valid n a_0_0 a_0_1).bind fun y15 => cond (!y15) (some (0, [], 1)) ((F.braid_Valid n b_1_0 b_1_1).bind fun y22 => cond (!y22) (some (0, [], 1)) (cond (!(decide (a_0_0 = b_1_0))) (some (0, [], 2)) ((chk ((a_0_1.length : Int) + (b_1_1.length : Int))).bind fun z38 => cond (decide (200 < z38)) (some (0, [], 5)) ((F.slices_Concat_Lint_int n ([a_0_1, b_1_1] : List (List Int))).bind fun y54 => some (a_0_0, y54, 0)))))


def law34_GarsideInverse (n : Nat) (b_0_0 : Int) (b_0_1 : List Int) : Option (Bool) :=
  (F.law34_awake n).bind fun y8 => cond (!y8) ((F.law34_awake n).bind fun y13 => some y13) (cond (decide (40 < (b_0_1.length : Int))) ((F.law34_awake n).bind fun y19 => some y19) ((F.braid_Valid n b_0_0 b_0_1).bind fun y22 => cond (!y22) ((F.law34_awake n).bind fun y28 => some y28) ((F.braid_Inverse n b_0_0 b_0_1).bind fun y32 => (F.braid_Mul n b_0_0 b_0_1 y32.1 y32.2).bind fun y47 => (F.garside_Form n y47.1 y47.2.1).bind fun y64 => (F.garside_Form n b_0_0 b_0_1).bind fun y81 => (F.garside_Form n y32.1 y32.2).bind fun y99 => (F.garside_Canonical n y81.1 y81.2.1 y81.2.2.1).bind fun y116 => (F.garside_Canonical n y99.1 y99.2.1 y99.2.2.1).bind fun y123 => cond (decide (y47.2.2 = 0)) (cond (decide (y64.2.2.2 = 0)) (cond (decide (y81.2.2.2 = 0)) (cond (decide (y99.2.2.2 = 0)) (cond (decide (y64.2.1 = 0)) (cond (decide ((y64.2.2.1.length : Int) = 0)) ((chk (-y116.2)).bind fun z135 => cond (decide (y123.1 = z135)) ((chk (-y116.1)).bind fun z138 => some (decide (y123.2 = z138))) (some false)) (some false)) (some false)) (some false)) (some false)) (some false)) (some false))))

def law34_GarsideReturns_j0 (n : Nat) (b_1_0 : Int) (b_1_1 : List Int) : Option (Bool) :=
  (F.braid_Valid n b_1_0 b_1_1).bind fun y81 => cond (!y81) (some true) ((F.garside_Form n b_1_0 b_1_1).bind fun y87 => (F.garside_Word n y87.1 y87.2.1 y87.2.2.1).bind fun y105 => cond (decide (y87.2.2.2 = 0)) (cond (decide (y105.2.2 = 5)) (some true) (cond (decide (y105.2.2 = 0)) ((F.garside_Same n y105.1 y105.2.1 b_1_0 b_1_1).bind fun y124 => some y124) (some false))) (some false))

def law34_GarsideReturns (n : Nat) (nx_0_0 : Int) (nx_0_1 : Int) (nx_0_2 : List (List Int)) (b_1_0 : Int) (b_1_1 : List Int) : Option (Bool) :=
  (F.law34_awake n).bind fun y12 => cond (!y12) ((F.law34_awake n).bind fun y17 => some y17) (cond (decide (40 < (nx_0_2.length : Int))) ((F.law34_awake n).bind fun y23 => some y23) (cond (decide (40 < (b_1_1.length : Int))) ((F.law34_awake n).bind fun y29 => some y29) ((F.garside_Word n nx_0_0 nx_0_1 nx_0_2).bind fun y34 => cond (decide (y34.2.2 = 0)) ((F.garside_Form n y34.1 y34.2.1).bind fun y52 => cond (!(decide (y52.2.2.2 = 0))) (some false) ((F.law34_equal n y52.1 y52.2.1 y52.2.2.1 nx_0_0 nx_0_1 nx_0_2).bind fun y72 => cond (!y72) (some false) (F.law34_GarsideReturns_j0 n b_1_0 b_1_1))) (F.law34_GarsideReturns_j0 n b_1_0 b_1_1))))

end F
end Go.Proofs.Ytkeaonceaaafcaa
