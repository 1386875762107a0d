/- The plain functions. -/
import Derived.Test.YtlkmcbgkohpmiaaRun
import Derived.Test.YtlkmcbgkohpmiaaMore
import Derived.Test.YtlkmcbgkohpmiaaCall
import Derived.Test.YtlkmcbgkohpmiaaNest
import Derived.Test.YtlkmcbgkohpmiaaRange
set_option linter.unusedVariables false
set_option linter.unusedSimpArgs false
namespace Go.Proofs.Ytlkmcbgkohpmiaa
open Ev
namespace F
def braid_Valid_b0 (n : Nat) (b_0_0 : Int) (b_0_1 : List Int) : Int → Option ((Int) ⊕ ((Int) ⊕ (Bool)))
  | v22_0 => cond (decide (v22_0 < (b_0_1.length : Int))) ((get b_0_1 v22_0).bind fun x29 => cond (decide (x29 = 0)) (some (.inr (.inr false))) ((chk (-b_0_0)).bind fun z38 => cond (decide (x29 ≤ z38)) (some (.inr (.inr false))) (cond (decide (b_0_0 ≤ x29)) (some (.inr (.inr false))) ((chk (v22_0 + 1)).bind fun z44 => some (.inl z44))))) (some (.inr (.inl v22_0)))

def braid_Valid (n : Nat) (b_0_0 : Int) (b_0_1 : List Int) : Option (Bool) :=
  cond (decide (b_0_0 < 1)) (some false) (cond (decide (10 < b_0_0)) (some false) (cond (decide (200 < (b_0_1.length : Int))) (some false) (((loopN n (F.braid_Valid_b0 n b_0_0 b_0_1) 0).bind fun o17 => match o17 with
    | (.inl v22_0) => some true
    | (.inr q) => some q))))

def word_Valid_b0 (n : Nat) (wx_0 : List Int) (rank_1 : Int) : Int → Option ((Int) ⊕ ((Int) ⊕ (Bool)))
  | v9_0 => cond (decide (v9_0 < (wx_0.length : Int))) ((get wx_0 v9_0).bind fun x17 => cond (decide (rank_1 < 1)) (some (.inr (.inr false))) (cond (decide (x17 = 0)) (some (.inr (.inr false))) (cond (decide (rank_1 < x17)) (some (.inr (.inr false))) ((chk (-rank_1)).bind fun z30 => cond (decide (x17 < z30)) (some (.inr (.inr false))) ((chk (v9_0 + 1)).bind fun z34 => some (.inl z34)))))) (some (.inr (.inl v9_0)))

def word_Valid (n : Nat) (wx_0 : List Int) (rank_1 : Int) : Option (Bool) :=
  ((loopN n (F.word_Valid_b0 n wx_0 rank_1) 0).bind fun o5 => match o5 with
    | (.inl v9_0) => some true
    | (.inr q) => some q)

def word_push_b0 (n : Nat) (letters_1 : List Int) : (List Int) × Int → Option (((List Int) × Int) ⊕ (((List Int) × Int)))
  | (l0_0, v10_0) => cond (decide (v10_0 < (letters_1.length : Int))) ((get letters_1 v10_0).bind fun x18 => (chk ((l0_0.length : Int) - 1)).bind fun z25 => cond (decide (0 ≤ z25)) ((get l0_0 z25).bind fun x29 => (chk (-x18)).bind fun z35 => cond (decide (x29 = z35)) ((cut 0 z25 l0_0.length).bind fun u39 => (chk (v10_0 + 1)).bind fun z43 => some (.inl ((l0_0.take z25.toNat), z43))) ((lim (l0_0.length + ([x18] : List Int).length)).bind fun u51 => (chk (v10_0 + 1)).bind fun z58 => some (.inl ((l0_0 ++ ([x18] : List Int)), z58)))) ((lim (l0_0.length + ([x18] : List Int).length)).bind fun u67 => (chk (v10_0 + 1)).bind fun z74 => some (.inl ((l0_0 ++ ([x18] : List Int)), z74)))) (some (.inr (l0_0, v10_0)))

def word_push (n : Nat) (stack_0 : List Int) (letters_1 : List Int) : Option ((List Int)) :=
  ((loopN n (F.word_push_b0 n letters_1) (stack_0, 0)).bind fun o6 => match o6 with
    | (l0_0, v10_0) => some l0_0)


def word_Reduce (n : Nat) (wx_0 : List Int) : Option ((List Int)) :=
  (pos (wx_0.length : Int)).bind fun u4 => (F.word_push n ([] : List Int) wx_0).bind fun y12 => some y12

def artin_Act_c1_b0 (n : Nat) (u_1_0 : Int) : Int × (List (List Int)) → Option ((Int × (List (List Int))) ⊕ ((Int × (List (List Int)))))
  | (v12_0, qf12_0) => cond (decide (v12_0 < (((List.replicate u_1_0.toNat ([] : List Int))).length : Int))) ((chk (v12_0 + 1)).bind fun z27 => (get qf12_0 v12_0).bind fun x35 => (chk (v12_0 + 1)).bind fun z42 => some (.inl (z42, (qf12_0.set v12_0.toNat ([z27] : List Int))))) (some (.inr (v12_0, qf12_0)))

def artin_Act_c1 (n : Nat) (letter_0 : Int) (u_1_0 : Int) (u_1_1 : List Int) : Option ((List (List Int))) :=
  (pos u_1_0).bind fun u5 => ((loopN n (F.artin_Act_c1_b0 n u_1_0) (0, (List.replicate u_1_0.toNat ([] : List Int)))).bind fun o15 => match o15 with
    | (v12_0, qf12_0) => cond (decide (0 < letter_0)) ((chk (letter_0 - 1)).bind fun z50 => (chk (letter_0 + 1)).bind fun z52 => (chk (-letter_0)).bind fun z54 => (get qf12_0 z50).bind fun x68 => (get (qf12_0.set z50.toNat ([letter_0, z52, z54] : List Int)) letter_0).bind fun x75 => some ((qf12_0.set z50.toNat ([letter_0, z52, z54] : List Int)).set letter_0.toNat ([letter_0] : List Int))) ((chk (-letter_0)).bind fun z84 => (chk (z84 - 1)).bind fun z86 => (chk (z84 + 1)).bind fun z88 => (chk (z84 + 1)).bind fun z96 => (chk (-z96)).bind fun z98 => (chk (z84 + 1)).bind fun z100 => (get qf12_0 z86).bind fun x108 => (get (qf12_0.set z86.toNat ([z88] : List Int)) z84).bind fun x115 => some ((qf12_0.set z86.toNat ([z88] : List Int)).set z84.toNat ([z98, z84, z100] : List Int))))


def word_Substitute_b2 (n : Nat) (x106 : List Int) : Nat × (List Int) → Option ((Nat × (List Int)) ⊕ ((List Int)))
  | (k_2, kf46_0_2) => cond (decide (k_2 < x106.length)) (((x106.reverse)[k_2]?).bind fun x_2 => (chk (-x_2)).bind fun z133 => (F.word_push n kf46_0_2 ([z133] : List Int)).bind fun y141 => some (.inl (k_2 + 1, y141))) (some (.inr kf46_0_2))

def word_Substitute_b1 (n : Nat) (wx_0 : List Int) (images_1 : List (List Int)) : Int × (List Int) → Option ((Int × (List Int)) ⊕ ((Int × (List Int))))
  | (v28_1, kf46_0_1) => cond (decide (v28_1 < (wx_0.length : Int))) ((get wx_0 v28_1).bind fun x62 => cond (decide (0 < x62)) ((chk (x62 - 1)).bind fun z74 => (get images_1 z74).bind fun x76 => (F.word_push n kf46_0_1 x76).bind fun y88 => (chk (v28_1 + 1)).bind fun z99 => some (.inl (z99, y88))) ((chk (-x62)).bind fun z102 => (chk (z102 - 1)).bind fun z104 => (get images_1 z104).bind fun x106 => ((loopN n (F.word_Substitute_b2 n x106) (0, kf46_0_1)).bind fun o121 => match o121 with
    | kf46_0_2 => (chk (v28_1 + 1)).bind fun z153 => some (.inl (z153, kf46_0_2))))) (some (.inr (v28_1, kf46_0_1)))

def word_Substitute_b0 (n : Nat) (wx_0 : List Int) (images_1 : List (List Int)) : Int → Option ((Int) ⊕ ((Int) ⊕ ((List Int) × Int)))
  | v15_0 => cond (decide (v15_0 < (wx_0.length : Int))) ((get wx_0 v15_0).bind fun x18 => (F.word_Valid n ([x18] : List Int) (images_1.length : Int)).bind fun y31 => cond (!y31) (some (.inr (.inr ([], 2)))) ((chk (v15_0 + 1)).bind fun z39 => some (.inl z39))) (some (.inr (.inl v15_0)))

def word_Substitute (n : Nat) (wx_0 : List Int) (images_1 : List (List Int)) : Option ((List Int) × Int) :=
  ((loopN n (F.word_Substitute_b0 n wx_0 images_1) 0).bind fun o6 => match o6 with
    | (.inl v15_0) => ((loopN n (F.word_Substitute_b1 n wx_0 images_1) (0, ([] : List Int))).bind fun o50 => match o50 with
    | (v28_1, kf46_0_1) => some (kf46_0_1, 0))
    | (.inr q) => some q)

def artin_Act_b0 (n : Nat) (b_0_0 : Int) (b_0_1 : List Int) : (List Int) × Int → Option (((List Int) × Int) ⊕ (((List Int) × Int) ⊕ ((List Int) × Int)))
  | (l7_0, v29_0) => cond (decide (v29_0 < (b_0_1.length : Int))) ((get b_0_1 v29_0).bind fun x55 => (F.artin_Act_c1 n x55 b_0_0 b_0_1).bind fun y62 => (F.word_Substitute n l7_0 y62).bind fun y71 => cond (!(decide (y71.2 = 0))) (some (.inr (.inr ([], y71.2)))) (cond (decide (20000 < (y71.1.length : Int))) (some (.inr (.inr ([], 5)))) ((chk (v29_0 + 1)).bind fun z92 => some (.inl (y71.1, z92))))) (some (.inr (.inl (l7_0, v29_0))))

def artin_Act (n : Nat) (b_0_0 : Int) (b_0_1 : List Int) (wx_1 : List Int) : Option ((List Int) × Int) :=
  (F.braid_Valid n b_0_0 b_0_1).bind fun y9 => cond (!y9) (some ([], 1)) ((F.word_Valid n wx_1 b_0_0).bind fun y17 => cond (!y17) (some ([], 2)) ((F.word_Reduce n wx_1).bind fun y26 => cond (decide (20000 < (y26.length : Int))) (some ([], 5)) (((loopN n (F.artin_Act_b0 n b_0_0 b_0_1) (y26, 0)).bind fun o43 => match o43 with
    | (.inl (l7_0, v29_0)) => some (l7_0, 0)
    | (.inr q) => some q))))

def artin_Images_b0 (n : Nat) (b_0_0 : Int) (b_0_1 : List Int) : (List (List Int)) × Int → Option (((List (List Int)) × Int) ⊕ (((List (List Int)) × Int) ⊕ ((List (List Int)) × Int)))
  | (l4_0, v13_0) => cond (decide (v13_0 < b_0_0)) ((chk (v13_0 + 1)).bind fun z32 => (F.artin_Act n b_0_0 b_0_1 ([z32] : List Int)).bind fun y40 => cond (!(decide (y40.2 = 0))) (some (.inr (.inr ([], y40.2)))) ((lim (l4_0.length + ([y40.1] : List (List Int)).length)).bind fun u62 => (chk (v13_0 + 1)).bind fun z69 => some (.inl ((l4_0 ++ ([y40.1] : List (List Int))), z69)))) (some (.inr (.inl (l4_0, v13_0))))

def artin_Images (n : Nat) (b_0_0 : Int) (b_0_1 : List Int) : Option ((List (List Int)) × Int) :=
  (F.braid_Valid n b_0_0 b_0_1).bind fun y8 => cond (!y8) (some ([], 1)) (((loopN n (F.artin_Images_b0 n b_0_0 b_0_1) (([] : List (List Int)), 0)).bind fun o19 => match o19 with
    | (.inl (l4_0, v13_0)) => some (l4_0, 0)
    | (.inr q) => some q))


def braid_generator (n : Nat) (letter_0 : Int) : Option (Int) :=
  (chk (-letter_0)).bind fun z3 => some (max letter_0 z3)

def braid_Perm_b2 (n : Nat) (b_0_0 : Int) (qf22_1 : List Int) : Int × (List Int) → Option ((Int × (List Int)) ⊕ ((Int × (List Int))))
  | (v58_2, qf121_2) => cond (decide (v58_2 < (((List.replicate b_0_0.toNat (0 : Int))).length : Int))) ((get qf22_1 v58_2).bind fun x136 => (get qf121_2 x136).bind fun x142 => (chk (v58_2 + 1)).bind fun z149 => some (.inl (z149, (qf121_2.set x136.toNat v58_2)))) (some (.inr (v58_2, qf121_2)))

def braid_Perm_b1 (n : Nat) (b_0_1 : List Int) : Int × (List Int) → Option ((Int × (List Int)) ⊕ ((Int × (List Int))))
  | (v30_1, qf22_1) => cond (decide (v30_1 < (b_0_1.length : Int))) ((get b_0_1 v30_1).bind fun x63 => (F.braid_generator n x63).bind fun y70 => (chk (y70 - 1)).bind fun z76 => (get qf22_1 y70).bind fun x78 => (chk (y70 - 1)).bind fun z85 => (get qf22_1 z85).bind fun x87 => (get qf22_1 z76).bind fun x94 => (get (qf22_1.set z76.toNat x78) y70).bind fun x102 => (chk (v30_1 + 1)).bind fun z109 => some (.inl (z109, ((qf22_1.set z76.toNat x78).set y70.toNat x87)))) (some (.inr (v30_1, qf22_1)))

def braid_Perm_b0 (n : Nat) (b_0_0 : Int) : Int × (List Int) → Option ((Int × (List Int)) ⊕ ((Int × (List Int))))
  | (v19_0, qf22_0) => cond (decide (v19_0 < (((List.replicate b_0_0.toNat (0 : Int))).length : Int))) ((get qf22_0 v19_0).bind fun x38 => (chk (v19_0 + 1)).bind fun z45 => some (.inl (z45, (qf22_0.set v19_0.toNat v19_0)))) (some (.inr (v19_0, qf22_0)))

def braid_Perm (n : Nat) (b_0_0 : Int) (b_0_1 : List Int) : Option ((List Int)) :=
  (F.braid_Valid n b_0_0 b_0_1).bind fun y8 => cond (!y8) (some ([])) ((pos b_0_0).bind fun u15 => ((loopN n (F.braid_Perm_b0 n b_0_0) (0, (List.replicate b_0_0.toNat (0 : Int)))).bind fun o26 => match o26 with
    | (v19_0, qf22_0) => ((loopN n (F.braid_Perm_b1 n b_0_1) (0, qf22_0)).bind fun o51 => match o51 with
    | (v30_1, qf22_1) => (pos b_0_0).bind fun u114 => ((loopN n (F.braid_Perm_b2 n b_0_0 qf22_1) (0, (List.replicate b_0_0.toNat (0 : Int)))).bind fun o124 => match o124 with
    | (v58_2, qf121_2) => some qf121_2))))

def perm_Valid_b0 (n : Nat) (p_0 : List Int) : Int × (List Bool) → Option ((Int × (List Bool)) ⊕ ((Int × (List Bool)) ⊕ (Bool)))
  | (v11_0, qf11_0) => cond (decide (v11_0 < (p_0.length : Int))) ((get p_0 v11_0).bind fun x26 => cond (decide (x26 < 0)) (some (.inr (.inr false))) (cond (decide ((p_0.length : Int) ≤ x26)) (some (.inr (.inr false))) ((get qf11_0 x26).bind fun x38 => cond x38 (some (.inr (.inr false))) ((get qf11_0 x26).bind fun x47 => (chk (v11_0 + 1)).bind fun z54 => some (.inl (z54, (qf11_0.set x26.toNat true))))))) (some (.inr (.inl (v11_0, qf11_0))))

def perm_Valid (n : Nat) (p_0 : List Int) : Option (Bool) :=
  (pos (p_0.length : Int)).bind fun u4 => ((loopN n (F.perm_Valid_b0 n p_0) (0, (List.replicate (p_0.length : Int).toNat false))).bind fun o14 => match o14 with
    | (.inl (v11_0, qf11_0)) => some true
    | (.inr q) => some q)

def perm_Cycles_b1 (n : Nat) (p_0 : List Int) : (List Int) × Int × (List Bool) → Option (((List Int) × Int × (List Bool)) ⊕ (((List Int) × Int × (List Bool))))
  | (l6_1, v7_1, qf20_1) => (get qf20_1 v7_1).bind fun x50 => cond (!x50) ((get qf20_1 v7_1).bind fun x59 => (lim (l6_1.length + ([v7_1] : List Int).length)).bind fun u72 => (get p_0 v7_1).bind fun x80 => some (.inl ((l6_1 ++ ([v7_1] : List Int)), x80, (qf20_1.set v7_1.toNat true)))) (some (.inr (l6_1, v7_1, qf20_1)))

def perm_Cycles_b0 (n : Nat) (p_0 : List Int) : (List (List Int)) × Int × (List Bool) → Option (((List (List Int)) × Int × (List Bool)) ⊕ (((List (List Int)) × Int × (List Bool))))
  | (l3_0, v16_0, qf20_0) => cond (decide (v16_0 < (p_0.length : Int))) (((loopN n (F.perm_Cycles_b1 n p_0) (([] : List Int), v16_0, qf20_0)).bind fun o41 => match o41 with
    | (l6_1, v7_1, qf20_1) => cond (decide (0 < (l6_1.length : Int))) ((lim (l3_0.length + ([l6_1] : List (List Int)).length)).bind fun u96 => (chk (v16_0 + 1)).bind fun z103 => some (.inl ((l3_0 ++ ([l6_1] : List (List Int))), z103, qf20_1))) ((chk (v16_0 + 1)).bind fun z105 => some (.inl (l3_0, z105, qf20_1))))) (some (.inr (l3_0, v16_0, qf20_0)))

def perm_Cycles (n : Nat) (p_0 : List Int) : Option ((List (List Int))) :=
  (F.perm_Valid n p_0).bind fun y5 => cond (!y5) (some ([])) ((pos (p_0.length : Int)).bind fun u13 => ((loopN n (F.perm_Cycles_b0 n p_0) (([] : List (List Int)), 0, (List.replicate (p_0.length : Int).toNat false))).bind fun o25 => match o25 with
    | (l3_0, v16_0, qf20_0) => some l3_0))

def word_Mul_b0 (n : Nat) (l_0 : List (List Int)) : (List Int) × Int → Option (((List Int) × Int) ⊕ (((List Int) × Int)))
  | (l3_0, v8_0) => cond (decide (v8_0 < (l_0.length : Int))) ((get l_0 v8_0).bind fun x19 => (F.word_push n l3_0 x19).bind fun y30 => (chk (v8_0 + 1)).bind fun z39 => some (.inl (y30, z39))) (some (.inr (l3_0, v8_0)))

def word_Mul (n : Nat) (l_0 : List (List Int)) : Option ((List Int)) :=
  ((loopN n (F.word_Mul_b0 n l_0) (([] : List Int), 0)).bind fun o7 => match o7 with
    | (l3_0, v8_0) => some l3_0)

def artin_Group_b1 (n : Nat) (v32_0 : Int) (x76 : List Int) : Int × (List Int) → Option ((Int × (List Int)) ⊕ ((Int × (List Int))))
  | (v39_1, qf38_1) => cond (decide (v39_1 < (x76.length : Int))) ((get x76 v39_1).bind fun x100 => (get qf38_1 x100).bind fun x106 => (chk (v39_1 + 1)).bind fun z113 => some (.inl (z113, (qf38_1.set x100.toNat v32_0)))) (some (.inr (v39_1, qf38_1)))

def artin_Group_b2 (n : Nat) (y10 : (List (List Int)) × Int) : Int × (List (List Int)) → Option ((Int × (List (List Int))) ⊕ ((Int × (List (List Int)))))
  | (v52_2, kf41_2_2) => cond (decide (v52_2 < (y10.1.length : Int))) ((get y10.1 v52_2).bind fun x136 => (chk (v52_2 + 1)).bind fun z149 => (chk (-z149)).bind fun z151 => (F.word_Mul n ([x136, ([z151] : List Int)] : List (List Int))).bind fun y165 => (lim (kf41_2_2.length + ([y165] : List (List Int)).length)).bind fun u180 => (chk (v52_2 + 1)).bind fun z188 => some (.inl (z188, (kf41_2_2 ++ ([y165] : List (List Int)))))) (some (.inr (v52_2, kf41_2_2)))

def artin_Group_b0 (n : Nat) (y54 : (List (List Int))) : Int × (List Int) → Option ((Int × (List Int)) ⊕ ((Int × (List Int))))
  | (v32_0, qf38_0) => cond (decide (v32_0 < (y54.length : Int))) ((get y54 v32_0).bind fun x76 => ((loopN n (F.artin_Group_b1 n v32_0 x76) (0, qf38_0)).bind fun o88 => match o88 with
    | (v39_1, qf38_1) => (chk (v32_0 + 1)).bind fun z117 => some (.inl (z117, qf38_1)))) (some (.inr (v32_0, qf38_0)))

def artin_Group (n : Nat) (b_0_0 : Int) (b_0_1 : List Int) : Option (Int × (List Int) × (List (List Int)) × Int) :=
  (F.artin_Images n b_0_0 b_0_1).bind fun y10 => cond (!(decide (y10.2 = 0))) (some (0, [], [], y10.2)) ((pos b_0_0).bind fun u31 => (F.braid_Perm n b_0_0 b_0_1).bind fun y45 => (F.perm_Cycles n y45).bind fun y54 => ((loopN n (F.artin_Group_b0 n y54) (0, (List.replicate b_0_0.toNat (0 : Int)))).bind fun o64 => match o64 with
    | (v32_0, qf38_0) => ((loopN n (F.artin_Group_b2 n y10) (0, ([] : List (List Int)))).bind fun o124 => match o124 with
    | (v52_2, kf41_2_2) => some (b_0_0, qf38_0, kf41_2_2, 0))))

def slices_Equal_Word_int_b0 (n : Nat) (s1_0 : List Int) (s2_1 : List Int) : Int → Option ((Int) ⊕ ((Int) ⊕ (Bool)))
  | v13_0 => cond (decide (v13_0 < (s1_0.length : Int))) ((get s1_0 v13_0).bind fun x25 => (get s2_1 v13_0).bind fun x32 => cond (!(decide (x25 = x32))) (some (.inr (.inr false))) ((chk (v13_0 + 1)).bind fun z41 => some (.inl z41))) (some (.inr (.inl v13_0)))

def slices_Equal_Word_int (n : Nat) (s1_0 : List Int) (s2_1 : List Int) : Option (Bool) :=
  cond (!(decide ((s1_0.length : Int) = (s2_1.length : Int)))) (some false) (((loopN n (F.slices_Equal_Word_int_b0 n s1_0 s2_1) 0).bind fun o10 => match o10 with
    | (.inl v13_0) => some true
    | (.inr q) => some q))


def law35_awake (n : Nat) : Option (Bool) :=
  (F.artin_Images n 2 ([1] : List Int)).bind fun y9 => (F.artin_Group n 2 ([1, 1, 1] : List Int)).bind fun y26 => cond (decide (y9.2 = 0)) (cond (decide (y26.2.2.2 = 0)) (cond (decide ((y9.1.length : Int) = 2)) ((get y9.1 0).bind fun x52 => (F.slices_Equal_Word_int n x52 ([1, 2, (-1)] : List Int)).bind fun y69 => cond y69 ((get y9.1 1).bind fun x73 => (F.slices_Equal_Word_int n x73 ([1] : List Int)).bind fun y90 => cond y90 (cond (decide ((y26.2.2.1.length : Int) = 2)) ((get y26.2.2.1 1).bind fun x95 => (F.slices_Equal_Word_int n x95 ([1, 2, 1, (-2), (-1), (-2)] : List Int)).bind fun y112 => some y112) (some false)) (some false)) (some false)) (some false)) (some false)) (some false)


def law35_great (n : Nat) (b_0_0 : Int) (b_0_1 : List Int) : Option (Bool) :=
  cond (decide (14 < (b_0_1.length : Int))) (some true) (cond (decide (5 < b_0_0)) (some (decide (b_0_0 ≤ 10))) (some false))

def ref33_Valid_b0 (n : Nat) (strands_0 : Int) (word_1 : List Int) : Int → Option ((Int) ⊕ ((Int) ⊕ (Bool)))
  | v5_0 => cond (decide (v5_0 < (word_1.length : Int))) ((get word_1 v5_0).bind fun x26 => cond (decide (x26 = 0)) (some (.inr (.inr false))) ((get word_1 v5_0).bind fun x34 => cond (decide (strands_0 ≤ x34)) (some (.inr (.inr false))) ((get word_1 v5_0).bind fun x42 => (chk (-strands_0)).bind fun z48 => cond (decide (x42 ≤ z48)) (some (.inr (.inr false))) ((chk (v5_0 + 1)).bind fun z52 => some (.inl z52))))) (some (.inr (.inl v5_0)))

def ref33_Valid (n : Nat) (strands_0 : Int) (word_1 : List Int) : Option (Bool) :=
  cond (decide (strands_0 < 1)) (some false) (cond (decide (10 < strands_0)) (some false) (cond (decide (200 < (word_1.length : Int))) (some false) (((loopN n (F.ref33_Valid_b0 n strands_0 word_1) 0).bind fun o14 => match o14 with
    | (.inl v5_0) => some true
    | (.inr q) => some q))))

def ref21_Valid_b0 (n : Nat) (wx_0 : List Int) (rank_1 : Int) : Int → Option ((Int) ⊕ ((Int) ⊕ (Bool)))
  | v5_0 => cond (decide (v5_0 < (wx_0.length : Int))) ((get wx_0 v5_0).bind fun x17 => cond (decide (x17 = 0)) (some (.inr (.inr false))) ((get wx_0 v5_0).bind fun x25 => cond (decide (rank_1 < x25)) (some (.inr (.inr false))) ((get wx_0 v5_0).bind fun x33 => (chk (-rank_1)).bind fun z39 => cond (decide (x33 < z39)) (some (.inr (.inr false))) ((chk (v5_0 + 1)).bind fun z43 => some (.inl z43))))) (some (.inr (.inl v5_0)))

def ref21_Valid (n : Nat) (wx_0 : List Int) (rank_1 : Int) : Option (Bool) :=
  ((loopN n (F.ref21_Valid_b0 n wx_0 rank_1) 0).bind fun o5 => match o5 with
    | (.inl v5_0) => some true
    | (.inr q) => some q)

def ref21_Reduce_b0 (n : Nat) : (List Int) × Int → Option (((List Int) × Int) ⊕ (((List Int) × Int)))
  | (l3_0, v4_0) => (chk (v4_0 + 1)).bind fun z28 => cond (decide (z28 < (l3_0.length : Int))) ((get l3_0 v4_0).bind fun x34 => (chk (v4_0 + 1)).bind fun z41 => (get l3_0 z41).bind fun x43 => (chk (-x43)).bind fun z50 => cond (decide (x34 = z50)) ((cut 0 v4_0 l3_0.length).bind fun u63 => (lim (([] : List Int).length + ((l3_0.drop (0 : Int).toNat).take (v4_0.toNat - (0 : Int).toNat)).length)).bind fun u72 => (chk (v4_0 + 2)).bind fun z79 => (cut z79 (l3_0.length : Int) l3_0.length).bind fun u81 => (lim ((([] : List Int) ++ ((l3_0.drop (0 : Int).toNat).take (v4_0.toNat - (0 : Int).toNat))).length + ((l3_0.drop z79.toNat).take ((l3_0.length : Int).toNat - z79.toNat)).length)).bind fun u90 => some (.inl (((([] : List Int) ++ ((l3_0.drop (0 : Int).toNat).take (v4_0.toNat - (0 : Int).toNat))) ++ ((l3_0.drop z79.toNat).take ((l3_0.length : Int).toNat - z79.toNat))), 0))) ((chk (v4_0 + 1)).bind fun z97 => some (.inl (l3_0, z97)))) (some (.inr (l3_0, v4_0)))

def ref21_Reduce (n : Nat) (wx_0 : List Int) : Option ((List Int)) :=
  (lim (([] : List Int).length + wx_0.length)).bind fun u10 => ((loopN n (F.ref21_Reduce_b0 n) ((([] : List Int) ++ wx_0), 0)).bind fun o19 => match o19 with
    | (l3_0, v4_0) => some l3_0)

def ref35_letters_j4 (n : Nat) (x_1 : Int) (l5_0 : List (List Int)) (v6_0 : Int) (l7_3 : List Int) (v58_4 : Bool) : Option (((List (List Int)) × Int) ⊕ (((List (List Int)) × Int))) :=
  cond v58_4 ((chk (-x_1)).bind fun z84 => (chk (z84 + 1)).bind fun z86 => (chk (-z86)).bind fun z88 => (chk (-x_1)).bind fun z90 => (chk (-x_1)).bind fun z92 => (chk (z92 + 1)).bind fun z94 => (lim (l5_0.length + ([([z88, z90, z94] : List Int)] : List (List Int)).length)).bind fun u109 => (chk (v6_0 + 1)).bind fun z116 => some (.inl ((l5_0 ++ ([([z88, z90, z94] : List Int)] : List (List Int))), z116))) ((lim (l5_0.length + ([l7_3] : List (List Int)).length)).bind fun u124 => (chk (v6_0 + 1)).bind fun z131 => some (.inl ((l5_0 ++ ([l7_3] : List (List Int))), z131)))

def ref35_letters_j3 (n : Nat) (x_1 : Int) (l5_0 : List (List Int)) (v6_0 : Int) (l7_3 : List Int) (v45_3 : Bool) : Option (((List (List Int)) × Int) ⊕ (((List (List Int)) × Int))) :=
  cond (decide (x_1 < 0)) ((chk (-x_1)).bind fun z77 => (chk (z77 + 1)).bind fun z79 => F.ref35_letters_j4 n x_1 l5_0 v6_0 l7_3 (decide (v6_0 = z79))) (F.ref35_letters_j4 n x_1 l5_0 v6_0 l7_3 false)

def ref35_letters_j2 (n : Nat) (x_1 : Int) (l5_0 : List (List Int)) (v6_0 : Int) (l7_2 : List Int) (v35_2 : Bool) : Option (((List (List Int)) × Int) ⊕ (((List (List Int)) × Int))) :=
  cond (decide (x_1 < 0)) ((chk (-x_1)).bind fun z59 => cond (decide (v6_0 = z59)) ((chk (-x_1)).bind fun z62 => (chk (z62 + 1)).bind fun z64 => F.ref35_letters_j3 n x_1 l5_0 v6_0 ([z64] : List Int) (decide (v6_0 = z59))) (F.ref35_letters_j3 n x_1 l5_0 v6_0 l7_2 (decide (v6_0 = z59)))) (F.ref35_letters_j3 n x_1 l5_0 v6_0 l7_2 false)

def ref35_letters_j1 (n : Nat) (x_1 : Int) (l5_0 : List (List Int)) (v6_0 : Int) (l7_1 : List Int) (v21_1 : Bool) : Option (((List (List Int)) × Int) ⊕ (((List (List Int)) × Int))) :=
  cond (decide (0 < x_1)) ((chk (x_1 + 1)).bind fun z45 => cond (decide (v6_0 = z45)) (F.ref35_letters_j2 n x_1 l5_0 v6_0 ([x_1] : List Int) (decide (v6_0 = z45))) (F.ref35_letters_j2 n x_1 l5_0 v6_0 l7_1 (decide (v6_0 = z45)))) (F.ref35_letters_j2 n x_1 l5_0 v6_0 l7_1 false)

def ref35_letters_b0 (n : Nat) (strands_0 : Int) (x_1 : Int) : (List (List Int)) × Int → Option (((List (List Int)) × Int) ⊕ (((List (List Int)) × Int)))
  | (l5_0, v6_0) => cond (decide (v6_0 ≤ strands_0)) (cond (decide (0 < x_1)) (cond (decide (v6_0 = x_1)) ((chk (x_1 + 1)).bind fun z29 => (chk (-x_1)).bind fun z31 => F.ref35_letters_j1 n x_1 l5_0 v6_0 ([x_1, z29, z31] : List Int) (decide (v6_0 = x_1))) (F.ref35_letters_j1 n x_1 l5_0 v6_0 ([v6_0] : List Int) (decide (v6_0 = x_1)))) (F.ref35_letters_j1 n x_1 l5_0 v6_0 ([v6_0] : List Int) false)) (some (.inr (l5_0, v6_0)))

def ref35_letters (n : Nat) (strands_0 : Int) (x_1 : Int) : Option ((List (List Int))) :=
  ((loopN n (F.ref35_letters_b0 n strands_0 x_1) (([] : List (List Int)), 1)).bind fun o6 => match o6 with
    | (l5_0, v6_0) => some l5_0)

def ref21_Inverse_b0 (n : Nat) (wx_0 : List Int) : (List Int) × Int → Option (((List Int) × Int) ⊕ (((List Int) × Int)))
  | (l3_0, v4_0) => cond (decide (0 ≤ v4_0)) ((get wx_0 v4_0).bind fun x20 => (chk (-x20)).bind fun z26 => (lim (l3_0.length + ([z26] : List Int).length)).bind fun u34 => (chk (v4_0 - 1)).bind fun z41 => some (.inl ((l3_0 ++ ([z26] : List Int)), z41))) (some (.inr (l3_0, v4_0)))

def ref21_Inverse (n : Nat) (wx_0 : List Int) : Option ((List Int)) :=
  (chk ((wx_0.length : Int) - 1)).bind fun z6 => ((loopN n (F.ref21_Inverse_b0 n wx_0) (([] : List Int), z6)).bind fun o9 => match o9 with
    | (l3_0, v4_0) => (F.ref21_Reduce n l3_0).bind fun y46 => some y46)

def ref21_Substitute_b0 (n : Nat) (wx_0 : List Int) (images_1 : List (List Int)) : (List Int) × Int → Option (((List Int) × Int) ⊕ (((List Int) × Int)))
  | (l5_0, v6_0) => cond (decide (v6_0 < (wx_0.length : Int))) ((get wx_0 v6_0).bind fun x20 => cond (decide (0 < x20)) ((get wx_0 v6_0).bind fun x27 => (chk (x27 - 1)).bind fun z33 => (get images_1 z33).bind fun x35 => (lim (l5_0.length + x35.length)).bind fun u46 => (chk (v6_0 + 1)).bind fun z53 => some (.inl ((l5_0 ++ x35), z53))) ((get wx_0 v6_0).bind fun x55 => (chk (-x55)).bind fun z61 => (chk (z61 - 1)).bind fun z63 => (get images_1 z63).bind fun x65 => (F.ref21_Inverse n x65).bind fun y76 => (lim (l5_0.length + y76.length)).bind fun u85 => (chk (v6_0 + 1)).bind fun z92 => some (.inl ((l5_0 ++ y76), z92)))) (some (.inr (l5_0, v6_0)))

def ref21_Substitute (n : Nat) (wx_0 : List Int) (images_1 : List (List Int)) : Option ((List Int)) :=
  ((loopN n (F.ref21_Substitute_b0 n wx_0 images_1) (([] : List Int), 0)).bind fun o8 => match o8 with
    | (l5_0, v6_0) => (F.ref21_Reduce n l5_0).bind fun y97 => some y97)

def ref35_Act_b0 (n : Nat) (strands_0 : Int) (braid_1 : List Int) : (List Int) × Int → Option (((List Int) × Int) ⊕ (((List Int) × Int) ⊕ ((List Int) × Bool)))
  | (l2_0, v8_0) => cond (decide (v8_0 ≤ (braid_1.length : Int))) (cond (decide (20000 < (l2_0.length : Int))) (some (.inr (.inr ([], false)))) (cond (decide (v8_0 < (braid_1.length : Int))) ((get braid_1 v8_0).bind fun x35 => (F.ref35_letters n strands_0 x35).bind fun y41 => (F.ref21_Substitute n l2_0 y41).bind fun y50 => (chk (v8_0 + 1)).bind fun z59 => some (.inl (y50, z59))) ((chk (v8_0 + 1)).bind fun z61 => some (.inl (l2_0, z61))))) (some (.inr (.inl (l2_0, v8_0))))

def ref35_Act (n : Nat) (strands_0 : Int) (braid_1 : List Int) (wx_2 : List Int) : Option ((List Int) × Bool) :=
  (F.ref21_Reduce n wx_2).bind fun y5 => ((loopN n (F.ref35_Act_b0 n strands_0 braid_1) (y5, 0)).bind fun o16 => match o16 with
    | (.inl (l2_0, v8_0)) => some (l2_0, true)
    | (.inr q) => some q)

def ref01_Ints_b0 (n : Nat) (a_0 : List Int) (b_1 : List Int) : Int → Option ((Int) ⊕ ((Int) ⊕ (Bool)))
  | v5_0 => cond (decide (v5_0 < (a_0.length : Int))) ((get a_0 v5_0).bind fun x24 => (get b_1 v5_0).bind fun x31 => cond (!(decide (x24 = x31))) (some (.inr (.inr false))) ((chk (v5_0 + 1)).bind fun z40 => some (.inl z40))) (some (.inr (.inl v5_0)))

def ref01_Ints (n : Nat) (a_0 : List Int) (b_1 : List Int) : Option (Bool) :=
  cond (!(decide ((a_0.length : Int) = (b_1.length : Int)))) (some false) (((loopN n (F.ref01_Ints_b0 n a_0 b_1) 0).bind fun o10 => match o10 with
    | (.inl v5_0) => some true
    | (.inr q) => some q))


def law35_ArtinActs (n : Nat) (b_0_0 : Int) (b_0_1 : List Int) (wx_1 : List Int) : Option (Bool) :=
  (F.law35_awake n).bind fun y9 => cond (!y9) (some false) ((F.law35_great n b_0_0 b_0_1).bind fun y16 => cond y16 (some true) (cond (decide (40 < (wx_1.length : Int))) (some true) ((F.artin_Act n b_0_0 b_0_1 wx_1).bind fun y25 => (F.ref33_Valid n b_0_0 b_0_1).bind fun y37 => cond (!y37) (cond (decide (y25.2 = 1)) (some (decide ((y25.1.length : Int) = 0))) (some false)) ((F.ref21_Valid n wx_1 b_0_0).bind fun y46 => cond (!y46) (cond (decide (y25.2 = 2)) (some (decide ((y25.1.length : Int) = 0))) (some false)) ((F.ref35_Act n b_0_0 b_0_1 wx_1).bind fun y53 => cond (!y53.2) (cond (decide (y25.2 = 5)) (some (decide ((y25.1.length : Int) = 0))) (some false)) (cond (decide (y25.2 = 0)) ((F.ref01_Ints n y25.1 y53.1).bind fun y70 => some y70) (some false)))))))

def law35_lists_b0 (n : Nat) (l_0 : List (List Int)) : (List (List Int)) × Int → Option (((List (List Int)) × Int) ⊕ (((List (List Int)) × Int)))
  | (l3_0, v8_0) => cond (decide (v8_0 < (l_0.length : Int))) ((get l_0 v8_0).bind fun x19 => (lim (l3_0.length + ([x19] : List (List Int)).length)).bind fun u36 => (chk (v8_0 + 1)).bind fun z43 => some (.inl ((l3_0 ++ ([x19] : List (List Int))), z43))) (some (.inr (l3_0, v8_0)))

def law35_lists (n : Nat) (l_0 : List (List Int)) : Option ((List (List Int))) :=
  ((loopN n (F.law35_lists_b0 n l_0) (([] : List (List Int)), 0)).bind fun o7 => match o7 with
    | (l3_0, v8_0) => some l3_0)

def ref01_Lists_b0 (n : Nat) (a_0 : List (List Int)) (b_1 : List (List Int)) : Int → Option ((Int) ⊕ ((Int) ⊕ (Bool)))
  | v5_0 => cond (decide (v5_0 < (a_0.length : Int))) ((get a_0 v5_0).bind fun x24 => (get b_1 v5_0).bind fun x36 => (F.ref01_Ints n x24 x36).bind fun y48 => cond (!y48) (some (.inr (.inr false))) ((chk (v5_0 + 1)).bind fun z53 => some (.inl z53))) (some (.inr (.inl v5_0)))

def ref01_Lists (n : Nat) (a_0 : List (List Int)) (b_1 : List (List Int)) : Option (Bool) :=
  cond (!(decide ((a_0.length : Int) = (b_1.length : Int)))) (some false) (((loopN n (F.ref01_Lists_b0 n a_0 b_1) 0).bind fun o10 => match o10 with
    | (.inl v5_0) => some true
    | (.inr q) => some q))

def law35_ArtinRelations_j3 (n : Nat) (b_0_0 : Int) (b_0_1 : List Int) (at_1 : Int) (qF10_0_3 : List Int) : Option (Bool) :=
  (chk ((b_0_1.length : Int) + 1)).bind fun z145 => (nz z145).bind fun u147 => (cut 0 (Int.tmod at_1 z145) b_0_1.length).bind fun u152 => (cut (Int.tmod at_1 z145) (b_0_1.length : Int) b_0_1.length).bind fun u161 => (lim (([] : List Int).length + ((b_0_1.drop (0 : Int).toNat).take ((Int.tmod at_1 z145).toNat - (0 : Int).toNat)).length)).bind fun u176 => (lim ((([] : List Int) ++ ((b_0_1.drop (0 : Int).toNat).take ((Int.tmod at_1 z145).toNat - (0 : Int).toNat))).length + qF10_0_3.length)).bind fun u183 => (lim (((([] : List Int) ++ ((b_0_1.drop (0 : Int).toNat).take ((Int.tmod at_1 z145).toNat - (0 : Int).toNat))) ++ qF10_0_3).length + ((b_0_1.drop (Int.tmod at_1 z145).toNat).take ((b_0_1.length : Int).toNat - (Int.tmod at_1 z145).toNat)).length)).bind fun u190 => (F.artin_Images n b_0_0 b_0_1).bind fun y203 => (F.artin_Images n b_0_0 (((([] : List Int) ++ ((b_0_1.drop (0 : Int).toNat).take ((Int.tmod at_1 z145).toNat - (0 : Int).toNat))) ++ qF10_0_3) ++ ((b_0_1.drop (Int.tmod at_1 z145).toNat).take ((b_0_1.length : Int).toNat - (Int.tmod at_1 z145).toNat)))).bind fun y214 => cond (decide (y203.2 = 0)) (cond (decide (y214.2 = 0)) ((F.law35_lists n y203.1).bind fun y228 => (F.law35_lists n y214.1).bind fun y237 => (F.ref01_Lists n y228 y237).bind fun y246 => some y246) (some false)) (some false)

def law35_ArtinRelations_b4 (n : Nat) (l10_0 : List Int) : Int × (List Int) → Option ((Int × (List Int)) ⊕ ((Int × (List Int))))
  | (v103_4, qF10_0_4) => cond (decide (v103_4 < (l10_0.length : Int))) ((get qF10_0_4 v103_4).bind fun x123 => (chk (-x123)).bind fun z129 => (get qF10_0_4 v103_4).bind fun x131 => (chk (v103_4 + 1)).bind fun z138 => some (.inl (z138, (qF10_0_4.set v103_4.toNat z129)))) (some (.inr (v103_4, qF10_0_4)))

def law35_ArtinRelations_j0 (n : Nat) (b_0_0 : Int) (b_0_1 : List Int) (at_1 : Int) (kind_3 : Int) (l10_0 : List Int) : Option (Bool) :=
  (nz 2).bind fun u107 => cond (decide ((Int.tmod kind_3 2) = 1)) (((loopN n (F.law35_ArtinRelations_b4 n l10_0) (0, l10_0)).bind fun o111 => match o111 with
    | (v103_4, qF10_0_4) => F.law35_ArtinRelations_j3 n b_0_0 b_0_1 at_1 qF10_0_4)) (F.law35_ArtinRelations_j3 n b_0_0 b_0_1 at_1 l10_0)

def law35_ArtinRelations_j2 (n : Nat) (b_0_0 : Int) (b_0_1 : List Int) (at_1 : Int) (kind_3 : Int) (z35 : Int) (v77_2 : Bool) : Option (Bool) :=
  cond v77_2 ((chk (z35 + 2)).bind fun z88 => (chk (-z35)).bind fun z90 => (chk (z35 + 2)).bind fun z92 => (chk (-z92)).bind fun z94 => F.law35_ArtinRelations_j0 n b_0_0 b_0_1 at_1 kind_3 ([z35, z88, z90, z94] : List Int)) (F.law35_ArtinRelations_j0 n b_0_0 b_0_1 at_1 kind_3 ([] : List Int))

def law35_ArtinRelations_j1 (n : Nat) (b_0_0 : Int) (b_0_1 : List Int) (at_1 : Int) (kind_3 : Int) (z35 : Int) (v53_1 : Bool) : Option (Bool) :=
  cond v53_1 ((chk (z35 + 1)).bind fun z61 => (chk (z35 + 1)).bind fun z63 => (chk (-z63)).bind fun z65 => (chk (-z35)).bind fun z67 => (chk (z35 + 1)).bind fun z69 => (chk (-z69)).bind fun z71 => F.law35_ArtinRelations_j0 n b_0_0 b_0_1 at_1 kind_3 ([z35, z61, z35, z65, z67, z71] : List Int)) ((nz 3).bind fun u80 => cond (decide ((Int.tmod kind_3 3) = 2)) ((chk (z35 + 2)).bind fun z83 => F.law35_ArtinRelations_j2 n b_0_0 b_0_1 at_1 kind_3 z35 (decide (z83 < b_0_0))) (F.law35_ArtinRelations_j2 n b_0_0 b_0_1 at_1 kind_3 z35 false))

def law35_ArtinRelations (n : Nat) (b_0_0 : Int) (b_0_1 : List Int) (at_1 : Int) (gen_2 : Int) (kind_3 : Int) : Option (Bool) :=
  (F.law35_awake n).bind fun y8 => cond (!y8) (some false) ((F.law35_great n b_0_0 b_0_1).bind fun y15 => cond y15 (some true) (cond (decide (10 < (b_0_1.length : Int))) (some true) ((F.braid_Valid n b_0_0 b_0_1).bind fun y22 => cond (!y22) (some true) (cond (decide (b_0_0 < 2)) (some true) ((chk (b_0_0 - 1)).bind fun z31 => (nz z31).bind fun u33 => (chk ((Int.tmod gen_2 z31) + 1)).bind fun z35 => (nz 3).bind fun u40 => cond (decide ((Int.tmod kind_3 3) = 0)) ((chk (-z35)).bind fun z44 => F.law35_ArtinRelations_j0 n b_0_0 b_0_1 at_1 kind_3 ([z35, z44] : List Int)) ((nz 3).bind fun u53 => cond (decide ((Int.tmod kind_3 3) = 1)) ((chk (z35 + 1)).bind fun z56 => F.law35_ArtinRelations_j1 n b_0_0 b_0_1 at_1 kind_3 z35 (decide (z56 < b_0_0))) (F.law35_ArtinRelations_j1 n b_0_0 b_0_1 at_1 kind_3 z35 false)))))))

def ref35_Images_b0 (n : Nat) (strands_0 : Int) (braid_1 : List Int) : (List (List Int)) × Int → Option (((List (List Int)) × Int) ⊕ (((List (List Int)) × Int) ⊕ ((List (List Int)) × Bool)))
  | (l6_0, v7_0) => cond (decide (v7_0 ≤ strands_0)) ((F.ref35_Act n strands_0 braid_1 ([v7_0] : List Int)).bind fun y25 => cond (!y25.2) (some (.inr (.inr ([], false)))) ((lim (l6_0.length + ([y25.1] : List (List Int)).length)).bind fun u46 => (chk (v7_0 + 1)).bind fun z53 => some (.inl ((l6_0 ++ ([y25.1] : List (List Int))), z53)))) (some (.inr (.inl (l6_0, v7_0))))

def ref35_Images (n : Nat) (strands_0 : Int) (braid_1 : List Int) : Option ((List (List Int)) × Bool) :=
  ((loopN n (F.ref35_Images_b0 n strands_0 braid_1) (([] : List (List Int)), 1)).bind fun o7 => match o7 with
    | (.inl (l6_0, v7_0)) => some (l6_0, true)
    | (.inr q) => some q)

def artin_Trivial_b0 (n : Nat) (y7 : (List (List Int)) × Int) : Int → Option ((Int) ⊕ ((Int) ⊕ (Bool)))
  | v16_0 => cond (decide (v16_0 < (y7.1.length : Int))) ((get y7.1 v16_0).bind fun x36 => (chk (v16_0 + 1)).bind fun z48 => (F.slices_Equal_Word_int n x36 ([z48] : List Int)).bind fun y56 => cond (!y56) (some (.inr (.inr false))) ((chk (v16_0 + 1)).bind fun z61 => some (.inl z61))) (some (.inr (.inl v16_0)))

def artin_Trivial (n : Nat) (b_0_0 : Int) (b_0_1 : List Int) : Option (Bool) :=
  (F.artin_Images n b_0_0 b_0_1).bind fun y7 => cond (!(decide (y7.2 = 0))) (some false) (((loopN n (F.artin_Trivial_b0 n y7) 0).bind fun o24 => match o24 with
    | (.inl v16_0) => some true
    | (.inr q) => some q))

def law35_ArtinLong_b2 (n : Nat) (nx_1 : Int) : Int × (List Int) → Option ((Int × (List Int)) ⊕ ((Int × (List Int))))
  | (v90_2, qf131_2) => cond (decide (v90_2 < (((List.replicate nx_1.toNat (0 : Int))).length : Int))) ((get qf131_2 v90_2).bind fun x146 => (chk (v90_2 + 1)).bind fun z153 => some (.inl (z153, (qf131_2.set v90_2.toNat 1)))) (some (.inr (v90_2, qf131_2)))

def law35_ArtinLong_j1 (n : Nat) (nx_1 : Int) : Option (Bool) :=
  (pos nx_1).bind fun u124 => ((loopN n (F.law35_ArtinLong_b2 n nx_1) (0, (List.replicate nx_1.toNat (0 : Int)))).bind fun o134 => match o134 with
    | (v90_2, qf131_2) => (F.artin_Act n 2 ([]) qf131_2).bind fun y158 => cond (decide (20000 < (((List.replicate nx_1.toNat (0 : Int))).length : Int))) (cond (decide (y158.2 = 5)) (some (decide ((y158.1.length : Int) = 0))) (some false)) (cond (decide (y158.2 = 0)) (some (decide ((y158.1.length : Int) = (((List.replicate nx_1.toNat (0 : Int))).length : Int)))) (some false)))

def law35_ArtinLong_b0 (n : Nat) (z18 : Int) : Int × (List Int) → Option ((Int × (List Int)) ⊕ ((Int × (List Int))))
  | (v23_0, kf12_1_0) => cond (decide (v23_0 < z18)) ((lim (kf12_1_0.length + ([1, (-2)] : List Int).length)).bind fun u39 => (chk (v23_0 + 1)).bind fun z47 => some (.inl (z47, (kf12_1_0 ++ ([1, (-2)] : List Int))))) (some (.inr (v23_0, kf12_1_0)))

def law35_ArtinLong (n : Nat) (times_0 : Int) (nx_1 : Int) : Option (Bool) :=
  (F.law35_awake n).bind fun y4 => cond (!y4) (some false) ((nz 50).bind fun u16 => (chk ((Int.tmod times_0 50) + 1)).bind fun z18 => ((loopN n (F.law35_ArtinLong_b0 n z18) (0, ([] : List Int))).bind fun o22 => match o22 with
    | (v23_0, kf12_1_0) => (F.ref35_Images n 3 kf12_1_0).bind fun y52 => (F.artin_Images n 3 kf12_1_0).bind fun y63 => (F.artin_Group n 3 kf12_1_0).bind fun y74 => cond (!(y52.2 == (decide (y63.2 = 0)))) (some false) (cond (!(y52.2 == (decide (y74.2.2.2 = 0)))) (some false) (cond (!y52.2) (cond (!(decide (y63.2 = 5))) (some false) (cond (!(decide (y74.2.2.2 = 5))) (some false) (cond (!(decide ((y63.1.length : Int) = 0))) (some false) (cond (!(decide (y74.1 = 0))) (some false) ((F.artin_Trivial n 3 kf12_1_0).bind fun y111 => cond y111 (some false) (F.law35_ArtinLong_j1 n nx_1)))))) ((F.artin_Trivial n 3 kf12_1_0).bind fun y116 => cond y116 (some false) (F.law35_ArtinLong_j1 n nx_1))))))

def word_least_b0 (n : Nat) (wx_0 : List Int) : Int × Int × Int → Option ((Int × Int × Int) ⊕ ((Int × Int × Int)))
  | (v4_0, v5_0, v6_0) => cond (decide (v4_0 < (wx_0.length : Int))) (cond (decide (v5_0 < (wx_0.length : Int))) (cond (decide (v6_0 < (wx_0.length : Int))) ((chk (v4_0 + v6_0)).bind fun z22 => (nz (wx_0.length : Int)).bind fun u24 => (get wx_0 (Int.tmod z22 (wx_0.length : Int))).bind fun x26 => (chk (v5_0 + v6_0)).bind fun z33 => (nz (wx_0.length : Int)).bind fun u35 => (get wx_0 (Int.tmod z33 (wx_0.length : Int))).bind fun x37 => cond (decide (x26 = x37)) ((chk (v6_0 + 1)).bind fun z49 => some (.inl (v4_0, v5_0, z49))) (cond (decide (x37 < x26)) ((chk (v6_0 + 1)).bind fun z53 => (chk (v4_0 + z53)).bind fun z55 => cond (decide (z55 = v5_0)) ((chk (v5_0 + 1)).bind fun z61 => some (.inl (z55, z61, 0))) (some (.inl (z55, v5_0, 0)))) ((chk (v6_0 + 1)).bind fun z63 => (chk (v5_0 + z63)).bind fun z65 => cond (decide (v4_0 = z65)) ((chk (z65 + 1)).bind fun z71 => some (.inl (v4_0, z71, 0))) (some (.inl (v4_0, z65, 0)))))) (some (.inr (v4_0, v5_0, v6_0)))) (some (.inr (v4_0, v5_0, v6_0)))) (some (.inr (v4_0, v5_0, v6_0)))

def word_least (n : Nat) (wx_0 : List Int) : Option (Int) :=
  ((loopN n (F.word_least_b0 n wx_0) (0, 1, 0)).bind fun o6 => match o6 with
    | (v4_0, v5_0, v6_0) => some (min v4_0 v5_0))

def word_Cyclic_b0 (n : Nat) : (List Int) → Option (((List Int)) ⊕ (((List Int))))
  | l3_0 => cond (decide (2 ≤ (l3_0.length : Int))) ((get l3_0 0).bind fun x26 => (chk ((l3_0.length : Int) - 1)).bind fun z33 => (get l3_0 z33).bind fun x35 => (chk (-x35)).bind fun z42 => cond (decide (x26 = z42)) ((chk ((l3_0.length : Int) - 1)).bind fun z46 => (cut 1 z46 l3_0.length).bind fun u48 => some (.inl ((l3_0.drop (1 : Int).toNat).take (z46.toNat - (1 : Int).toNat)))) (some (.inr l3_0))) (some (.inr l3_0))

def word_Cyclic (n : Nat) (wx_0 : List Int) : Option ((List Int)) :=
  (F.word_Reduce n wx_0).bind fun y4 => ((loopN n (F.word_Cyclic_b0 n) y4).bind fun o14 => match o14 with
    | l3_0 => (F.word_least n l3_0).bind fun y60 => (pos (l3_0.length : Int)).bind fun u65 => cond (decide (0 < (l3_0.length : Int))) ((cut y60 (l3_0.length : Int) l3_0.length).bind fun u79 => (lim (([] : List Int).length + ((l3_0.drop y60.toNat).take ((l3_0.length : Int).toNat - y60.toNat)).length)).bind fun u88 => (cut 0 y60 l3_0.length).bind fun u95 => (lim ((([] : List Int) ++ ((l3_0.drop y60.toNat).take ((l3_0.length : Int).toNat - y60.toNat))).length + ((l3_0.drop (0 : Int).toNat).take (y60.toNat - (0 : Int).toNat)).length)).bind fun u104 => some ((([] : List Int) ++ ((l3_0.drop y60.toNat).take ((l3_0.length : Int).toNat - y60.toNat))) ++ ((l3_0.drop (0 : Int).toNat).take (y60.toNat - (0 : Int).toNat)))) (some ([] : List Int)))


def word_Conjugate (n : Nat) (a_0 : List Int) (b_1 : List Int) : Option (Bool) :=
  (F.word_Cyclic n a_0).bind fun y5 => (F.word_Cyclic n b_1).bind fun y14 => (F.slices_Equal_Word_int n y5 y14).bind fun y23 => some y23

def law35_ArtinFixes_b1 (n : Nat) (y73 : (List (List Int)) × Int) (y85 : (List Int)) : Int → Option ((Int) ⊕ ((Int) ⊕ (Bool)))
  | v73_1 => cond (decide (v73_1 < (y73.1.length : Int))) ((get y73.1 v73_1).bind fun x124 => (get y85 v73_1).bind fun x136 => (chk (x136 + 1)).bind fun z142 => (F.word_Conjugate n x124 ([z142] : List Int)).bind fun y150 => cond (!y150) (some (.inr (.inr false))) ((chk (v73_1 + 1)).bind fun z155 => some (.inl z155))) (some (.inr (.inl v73_1)))

def law35_ArtinFixes_b0 (n : Nat) (b_0_0 : Int) : (List Int) × Int → Option (((List Int) × Int) ⊕ (((List Int) × Int)))
  | (l3_0, v23_0) => cond (decide (v23_0 < b_0_0)) ((chk (v23_0 + 1)).bind fun z42 => (lim (l3_0.length + ([z42] : List Int).length)).bind fun u50 => (chk (v23_0 + 1)).bind fun z57 => some (.inl ((l3_0 ++ ([z42] : List Int)), z57))) (some (.inr (l3_0, v23_0)))

def law35_ArtinFixes (n : Nat) (b_0_0 : Int) (b_0_1 : List Int) : Option (Bool) :=
  (F.law35_awake n).bind fun y8 => cond (!y8) (some false) ((F.law35_great n b_0_0 b_0_1).bind fun y15 => cond y15 (some true) ((F.braid_Valid n b_0_0 b_0_1).bind fun y20 => cond (!y20) (some true) (((loopN n (F.law35_ArtinFixes_b0 n b_0_0) (([] : List Int), 0)).bind fun o30 => match o30 with
    | (l3_0, v23_0) => (F.artin_Act n b_0_0 b_0_1 l3_0).bind fun y62 => (F.artin_Images n b_0_0 b_0_1).bind fun y73 => (F.braid_Perm n b_0_0 b_0_1).bind fun y85 => cond (!(decide (y62.2 = 0))) (some false) (cond (!(decide (y73.2 = 0))) (some false) ((F.slices_Equal_Word_int n y62.1 l3_0).bind fun y100 => cond (!y100) (some false) (cond (!(decide ((y73.1.length : Int) = b_0_0))) (some false) (cond (!(decide ((y85.length : Int) = b_0_0))) (some false) (((loopN n (F.law35_ArtinFixes_b1 n y73 y85) 0).bind fun o112 => match o112 with
    | (.inl v73_1) => some true
    | (.inr q) => some q))))))))))

def garside_halfTwist_b0 (n : Nat) (nx_0 : Int) : Int × (List Int) → Option ((Int × (List Int)) ⊕ ((Int × (List Int))))
  | (v9_0, qf10_0) => cond (decide (v9_0 < (((List.replicate nx_0.toNat (0 : Int))).length : Int))) ((chk (nx_0 - 1)).bind fun z25 => (chk (z25 - v9_0)).bind fun z27 => (get qf10_0 v9_0).bind fun x29 => (chk (v9_0 + 1)).bind fun z36 => some (.inl (z36, (qf10_0.set v9_0.toNat z27)))) (some (.inr (v9_0, qf10_0)))

def garside_halfTwist (n : Nat) (nx_0 : Int) : Option ((List Int)) :=
  (pos nx_0).bind fun u3 => ((loopN n (F.garside_halfTwist_b0 n nx_0) (0, (List.replicate nx_0.toNat (0 : Int)))).bind fun o13 => match o13 with
    | (v9_0, qf10_0) => some qf10_0)

def garside_identity_b0 (n : Nat) (nx_0 : Int) : Int × (List Int) → Option ((Int × (List Int)) ⊕ ((Int × (List Int))))
  | (v9_0, qf10_0) => cond (decide (v9_0 < (((List.replicate nx_0.toNat (0 : Int))).length : Int))) ((get qf10_0 v9_0).bind fun x25 => (chk (v9_0 + 1)).bind fun z32 => some (.inl (z32, (qf10_0.set v9_0.toNat v9_0)))) (some (.inr (v9_0, qf10_0)))

def garside_identity (n : Nat) (nx_0 : Int) : Option ((List Int)) :=
  (pos nx_0).bind fun u3 => ((loopN n (F.garside_identity_b0 n nx_0) (0, (List.replicate nx_0.toNat (0 : Int)))).bind fun o13 => match o13 with
    | (v9_0, qf10_0) => some qf10_0)

def slices_Reverse_Perm_int_b0 (n : Nat) : Int × Int × (List Int) → Option ((Int × Int × (List Int)) ⊕ ((Int × Int × (List Int))))
  | (v2_0, v3_0, qf1_0) => cond (decide (v2_0 < v3_0)) ((get qf1_0 v3_0).bind fun x18 => (get qf1_0 v2_0).bind fun x25 => (get qf1_0 v2_0).bind fun x32 => (get (qf1_0.set v2_0.toNat x18) v3_0).bind fun x40 => (chk (v2_0 + 1)).bind fun z48 => (chk (v3_0 - 1)).bind fun z50 => some (.inl (z48, z50, ((qf1_0.set v2_0.toNat x18).set v3_0.toNat x25)))) (some (.inr (v2_0, v3_0, qf1_0)))

def slices_Reverse_Perm_int (n : Nat) (s_0 : List Int) : Option ((List Int)) :=
  (chk ((s_0.length : Int) - 1)).bind fun z3 => ((loopN n (F.slices_Reverse_Perm_int_b0 n) (0, z3, s_0)).bind fun o5 => match o5 with
    | (v2_0, v3_0, qf1_0) => some qf1_0)

def garside_turnAround_b0 (n : Nat) (p_0 : List Int) : Int × (List Int) → Option ((Int × (List Int)) ⊕ ((Int × (List Int))))
  | (v7_0, qf1_0) => cond (decide (v7_0 < (p_0.length : Int))) ((chk ((p_0.length : Int) - 1)).bind fun z19 => (get qf1_0 v7_0).bind fun x21 => (chk (z19 - x21)).bind fun z27 => (get qf1_0 v7_0).bind fun x29 => (chk (v7_0 + 1)).bind fun z36 => some (.inl (z36, (qf1_0.set v7_0.toNat z27)))) (some (.inr (v7_0, qf1_0)))

def garside_turnAround (n : Nat) (p_0 : List Int) : Option ((List Int)) :=
  (F.slices_Reverse_Perm_int n p_0).bind fun y3 => ((loopN n (F.garside_turnAround_b0 n p_0) (0, y3)).bind fun o7 => match o7 with
    | (v7_0, qf1_0) => some qf1_0)


def slices_Clone_Perm_int (n : Nat) (s_0 : List Int) : Option ((List Int)) :=
  (lim (([] : List Int).length + s_0.length)).bind fun u16 => some (([] : List Int) ++ s_0)

def perm_Inverse_b0 (n : Nat) (p_0 : List Int) : Int × (List Int) → Option ((Int × (List Int)) ⊕ ((Int × (List Int))))
  | (v14_0, qf19_0) => cond (decide (v14_0 < (p_0.length : Int))) ((get p_0 v14_0).bind fun x35 => (get qf19_0 x35).bind fun x41 => (chk (v14_0 + 1)).bind fun z48 => some (.inl (z48, (qf19_0.set x35.toNat v14_0)))) (some (.inr (v14_0, qf19_0)))

def perm_Inverse (n : Nat) (p_0 : List Int) : Option ((List Int)) :=
  (F.perm_Valid n p_0).bind fun y5 => cond (!y5) (some ([])) ((pos (p_0.length : Int)).bind fun u12 => ((loopN n (F.perm_Inverse_b0 n p_0) (0, (List.replicate (p_0.length : Int).toNat (0 : Int)))).bind fun o23 => match o23 with
    | (v14_0, qf19_0) => some qf19_0))

def garside_moveLetters_b0 (n : Nat) (after_1 : List Int) : Bool × Int × (List Int) × (List Int) → Option ((Bool × Int × (List Int) × (List Int)) ⊕ ((Bool × Int × (List Int) × (List Int))))
  | (v5_0, v7_0, qf2_0, qf11_0) => cond (decide (v7_0 < (after_1.length : Int))) ((chk (v7_0 - 1)).bind fun z31 => (get qf2_0 z31).bind fun x33 => (get qf2_0 v7_0).bind fun x40 => cond (decide (x33 < x40)) ((chk (v7_0 + 1)).bind fun z50 => some (.inl (v5_0, z50, qf2_0, qf11_0))) ((chk (v7_0 - 1)).bind fun z52 => (get qf11_0 z52).bind fun x54 => (get qf11_0 v7_0).bind fun x61 => cond (decide (x61 < x54)) ((chk (v7_0 + 1)).bind fun z71 => some (.inl (v5_0, z71, qf2_0, qf11_0))) ((chk (v7_0 - 1)).bind fun z76 => (get qf2_0 v7_0).bind fun x78 => (chk (v7_0 - 1)).bind fun z85 => (get qf2_0 z85).bind fun x87 => (get qf2_0 z76).bind fun x94 => (get (qf2_0.set z76.toNat x78) v7_0).bind fun x102 => (chk (v7_0 - 1)).bind fun z113 => (get qf11_0 v7_0).bind fun x115 => (chk (v7_0 - 1)).bind fun z122 => (get qf11_0 z122).bind fun x124 => (get qf11_0 z113).bind fun x131 => (get (qf11_0.set z113.toNat x115) v7_0).bind fun x139 => (chk (v7_0 - 1)).bind fun z148 => some (.inl (true, (max 1 z148), ((qf2_0.set z76.toNat x78).set v7_0.toNat x87), ((qf11_0.set z113.toNat x115).set v7_0.toNat x124)))))) (some (.inr (v5_0, v7_0, qf2_0, qf11_0)))

def garside_moveLetters (n : Nat) (before_0 : List Int) (after_1 : List Int) : Option (Bool × (List Int) × (List Int)) :=
  (F.perm_Inverse n before_0).bind fun y6 => ((loopN n (F.garside_moveLetters_b0 n after_1) (false, 1, after_1, y6)).bind fun o17 => match o17 with
    | (v5_0, v7_0, qf2_0, qf11_0) => (F.perm_Inverse n qf11_0).bind fun y153 => some (v5_0, (y153.take (min y153.length before_0.length) ++ before_0.drop (min y153.length before_0.length)), qf2_0))


def cmp_isNaN_int (n : Nat) (x_0 : Int) : Option (Bool) :=
  some (!(decide (x_0 = x_0)))


def cmp_Less_int (n : Nat) (x_0 : Int) (y_1 : Int) : Option (Bool) :=
  (F.cmp_isNaN_int n x_0).bind fun y3 => cond y3 ((F.cmp_isNaN_int n y_1).bind fun y7 => cond (!y7) (some true) (some (decide (x_0 < y_1)))) (some (decide (x_0 < y_1)))

def slices_IsSorted_Perm_int_b0 (n : Nat) (x_0 : List Int) : Int → Option ((Int) ⊕ ((Int) ⊕ (Bool)))
  | v3_0 => cond (decide (0 < v3_0)) ((get x_0 v3_0).bind fun x21 => (chk (v3_0 - 1)).bind fun z28 => (get x_0 z28).bind fun x30 => (F.cmp_Less_int n x21 x30).bind fun y37 => cond y37 (some (.inr (.inr false))) ((chk (v3_0 - 1)).bind fun z42 => some (.inl z42))) (some (.inr (.inl v3_0)))

def slices_IsSorted_Perm_int (n : Nat) (x_0 : List Int) : Option (Bool) :=
  (chk ((x_0.length : Int) - 1)).bind fun z5 => ((loopN n (F.slices_IsSorted_Perm_int_b0 n x_0) z5).bind fun o7 => match o7 with
    | (.inl v3_0) => some true
    | (.inr q) => some q)

def garside_settle_b1 (n : Nat) : Bool × Int × (List (List Int)) → Option ((Bool × Int × (List (List Int))) ⊕ ((Bool × Int × (List (List Int)))))
  | (v3_1, v4_1, qf1_1) => cond (decide (0 < v4_1)) ((chk (v4_1 - 1)).bind fun z31 => (get qf1_1 z31).bind fun x33 => (get qf1_1 v4_1).bind fun x48 => (F.garside_moveLetters n x33 x48).bind fun y64 => cond y64.1 ((chk (v4_1 - 1)).bind fun z69 => some (.inl (true, z69, ((qf1_1.set z31.toNat y64.2.1).set v4_1.toNat y64.2.2)))) ((chk (v4_1 - 1)).bind fun z71 => some (.inl (v3_1, z71, ((qf1_1.set z31.toNat y64.2.1).set v4_1.toNat y64.2.2))))) (some (.inr (v3_1, v4_1, qf1_1)))

def garside_settle_b2 (n : Nat) : (List (List Int)) → Option (((List (List Int))) ⊕ (((List (List Int)))))
  | l0_2 => cond (decide (0 < (l0_2.length : Int))) ((chk ((l0_2.length : Int) - 1)).bind fun z91 => (get l0_2 z91).bind fun x93 => (F.slices_IsSorted_Perm_int n x93).bind fun y107 => cond y107 ((chk ((l0_2.length : Int) - 1)).bind fun z112 => (cut 0 z112 l0_2.length).bind fun u114 => some (.inl (l0_2.take z112.toNat))) (some (.inr l0_2))) (some (.inr l0_2))

def garside_settle_b0 (n : Nat) (factors_0 : List (List Int)) : (List (List Int)) → Option (((List (List Int))) ⊕ (((List (List Int)))))
  | qf1_0 => (chk ((factors_0.length : Int) - 1)).bind fun z15 => ((loopN n (F.garside_settle_b1 n) (false, z15, qf1_0)).bind fun o17 => match o17 with
    | (v3_1, v4_1, qf1_1) => cond v3_1 (some (.inl qf1_1)) (some (.inr qf1_1)))

def garside_settle (n : Nat) (factors_0 : List (List Int)) : Option ((List (List Int))) :=
  ((loopN n (F.garside_settle_b0 n factors_0) factors_0).bind fun o5 => match o5 with
    | qf1_0 => ((loopN n (F.garside_settle_b2 n) qf1_0).bind fun o81 => match o81 with
    | l0_2 => some l0_2))

def slices_Equal_Perm_int_b0 (n : Nat) (s1_0 : List Int) (s2_1 : List Int) : Int → Option ((Int) ⊕ ((Int) ⊕ (Bool)))
  | v13_0 => cond (decide (v13_0 < (s1_0.length : Int))) ((get s1_0 v13_0).bind fun x25 => (get s2_1 v13_0).bind fun x32 => cond (!(decide (x25 = x32))) (some (.inr (.inr false))) ((chk (v13_0 + 1)).bind fun z41 => some (.inl z41))) (some (.inr (.inl v13_0)))

def slices_Equal_Perm_int (n : Nat) (s1_0 : List Int) (s2_1 : List Int) : Option (Bool) :=
  cond (!(decide ((s1_0.length : Int) = (s2_1.length : Int)))) (some false) (((loopN n (F.slices_Equal_Perm_int_b0 n s1_0 s2_1) 0).bind fun o10 => match o10 with
    | (.inl v13_0) => some true
    | (.inr q) => some q))

def garside_Form_b3 (n : Nat) (y25 : (List Int)) : Int × (List (List Int)) → Option ((Int × (List (List Int))) ⊕ ((Int × (List (List Int)))))
  | (bf21_1_3, kf21_2_3) => cond (decide (0 < (kf21_2_3.length : Int))) ((get kf21_2_3 0).bind fun x201 => (F.slices_Equal_Perm_int n x201 y25).bind fun y215 => cond y215 ((chk (bf21_1_3 + 1)).bind fun z221 => (cut 1 (kf21_2_3.length : Int) kf21_2_3.length).bind fun u224 => some (.inl (z221, (kf21_2_3.drop (1 : Int).toNat)))) (some (.inr (bf21_1_3, kf21_2_3)))) (some (.inr (bf21_1_3, kf21_2_3)))

def garside_Form_j1 (n : Nat) (y25 : (List Int)) (v25_0 : Int) (l8_1 : List Int) (v9_1 : Int) (v37_1 : Bool) (bf21_1_1 : Int) (qFf21_2_0_1 : List (List Int)) : Option ((Int × Int × (List (List Int))) ⊕ ((Int × Int × (List (List Int))))) :=
  (chk (v9_1 - 1)).bind fun z130 => (get l8_1 v9_1).bind fun x132 => (chk (v9_1 - 1)).bind fun z139 => (get l8_1 z139).bind fun x141 => (get l8_1 z130).bind fun x148 => (get (l8_1.set z130.toNat x132) v9_1).bind fun x156 => (lim (qFf21_2_0_1.length + 1)).bind fun u171 => (F.garside_settle n (qFf21_2_0_1 ++ [((l8_1.set z130.toNat x132).set v9_1.toNat x141)])).bind fun y179 => ((loopN n (F.garside_Form_b3 n y25) (bf21_1_1, y179)).bind fun o191 => match o191 with
    | (bf21_1_3, kf21_2_3) => (chk (v25_0 + 1)).bind fun z235 => some (.inl (z235, bf21_1_3, kf21_2_3)))

def garside_Form_b2 (n : Nat) (kf21_2_0 : List (List Int)) : Int × (List (List Int)) → Option ((Int × (List (List Int))) ⊕ ((Int × (List (List Int)))))
  | (v45_2, qFf21_2_0_2) => cond (decide (v45_2 < (kf21_2_0.length : Int))) ((get qFf21_2_0_2 v45_2).bind fun x91 => (F.garside_turnAround n x91).bind fun y105 => (chk (v45_2 + 1)).bind fun z109 => some (.inl (z109, (qFf21_2_0_2.set v45_2.toNat y105)))) (some (.inr (v45_2, qFf21_2_0_2)))

def garside_Form_b0 (n : Nat) (b_0_0 : Int) (b_0_1 : List Int) (y25 : (List Int)) : Int × Int × (List (List Int)) → Option ((Int × Int × (List (List Int))) ⊕ ((Int × Int × (List (List Int)))))
  | (v25_0, bf21_1_0, kf21_2_0) => cond (decide (v25_0 < (b_0_1.length : Int))) ((get b_0_1 v25_0).bind fun x49 => (F.garside_identity n b_0_0).bind fun y56 => (chk (-x49)).bind fun z66 => cond (decide (x49 < 0)) ((chk (bf21_1_0 - 1)).bind fun z73 => ((loopN n (F.garside_Form_b2 n kf21_2_0) (0, kf21_2_0)).bind fun o79 => match o79 with
    | (v45_2, qFf21_2_0_2) => (F.slices_Clone_Perm_int n y25).bind fun y114 => (chk (b_0_0 - (max x49 z66))).bind fun z123 => F.garside_Form_j1 n y25 v25_0 y114 z123 (decide (x49 < 0)) z73 qFf21_2_0_2)) (F.garside_Form_j1 n y25 v25_0 y56 (max x49 z66) (decide (x49 < 0)) bf21_1_0 kf21_2_0)) (some (.inr (v25_0, bf21_1_0, kf21_2_0)))

def garside_Form (n : Nat) (b_0_0 : Int) (b_0_1 : List Int) : Option (Int × Int × (List (List Int)) × Int) :=
  (F.braid_Valid n b_0_0 b_0_1).bind fun y11 => cond (!y11) (some (0, 0, [], 1)) ((F.garside_halfTwist n b_0_0).bind fun y25 => ((loopN n (F.garside_Form_b0 n b_0_0 b_0_1 y25) (0, 0, ([] : List (List Int)))).bind fun o37 => match o37 with
    | (v25_0, bf21_1_0, kf21_2_0) => some (b_0_0, bf21_1_0, kf21_2_0, 0)))


def garside_Same_c1 (n : Nat) (p_0 : List Int) (q_1 : List Int) : Option (Bool) :=
  (F.slices_Equal_Perm_int n p_0 q_1).bind fun y5 => some y5

def slices_EqualFunc_Perm_Perm_Perm_Perm_garside_Same_c1_b0 (n : Nat) (s1_0 : List (List Int)) (s2_1 : List (List Int)) : Int → Option ((Int) ⊕ ((Int) ⊕ (Bool)))
  | v17_0 => cond (decide (v17_0 < (s1_0.length : Int))) ((get s1_0 v17_0).bind fun x22 => (get s2_1 v17_0).bind fun x34 => (F.garside_Same_c1 n x22 x34).bind fun y47 => cond (!y47) (some (.inr (.inr false))) ((chk (v17_0 + 1)).bind fun z52 => some (.inl z52))) (some (.inr (.inl v17_0)))

def slices_EqualFunc_Perm_Perm_Perm_Perm_garside_Same_c1 (n : Nat) (s1_0 : List (List Int)) (s2_1 : List (List Int)) : Option (Bool) :=
  cond (!(decide ((s1_0.length : Int) = (s2_1.length : Int)))) (some false) (((loopN n (F.slices_EqualFunc_Perm_Perm_Perm_Perm_garside_Same_c1_b0 n s1_0 s2_1) 0).bind fun o10 => match o10 with
    | (.inl v17_0) => some true
    | (.inr q) => some q))


def garside_Same (n : Nat) (a_0_0 : Int) (a_0_1 : List Int) (b_1_0 : Int) (b_1_1 : List Int) : Option (Bool) :=
  (F.garside_Form n a_0_0 a_0_1).bind fun y11 => cond (!(decide (y11.2.2.2 = 0))) (some false) ((F.garside_Form n b_1_0 b_1_1).bind fun y33 => cond (!(decide (y33.2.2.2 = 0))) (some false) (cond (decide (y11.1 = y33.1)) (cond (decide (y11.2.1 = y33.2.1)) ((F.slices_EqualFunc_Perm_Perm_Perm_Perm_garside_Same_c1 n y11.2.2.1 y33.2.2.1).bind fun y57 => some y57) (some false)) (some false)))


def braid_Inverse_b0 (n : Nat) (b_0_1 : List Int) : Nat × (List Int) → Option ((Nat × (List Int)) ⊕ ((List Int)))
  | (k_0, kf30_0_0) => cond (decide (k_0 < b_0_1.length)) (((b_0_1.reverse)[k_0]?).bind fun x_0 => (chk (-x_0)).bind fun z50 => (lim (kf30_0_0.length + ([z50] : List Int).length)).bind fun u58 => some (.inl (k_0 + 1, (kf30_0_0 ++ ([z50] : List Int))))) (some (.inr kf30_0_0))

def braid_Inverse (n : Nat) (b_0_0 : Int) (b_0_1 : List Int) : Option (Int × (List Int)) :=
  (F.braid_Valid n b_0_0 b_0_1).bind fun y11 => cond (!y11) (some (0, [])) ((pos (b_0_1.length : Int)).bind fun u20 => ((loopN n (F.braid_Inverse_b0 n b_0_1) (0, ([] : List Int))).bind fun o38 => match o38 with
    | kf30_0_0 => some (b_0_0, kf30_0_0)))


def slices_Grow_Lint_int_nil (n : Nat) (nx_1 : Int) : Option ((List Int)) :=
  cond (decide (nx_1 < 0)) (none) ((chk (0 - 0)).bind fun z7 => (chk (nx_1 - z7)).bind fun z9 => cond (decide (0 < z9)) ((posz z9).bind fun u14 => (cut 0 0 (List.replicate z9.toNat (0 : Int)).length).bind fun u22 => some ((List.replicate z9.toNat (0 : Int)).take (0 : Int).toNat)) (some ([])))

def slices_Concat_Lint_int_b1 (n : Nat) (slices_0 : List (List Int)) : (List Int) × Int → Option (((List Int) × Int) ⊕ (((List Int) × Int)))
  | (l6_1, v27_1) => cond (decide (v27_1 < (slices_0.length : Int))) ((get slices_0 v27_1).bind fun x63 => (lim (l6_1.length + x63.length)).bind fun u74 => (chk (v27_1 + 1)).bind fun z81 => some (.inl ((l6_1 ++ x63), z81))) (some (.inr (l6_1, v27_1)))

def slices_Concat_Lint_int_b0 (n : Nat) (slices_0 : List (List Int)) : Int × Int → Option ((Int × Int) ⊕ ((Int × Int)))
  | (v3_0, v11_0) => cond (decide (v11_0 < (slices_0.length : Int))) ((get slices_0 v11_0).bind fun x18 => (chk (v3_0 + (x18.length : Int))).bind fun z30 => cond (decide (z30 < 0)) (none) ((chk (v11_0 + 1)).bind fun z35 => some (.inl (z30, z35)))) (some (.inr (v3_0, v11_0)))

def slices_Concat_Lint_int (n : Nat) (slices_0 : List (List Int)) : Option ((List Int)) :=
  ((loopN n (F.slices_Concat_Lint_int_b0 n slices_0) (0, 0)).bind fun o6 => match o6 with
    | (v3_0, v11_0) => (F.slices_Grow_Lint_int_nil n v3_0).bind fun y40 => ((loopN n (F.slices_Concat_Lint_int_b1 n slices_0) (y40, 0)).bind fun o51 => match o51 with
    | (l6_1, v27_1) => some l6_1))


def braid_Mul (n : Nat) (a_0_0 : Int) (a_0_1 : List Int) (b_1_0 : Int) (b_1_1 : List Int) : Option (Int × (List Int) × Int) :=
  (F.braid_Valid n a_0_0 a_0_1).bind fun y15 => cond (!y15) (some (0, [], 1)) ((F.braid_Valid n b_1_0 b_1_1).bind fun y22 => cond (!y22) (some (0, [], 1)) (cond (!(decide (a_0_0 = b_1_0))) (some (0, [], 2)) ((chk ((a_0_1.length : Int) + (b_1_1.length : Int))).bind fun z38 => cond (decide (200 < z38)) (some (0, [], 5)) ((F.slices_Concat_Lint_int n ([a_0_1, b_1_1] : List (List Int))).bind fun y54 => some (a_0_0, y54, 0)))))


def law35_ArtinTrivial (n : Nat) (b_0_0 : Int) (b_0_1 : List Int) (c_1_0 : Int) (c_1_1 : List Int) : Option (Bool) :=
  (F.law35_awake n).bind fun y12 => cond (!y12) (some false) ((F.law35_great n b_0_0 b_0_1).bind fun y19 => cond y19 (some true) ((F.law35_great n c_1_0 c_1_1).bind fun y24 => cond y24 (some true) ((F.braid_Valid n b_0_0 b_0_1).bind fun y32 => cond (!y32) ((F.artin_Trivial n b_0_0 b_0_1).bind fun y37 => some (!y37)) ((F.artin_Trivial n b_0_0 b_0_1).bind fun y44 => (F.garside_Same n b_0_0 b_0_1 b_0_0 ([])).bind fun y47 => cond (!(y44 == y47)) (some false) ((F.braid_Inverse n c_1_0 c_1_1).bind fun y56 => (F.braid_Mul n b_0_0 b_0_1 y56.1 y56.2).bind fun y66 => cond (!(decide (y66.2.2 = 0))) (some true) (cond (decide (20 < (y66.2.1.length : Int))) (some true) ((F.artin_Trivial n y66.1 y66.2.1).bind fun y86 => (F.garside_Same n b_0_0 b_0_1 c_1_0 c_1_1).bind fun y89 => some (y86 == y89))))))))

end F
end Go.Proofs.Ytlkmcbgkohpmiaa
