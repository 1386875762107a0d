/- The plain functions. -/
import Derived.Test.YtkjpldmelafooaaRun
import Derived.Test.YtkjpldmelafooaaMore
import Derived.Test.YtkjpldmelafooaaIns
import Derived.Test.YtkjpldmelafooaaRange
set_option linter.unusedVariables false
set_option linter.unusedSimpArgs false
namespace Go.Proofs.Ytkjpldmelafooaa
open Ev
namespace F
def braid_Valid_b0 (n : Nat) (b_0_0 : Int) (b_0_1 : List Int) : Int → Option ((Int) ⊕ ((Int) ⊕ (Bool)))
  | v22_0 => cond (decide (v22_0 < (b_0_1.length : Int))) ((get b_0_1 v22_0).bind fun x29 => cond (decide (x29 = 0)) (some (.inr (.inr false))) ((chk (-b_0_0)).bind fun z38 => cond (decide (x29 ≤ z38)) (some (.inr (.inr false))) (cond (decide (b_0_0 ≤ x29)) (some (.inr (.inr false))) ((chk (v22_0 + 1)).bind fun z44 => some (.inl z44))))) (some (.inr (.inl v22_0)))

def braid_Valid (n : Nat) (b_0_0 : Int) (b_0_1 : List Int) : Option (Bool) :=
  cond (decide (b_0_0 < 1)) (some false) (cond (decide (10 < b_0_0)) (some false) (cond (decide (200 < (b_0_1.length : Int))) (some false) (((loopN n (F.braid_Valid_b0 n b_0_0 b_0_1) 0).bind fun o17 => match o17 with
    | (.inl v22_0) => some true
    | (.inr q) => some q))))

def markov_inTable_j0 (n : Nat) (b_0_1 : List Int) (s_1_0 : Int) (s_1_1 : Int) (s_1_2 : Int) (v5_0 : Bool) : Option (Bool) :=
  cond (decide (s_1_0 = 1)) (cond v5_0 (cond (decide (s_1_2 = 0)) (some true) (some (decide (s_1_2 = 1)))) (some false)) (cond (decide (s_1_0 = 2)) (cond (decide (s_1_1 = 1)) (some (decide (s_1_2 = 0))) (cond (decide (s_1_1 = (-1))) (some (decide (s_1_2 = 0))) (some false))) (cond (decide (s_1_0 = 3)) (cond (decide (s_1_1 = 0)) (some (decide (s_1_2 = 0))) (some false)) (cond (decide (s_1_0 = 6)) (cond v5_0 (cond (decide (0 ≤ s_1_2)) (some (decide (s_1_2 ≤ (b_0_1.length : Int)))) (some false)) (some false)) (cond (decide (s_1_1 = 0)) (cond (decide (0 ≤ s_1_2)) (some (decide (s_1_2 < (b_0_1.length : Int)))) (some false)) (some false)))))

def markov_inTable (n : Nat) (b_0_0 : Int) (b_0_1 : List Int) (s_1_0 : Int) (s_1_1 : Int) (s_1_2 : Int) : Option (Bool) :=
  cond (!(decide (s_1_1 = 0))) ((chk (-b_0_0)).bind fun z11 => cond (decide (z11 < s_1_1)) (F.markov_inTable_j0 n b_0_1 s_1_0 s_1_1 s_1_2 (decide (s_1_1 < b_0_0))) (F.markov_inTable_j0 n b_0_1 s_1_0 s_1_1 s_1_2 false)) (F.markov_inTable_j0 n b_0_1 s_1_0 s_1_1 s_1_2 false)


def markov_size (n : Nat) (letter_0 : Int) : Option (Int) :=
  (chk (-letter_0)).bind fun z3 => some (max letter_0 z3)


def markov_applicable_c1 (n : Nat) (letter_0 : Int) (u_1_0 : Int) (u_1_1 : List Int) : Option (Bool) :=
  (F.markov_size n letter_0).bind fun y7 => (chk (u_1_0 - 1)).bind fun z11 => some (decide (y7 = z11))

def slices_IndexFunc_Lint_int_markov_applicable_c1_b0 (n : Nat) (s_0 : List Int) (f_1_0_0 : Int) (f_1_0_1 : List Int) : Int → Option ((Int) ⊕ ((Int) ⊕ (Int)))
  | v8_0 => cond (decide (v8_0 < (s_0.length : Int))) ((get s_0 v8_0).bind fun x20 => (F.markov_applicable_c1 n x20 f_1_0_0 f_1_0_1).bind fun y26 => cond y26 (some (.inr (.inr v8_0))) ((chk (v8_0 + 1)).bind fun z31 => some (.inl z31))) (some (.inr (.inl v8_0)))

def slices_IndexFunc_Lint_int_markov_applicable_c1 (n : Nat) (s_0 : List Int) (f_1_0_0 : Int) (f_1_0_1 : List Int) : Option (Int) :=
  ((loopN n (F.slices_IndexFunc_Lint_int_markov_applicable_c1_b0 n s_0 f_1_0_0 f_1_0_1) 0).bind fun o7 => match o7 with
    | (.inl v8_0) => some (-1)
    | (.inr q) => some q)


def markov_applicable (n : Nat) (b_0_0 : Int) (b_0_1 : List Int) (s_1_0 : Int) (s_1_1 : Int) (s_1_2 : Int) : Option (Bool) :=
  cond (decide (s_1_0 = 1)) (cond (decide (s_1_2 = 0)) (some true) (cond (decide (2 ≤ (b_0_1.length : Int))) ((get b_0_1 0).bind fun x20 => (chk (-s_1_1)).bind fun z27 => cond (decide (x20 = z27)) ((chk ((b_0_1.length : Int) - 1)).bind fun z30 => (get b_0_1 z30).bind fun x32 => some (decide (x32 = s_1_1))) (some false)) (some false))) (cond (decide (s_1_0 = 3)) (cond (decide (2 ≤ b_0_0)) (cond (decide (1 ≤ (b_0_1.length : Int))) ((F.slices_IndexFunc_Lint_int_markov_applicable_c1 n b_0_1 b_0_0 b_0_1).bind fun y45 => (chk ((b_0_1.length : Int) - 1)).bind fun z49 => some (decide (y45 = z49))) (some false)) (some false)) (cond (decide (s_1_0 = 4)) ((chk (s_1_2 + 1)).bind fun z56 => cond (decide (z56 < (b_0_1.length : Int))) ((get b_0_1 s_1_2).bind fun x59 => (F.markov_size n x59).bind fun y66 => (chk (s_1_2 + 1)).bind fun z70 => (get b_0_1 z70).bind fun x72 => (F.markov_size n x72).bind fun y79 => (chk (y66 - y79)).bind fun z83 => (F.markov_size n z83).bind fun y85 => some (decide (2 ≤ y85))) (some false)) (cond (decide (s_1_0 = 5)) ((chk (s_1_2 + 2)).bind fun z93 => cond (decide ((b_0_1.length : Int) ≤ z93)) (some false) ((get b_0_1 s_1_2).bind fun x101 => (chk (s_1_2 + 1)).bind fun z108 => (get b_0_1 z108).bind fun x110 => (chk (s_1_2 + 2)).bind fun z119 => (get b_0_1 z119).bind fun x121 => cond (decide (x121 = x101)) (cond ((decide (0 < x101)) == (decide (0 < x110))) ((chk (x101 - x110)).bind fun z129 => (F.markov_size n z129).bind fun y131 => some (decide (y131 = 1))) (some false)) (some false))) (cond (decide (s_1_0 = 7)) ((chk (s_1_2 + 1)).bind fun z140 => cond (decide (z140 < (b_0_1.length : Int))) ((chk (s_1_2 + 1)).bind fun z143 => (get b_0_1 z143).bind fun x145 => (get b_0_1 s_1_2).bind fun x152 => (chk (-x152)).bind fun z159 => some (decide (x145 = z159))) (some false)) (some true)))))


def slices_Clone_Lint_int (n : Nat) (s_0 : List Int) : Option ((List Int)) :=
  (lim (([] : List Int).length + s_0.length)).bind fun u16 => some (([] : List Int) ++ s_0)


def slices_Grow_Lint_int_nil (n : Nat) (nx_1 : Int) : Option ((List Int)) :=
  cond (decide (nx_1 < 0)) (none) ((chk (0 - 0)).bind fun z7 => (chk (nx_1 - z7)).bind fun z9 => cond (decide (0 < z9)) ((posz z9).bind fun u14 => (cut 0 0 (List.replicate z9.toNat (0 : Int)).length).bind fun u22 => some ((List.replicate z9.toNat (0 : Int)).take (0 : Int).toNat)) (some ([])))

def slices_Concat_Lint_int_b1 (n : Nat) (slices_0 : List (List Int)) : (List Int) × Int → Option (((List Int) × Int) ⊕ (((List Int) × Int)))
  | (l6_1, v27_1) => cond (decide (v27_1 < (slices_0.length : Int))) ((get slices_0 v27_1).bind fun x63 => (lim (l6_1.length + x63.length)).bind fun u74 => (chk (v27_1 + 1)).bind fun z81 => some (.inl ((l6_1 ++ x63), z81))) (some (.inr (l6_1, v27_1)))

def slices_Concat_Lint_int_b0 (n : Nat) (slices_0 : List (List Int)) : Int × Int → Option ((Int × Int) ⊕ ((Int × Int)))
  | (v3_0, v11_0) => cond (decide (v11_0 < (slices_0.length : Int))) ((get slices_0 v11_0).bind fun x18 => (chk (v3_0 + (x18.length : Int))).bind fun z30 => cond (decide (z30 < 0)) (none) ((chk (v11_0 + 1)).bind fun z35 => some (.inl (z30, z35)))) (some (.inr (v3_0, v11_0)))

def slices_Concat_Lint_int (n : Nat) (slices_0 : List (List Int)) : Option ((List Int)) :=
  ((loopN n (F.slices_Concat_Lint_int_b0 n slices_0) (0, 0)).bind fun o6 => match o6 with
    | (v3_0, v11_0) => (F.slices_Grow_Lint_int_nil n v3_0).bind fun y40 => ((loopN n (F.slices_Concat_Lint_int_b1 n slices_0) (y40, 0)).bind fun o51 => match o51 with
    | (l6_1, v27_1) => some l6_1))

def slices_Insert_Lint_int (n : Nat) (s_0 : List Int) (i_1 : Int) (v_2 : List Int) : Option (List Int) := insF s_0 i_1 v_2

def slices_Delete_Lint_int (n : Nat) (s_0 : List Int) (i_1 j_2 : Int) : Option (List Int) := delF s_0 i_1 j_2

def markov_change_j0 (n : Nat) (l7_0 : List Int) (v9_0 : Int) (bf31_0_0 : Int) (bf31_1_0 : Int) (bf31_2_0 : Int) : Option (Int × (List Int) × Int × Int × Int) :=
  some (v9_0, l7_0, bf31_0_0, bf31_1_0, bf31_2_0)

def markov_change (n : Nat) (b_0_0 : Int) (b_0_1 : List Int) (s_1_0 : Int) (s_1_1 : Int) (s_1_2 : Int) : Option (Int × (List Int) × Int × Int × Int) :=
  (F.slices_Clone_Lint_int n b_0_1).bind fun y18 => cond (decide (s_1_0 = 1)) (cond (decide (s_1_2 = 0)) ((chk (-s_1_1)).bind fun z48 => (F.slices_Concat_Lint_int n ([([s_1_1] : List Int), y18, ([z48] : List Int)] : List (List Int))).bind fun y62 => (chk (-s_1_1)).bind fun z72 => (chk (1 - s_1_2)).bind fun z74 => F.markov_change_j0 n y62 b_0_0 1 z72 z74) ((chk ((b_0_1.length : Int) - 1)).bind fun z77 => (cut 1 z77 y18.length).bind fun u79 => (chk (-s_1_1)).bind fun z88 => (chk (1 - s_1_2)).bind fun z90 => F.markov_change_j0 n ((y18.drop (1 : Int).toNat).take (z77.toNat - (1 : Int).toNat)) b_0_0 1 z88 z90)) (cond (decide (s_1_0 = 2)) ((chk (s_1_1 * b_0_0)).bind fun z97 => (lim (y18.length + ([z97] : List Int).length)).bind fun u105 => (chk (b_0_0 + 1)).bind fun z113 => F.markov_change_j0 n (y18 ++ ([z97] : List Int)) z113 3 0 0) (cond (decide (s_1_0 = 3)) ((chk ((b_0_1.length : Int) - 1)).bind fun z122 => (get y18 z122).bind fun x124 => cond (decide (x124 < 0)) ((chk ((b_0_1.length : Int) - 1)).bind fun z134 => (cut 0 z134 y18.length).bind fun u136 => (chk (b_0_0 - 1)).bind fun z140 => F.markov_change_j0 n (y18.take z134.toNat) z140 2 (-1) 0) ((chk ((b_0_1.length : Int) - 1)).bind fun z143 => (cut 0 z143 y18.length).bind fun u145 => (chk (b_0_0 - 1)).bind fun z149 => F.markov_change_j0 n (y18.take z143.toNat) z149 2 1 0)) (cond (decide (s_1_0 = 4)) ((chk (s_1_2 + 1)).bind fun z155 => (chk (s_1_2 + 1)).bind fun z157 => (get y18 z157).bind fun x159 => (get y18 s_1_2).bind fun x166 => (get y18 s_1_2).bind fun x173 => (get (y18.set s_1_2.toNat x159) z155).bind fun x181 => F.markov_change_j0 n ((y18.set s_1_2.toNat x159).set z155.toNat x166) b_0_0 s_1_0 s_1_1 s_1_2) (cond (decide (s_1_0 = 5)) ((get y18 s_1_2).bind fun x193 => (chk (s_1_2 + 1)).bind fun z200 => (get y18 z200).bind fun x202 => (chk (s_1_2 + 1)).bind fun z212 => (chk (s_1_2 + 2)).bind fun z214 => (get y18 s_1_2).bind fun x216 => (get (y18.set s_1_2.toNat x202) z212).bind fun x224 => (get ((y18.set s_1_2.toNat x202).set z212.toNat x193) z214).bind fun x231 => F.markov_change_j0 n (((y18.set s_1_2.toNat x202).set z212.toNat x193).set z214.toNat x202) b_0_0 s_1_0 s_1_1 s_1_2) (cond (decide (s_1_0 = 6)) ((chk (-s_1_1)).bind fun z241 => (F.slices_Insert_Lint_int n y18 s_1_2 ([s_1_1, z241] : List Int)).bind fun y249 => F.markov_change_j0 n y249 b_0_0 7 0 s_1_2) (cond (decide (s_1_0 = 7)) ((get y18 s_1_2).bind fun x266 => (chk (s_1_2 + 2)).bind fun z274 => (F.slices_Delete_Lint_int n y18 s_1_2 z274).bind fun y276 => F.markov_change_j0 n y276 b_0_0 6 x266 s_1_2) (F.markov_change_j0 n y18 b_0_0 s_1_0 s_1_1 s_1_2)))))))


def markov_Apply (n : Nat) (b_0_0 : Int) (b_0_1 : List Int) (s_1_0 : Int) (s_1_1 : Int) (s_1_2 : Int) : Option (Int × (List Int) × Int × Int × Int × Int) :=
  (F.braid_Valid n b_0_0 b_0_1).bind fun y17 => cond (!y17) (some (0, [], 0, 0, 0, 1)) (cond (decide (s_1_0 < 1)) (some (0, [], 0, 0, 0, 11)) (cond (decide (7 < s_1_0)) (some (0, [], 0, 0, 0, 11)) ((F.markov_inTable n b_0_0 b_0_1 s_1_0 s_1_1 s_1_2).bind fun y41 => cond (!y41) (some (0, [], 0, 0, 0, 2)) ((F.markov_applicable n b_0_0 b_0_1 s_1_0 s_1_1 s_1_2).bind fun y51 => cond (!y51) (some (0, [], 0, 0, 0, 6)) ((F.markov_change n b_0_0 b_0_1 s_1_0 s_1_1 s_1_2).bind fun y60 => cond (decide (10 < y60.1)) (some (0, [], 0, 0, 0, 5)) (cond (decide (200 < (y60.2.1.length : Int))) (some (0, [], 0, 0, 0, 5)) (some (y60.1, y60.2.1, y60.2.2.1, y60.2.2.2.1, y60.2.2.2.2, 0))))))))

def ref36_Equal_b0 (n : Nat) (a_0_1 : List Int) (b_1_1 : List Int) : Int → Option ((Int) ⊕ ((Int) ⊕ (Bool)))
  | v5_0 => cond (decide (v5_0 < (a_0_1.length : Int))) ((get a_0_1 v5_0).bind fun x33 => (get b_1_1 v5_0).bind fun x40 => cond (!(decide (x33 = x40))) (some (.inr (.inr false))) ((chk (v5_0 + 1)).bind fun z49 => some (.inl z49))) (some (.inr (.inl v5_0)))

def ref36_Equal (n : Nat) (a_0_0 : Int) (a_0_1 : List Int) (b_1_0 : Int) (b_1_1 : List Int) : Option (Bool) :=
  cond (!(decide (a_0_0 = b_1_0))) (some false) (cond (!(decide ((a_0_1.length : Int) = (b_1_1.length : Int)))) (some false) (((loopN n (F.ref36_Equal_b0 n a_0_1 b_1_1) 0).bind fun o19 => match o19 with
    | (.inl v5_0) => some true
    | (.inr q) => some q)))


def law36_equal (n : Nat) (a_0_0 : Int) (a_0_1 : List Int) (b_1_0 : Int) (b_1_1 : List Int) : Option (Bool) :=
  (F.ref36_Equal n a_0_0 a_0_1 b_1_0 b_1_1).bind fun y11 => some y11


def law36_awake (n : Nat) : Option (Bool) :=
  (F.markov_Apply n 3 ([1, 2, 1] : List Int) 5 0 0).bind fun y9 => (F.markov_Apply n 1 ([]) 2 (-1) 0).bind fun y33 => cond (decide (y9.2.2.2.2.2 = 0)) (cond (decide (y33.2.2.2.2.2 = 0)) (cond (decide (y9.2.2.1 = 5) && (decide (y9.2.2.2.1 = 0) && (decide (y9.2.2.2.2.1 = 0) && true))) ((F.law36_equal n y9.1 y9.2.1 3 ([2, 1, 2] : List Int)).bind fun y66 => cond y66 ((F.law36_equal n y33.1 y33.2.1 2 ([(-1)] : List Int)).bind fun y76 => some y76) (some false)) (some false)) (some false)) (some false)

def ref33_Valid_b0 (n : Nat) (strands_0 : Int) (word_1 : List Int) : Int → Option ((Int) ⊕ ((Int) ⊕ (Bool)))
  | v5_0 => cond (decide (v5_0 < (word_1.length : Int))) ((get word_1 v5_0).bind fun x26 => cond (decide (x26 = 0)) (some (.inr (.inr false))) ((get word_1 v5_0).bind fun x34 => cond (decide (strands_0 ≤ x34)) (some (.inr (.inr false))) ((get word_1 v5_0).bind fun x42 => (chk (-strands_0)).bind fun z48 => cond (decide (x42 ≤ z48)) (some (.inr (.inr false))) ((chk (v5_0 + 1)).bind fun z52 => some (.inl z52))))) (some (.inr (.inl v5_0)))

def ref33_Valid (n : Nat) (strands_0 : Int) (word_1 : List Int) : Option (Bool) :=
  cond (decide (strands_0 < 1)) (some false) (cond (decide (10 < strands_0)) (some false) (cond (decide (200 < (word_1.length : Int))) (some false) (((loopN n (F.ref33_Valid_b0 n strands_0 word_1) 0).bind fun o14 => match o14 with
    | (.inl v5_0) => some true
    | (.inr q) => some q))))


def ref33_Abs (n : Nat) (nx_0 : Int) : Option (Int) :=
  cond (decide (nx_0 < 0)) ((chk (-nx_0)).bind fun z6 => some z6) (some nx_0)


def ref36_splice (n : Nat) (wx_0 : List Int) (at_1 : Int) (many_2 : Int) (by_3 : List Int) : Option ((List Int)) :=
  (cut 0 at_1 wx_0.length).bind fun u13 => (lim (([] : List Int).length + ((wx_0.drop (0 : Int).toNat).take (at_1.toNat - (0 : Int).toNat)).length)).bind fun u22 => (lim ((([] : List Int) ++ ((wx_0.drop (0 : Int).toNat).take (at_1.toNat - (0 : Int).toNat))).length + by_3.length)).bind fun u29 => (chk (at_1 + many_2)).bind fun z36 => (cut z36 (wx_0.length : Int) wx_0.length).bind fun u38 => (lim (((([] : List Int) ++ ((wx_0.drop (0 : Int).toNat).take (at_1.toNat - (0 : Int).toNat))) ++ by_3).length + ((wx_0.drop z36.toNat).take ((wx_0.length : Int).toNat - z36.toNat)).length)).bind fun u47 => some (((([] : List Int) ++ ((wx_0.drop (0 : Int).toNat).take (at_1.toNat - (0 : Int).toNat))) ++ by_3) ++ ((wx_0.drop z36.toNat).take ((wx_0.length : Int).toNat - z36.toNat)))

def ref36_Apply_j20 (n : Nat) (bf42_0_2 : Int) (kf42_1_2 : List Int) (bf45_0_2 : Int) (bf45_1_2 : Int) (bf45_2_2 : Int) (v19_20 : Int) : Option (Int × (List Int) × Int × Int × Int × Int) :=
  cond (!(decide (v19_20 = 0))) (some (0, [], 0, 0, 0, v19_20)) (some (bf42_0_2, kf42_1_2, bf45_0_2, bf45_1_2, bf45_2_2, 0))

def ref36_Apply_j2 (n : Nat) (v11_2 : Bool) (v12_2 : Bool) (bf42_0_2 : Int) (kf42_1_2 : List Int) (bf45_0_2 : Int) (bf45_1_2 : Int) (bf45_2_2 : Int) : Option (Int × (List Int) × Int × Int × Int × Int) :=
  cond (!v11_2) (F.ref36_Apply_j20 n bf42_0_2 kf42_1_2 bf45_0_2 bf45_1_2 bf45_2_2 2) (cond (!v12_2) (F.ref36_Apply_j20 n bf42_0_2 kf42_1_2 bf45_0_2 bf45_1_2 bf45_2_2 6) (cond (decide (10 < bf42_0_2)) (F.ref36_Apply_j20 n bf42_0_2 kf42_1_2 bf45_0_2 bf45_1_2 bf45_2_2 5) (cond (decide (200 < (kf42_1_2.length : Int))) (F.ref36_Apply_j20 n bf42_0_2 kf42_1_2 bf45_0_2 bf45_1_2 bf45_2_2 5) (F.ref36_Apply_j20 n bf42_0_2 kf42_1_2 bf45_0_2 bf45_1_2 bf45_2_2 0))))

def ref36_Apply_j4 (n : Nat) (b_0_0 : Int) (s_1_1 : Int) (s_1_2 : Int) (v11_3 : Bool) (v12_4 : Bool) (kf42_1_4 : List Int) : Option (Int × (List Int) × Int × Int × Int × Int) :=
  F.ref36_Apply_j2 n v11_3 v12_4 b_0_0 kf42_1_4 1 (wr (-s_1_1)) (wr (1 - s_1_2))

def ref36_Apply_j6 (n : Nat) (b_0_0 : Int) (b_0_1 : List Int) (s_1_1 : Int) (s_1_2 : Int) (v11_3 : Bool) (v12_6 : Bool) : Option (Int × (List Int) × Int × Int × Int × Int) :=
  cond v12_6 ((cut 1 (wr ((b_0_1.length : Int) - 1)) b_0_1.length).bind fun u166 => F.ref36_Apply_j4 n b_0_0 s_1_1 s_1_2 v11_3 v12_6 ((b_0_1.drop (1 : Int).toNat).take ((wr ((b_0_1.length : Int) - 1)).toNat - (1 : Int).toNat))) (F.ref36_Apply_j4 n b_0_0 s_1_1 s_1_2 v11_3 v12_6 ([] : List Int))

def ref36_Apply_j5 (n : Nat) (b_0_0 : Int) (b_0_1 : List Int) (s_1_1 : Int) (s_1_2 : Int) (v11_3 : Bool) (v86_5 : Bool) : Option (Int × (List Int) × Int × Int × Int × Int) :=
  cond v86_5 ((lim (([s_1_1] : List Int).length + b_0_1.length)).bind fun u72 => (lim ((([s_1_1] : List Int) ++ b_0_1).length + ([(wr (-s_1_1))] : List Int).length)).bind fun u85 => F.ref36_Apply_j4 n b_0_0 s_1_1 s_1_2 v11_3 true ((([s_1_1] : List Int) ++ b_0_1) ++ ([(wr (-s_1_1))] : List Int))) (cond v11_3 (cond (decide (2 ≤ (b_0_1.length : Int))) ((get b_0_1 0).bind fun x147 => cond (decide (x147 = (wr (-s_1_1)))) ((get b_0_1 (wr ((b_0_1.length : Int) - 1))).bind fun x155 => F.ref36_Apply_j6 n b_0_0 b_0_1 s_1_1 s_1_2 v11_3 (decide (x155 = s_1_1))) (F.ref36_Apply_j6 n b_0_0 b_0_1 s_1_1 s_1_2 v11_3 false)) (F.ref36_Apply_j6 n b_0_0 b_0_1 s_1_1 s_1_2 v11_3 false)) (F.ref36_Apply_j4 n b_0_0 s_1_1 s_1_2 v11_3 true ([] : List Int)))

def ref36_Apply_j3 (n : Nat) (b_0_0 : Int) (b_0_1 : List Int) (s_1_1 : Int) (s_1_2 : Int) (v11_3 : Bool) : Option (Int × (List Int) × Int × Int × Int × Int) :=
  cond v11_3 (F.ref36_Apply_j5 n b_0_0 b_0_1 s_1_1 s_1_2 v11_3 (decide (s_1_2 = 0))) (F.ref36_Apply_j5 n b_0_0 b_0_1 s_1_1 s_1_2 v11_3 false)

def ref36_Apply_j7 (n : Nat) (b_0_0 : Int) (b_0_1 : List Int) (s_1_1 : Int) (v11_7 : Bool) : Option (Int × (List Int) × Int × Int × Int × Int) :=
  (lim (([] : List Int).length + b_0_1.length)).bind fun u199 => (lim ((([] : List Int) ++ b_0_1).length + ([(wr (s_1_1 * b_0_0))] : List Int).length)).bind fun u212 => F.ref36_Apply_j2 n v11_7 true (wr (b_0_0 + 1)) ((([] : List Int) ++ b_0_1) ++ ([(wr (s_1_1 * b_0_0))] : List Int)) 3 0 0

def ref36_Apply_b10 (n : Nat) (b_0_0 : Int) (b_0_1 : List Int) : Bool × Int → Option ((Bool × Int) ⊕ ((Bool × Int)))
  | (v12_10, v15_10) => cond (decide (v15_10 < (wr ((b_0_1.length : Int) - 1)))) (cond v12_10 ((get b_0_1 v15_10).bind fun x311 => (F.ref33_Abs n x311).bind fun y318 => some (.inl ((!(decide (y318 = (wr (b_0_0 - 1))))), (wr (v15_10 + 1))))) (some (.inl (false, (wr (v15_10 + 1)))))) (some (.inr (v12_10, v15_10)))

def ref36_Apply_j9 (n : Nat) (b_0_0 : Int) (b_0_1 : List Int) (v11_8 : Bool) (v12_9 : Bool) : Option (Int × (List Int) × Int × Int × Int × Int) :=
  ((loopN n (F.ref36_Apply_b10 n b_0_0 b_0_1) (v12_9, 0)).bind fun o297 => match o297 with
    | (v12_10, v15_10) => cond v12_10 ((cut 0 (wr ((b_0_1.length : Int) - 1)) b_0_1.length).bind fun u329 => (get b_0_1 (wr ((b_0_1.length : Int) - 1))).bind fun x343 => cond (decide (x343 < 0)) (F.ref36_Apply_j2 n v11_8 v12_10 (wr (b_0_0 - 1)) ((b_0_1.drop (0 : Int).toNat).take ((wr ((b_0_1.length : Int) - 1)).toNat - (0 : Int).toNat)) 2 (-1) 0) (F.ref36_Apply_j2 n v11_8 v12_10 (wr (b_0_0 - 1)) ((b_0_1.drop (0 : Int).toNat).take ((wr ((b_0_1.length : Int) - 1)).toNat - (0 : Int).toNat)) 2 1 0)) (F.ref36_Apply_j2 n v11_8 v12_10 b_0_0 ([] : List Int) 0 0 0))

def ref36_Apply_j8 (n : Nat) (b_0_0 : Int) (b_0_1 : List Int) (v11_8 : Bool) : Option (Int × (List Int) × Int × Int × Int × Int) :=
  cond (decide (2 ≤ b_0_0)) (cond (decide (1 ≤ (b_0_1.length : Int))) ((get b_0_1 (wr ((b_0_1.length : Int) - 1))).bind fun x282 => (F.ref33_Abs n x282).bind fun y289 => F.ref36_Apply_j9 n b_0_0 b_0_1 v11_8 (decide (y289 = (wr (b_0_0 - 1))))) (F.ref36_Apply_j9 n b_0_0 b_0_1 v11_8 false)) (F.ref36_Apply_j9 n b_0_0 b_0_1 v11_8 false)

def ref36_Apply_j13 (n : Nat) (b_0_0 : Int) (b_0_1 : List Int) (s_1_0 : Int) (s_1_1 : Int) (s_1_2 : Int) (v11_11 : Bool) (v12_13 : Bool) : Option (Int × (List Int) × Int × Int × Int × Int) :=
  (get b_0_1 (wr (s_1_2 + 1))).bind fun x397 => (get b_0_1 s_1_2).bind fun x404 => (F.ref36_splice n b_0_1 s_1_2 2 ([x397, x404] : List Int)).bind fun y417 => F.ref36_Apply_j2 n v11_11 v12_13 b_0_0 y417 s_1_0 s_1_1 s_1_2

def ref36_Apply_j12 (n : Nat) (b_0_0 : Int) (b_0_1 : List Int) (s_1_0 : Int) (s_1_1 : Int) (s_1_2 : Int) (v11_11 : Bool) (v12_12 : Bool) : Option (Int × (List Int) × Int × Int × Int × Int) :=
  cond v12_12 ((get b_0_1 s_1_2).bind fun x368 => (F.ref33_Abs n x368).bind fun y375 => (get b_0_1 (wr (s_1_2 + 1))).bind fun x379 => (F.ref33_Abs n x379).bind fun y386 => cond (decide (2 ≤ (wr (y375 - y386)))) (F.ref36_Apply_j13 n b_0_0 b_0_1 s_1_0 s_1_1 s_1_2 v11_11 true) (F.ref36_Apply_j13 n b_0_0 b_0_1 s_1_0 s_1_1 s_1_2 v11_11 (decide ((wr (y375 - y386)) ≤ (-2))))) (F.ref36_Apply_j2 n v11_11 v12_12 b_0_0 ([] : List Int) s_1_0 s_1_1 s_1_2)

def ref36_Apply_j11 (n : Nat) (b_0_0 : Int) (b_0_1 : List Int) (s_1_0 : Int) (s_1_1 : Int) (s_1_2 : Int) (v11_11 : Bool) : Option (Int × (List Int) × Int × Int × Int × Int) :=
  cond v11_11 (F.ref36_Apply_j12 n b_0_0 b_0_1 s_1_0 s_1_1 s_1_2 v11_11 (decide ((wr (s_1_2 + 1)) < (b_0_1.length : Int)))) (F.ref36_Apply_j12 n b_0_0 b_0_1 s_1_0 s_1_1 s_1_2 v11_11 false)

def ref36_Apply_j16 (n : Nat) (b_0_0 : Int) (b_0_1 : List Int) (s_1_0 : Int) (s_1_1 : Int) (s_1_2 : Int) (v11_14 : Bool) (x447 : Int) (x454 : Int) (v12_16 : Bool) : Option (Int × (List Int) × Int × Int × Int × Int) :=
  (F.ref36_splice n b_0_1 s_1_2 3 ([x454, x447, x454] : List Int)).bind fun y480 => F.ref36_Apply_j2 n v11_14 v12_16 b_0_0 y480 s_1_0 s_1_1 s_1_2

def ref36_Apply_j15 (n : Nat) (b_0_0 : Int) (b_0_1 : List Int) (s_1_0 : Int) (s_1_1 : Int) (s_1_2 : Int) (v11_14 : Bool) (v12_15 : Bool) : Option (Int × (List Int) × Int × Int × Int × Int) :=
  cond v12_15 ((get b_0_1 s_1_2).bind fun x447 => (get b_0_1 (wr (s_1_2 + 1))).bind fun x454 => (get b_0_1 (wr (s_1_2 + 2))).bind fun x463 => cond (decide (x463 = x447)) (cond (decide (0 < (wr (x447 * x454)))) (cond (decide ((wr (x447 - x454)) = 1)) (F.ref36_Apply_j16 n b_0_0 b_0_1 s_1_0 s_1_1 s_1_2 v11_14 x447 x454 true) (F.ref36_Apply_j16 n b_0_0 b_0_1 s_1_0 s_1_1 s_1_2 v11_14 x447 x454 (decide ((wr (x454 - x447)) = 1)))) (F.ref36_Apply_j16 n b_0_0 b_0_1 s_1_0 s_1_1 s_1_2 v11_14 x447 x454 false)) (F.ref36_Apply_j16 n b_0_0 b_0_1 s_1_0 s_1_1 s_1_2 v11_14 x447 x454 false)) (F.ref36_Apply_j2 n v11_14 v12_15 b_0_0 ([] : List Int) s_1_0 s_1_1 s_1_2)

def ref36_Apply_j14 (n : Nat) (b_0_0 : Int) (b_0_1 : List Int) (s_1_0 : Int) (s_1_1 : Int) (s_1_2 : Int) (v11_14 : Bool) : Option (Int × (List Int) × Int × Int × Int × Int) :=
  cond v11_14 (F.ref36_Apply_j15 n b_0_0 b_0_1 s_1_0 s_1_1 s_1_2 v11_14 (decide ((wr (s_1_2 + 2)) < (b_0_1.length : Int)))) (F.ref36_Apply_j15 n b_0_0 b_0_1 s_1_0 s_1_1 s_1_2 v11_14 false)

def ref36_Apply_j17 (n : Nat) (b_0_0 : Int) (b_0_1 : List Int) (s_1_1 : Int) (s_1_2 : Int) (v11_17 : Bool) : Option (Int × (List Int) × Int × Int × Int × Int) :=
  cond v11_17 ((F.ref36_splice n b_0_1 s_1_2 0 ([s_1_1, (wr (-s_1_1))] : List Int)).bind fun y509 => F.ref36_Apply_j2 n v11_17 true b_0_0 y509 7 0 s_1_2) (F.ref36_Apply_j2 n v11_17 true b_0_0 ([] : List Int) 7 0 s_1_2)

def ref36_Apply_j19 (n : Nat) (b_0_0 : Int) (b_0_1 : List Int) (s_1_2 : Int) (v11_18 : Bool) (v12_19 : Bool) : Option (Int × (List Int) × Int × Int × Int × Int) :=
  cond v12_19 ((get b_0_1 s_1_2).bind fun x538 => (get b_0_1 (wr (s_1_2 + 1))).bind fun x545 => (F.ref36_splice n b_0_1 s_1_2 2 ([])).bind fun y554 => (get b_0_1 s_1_2).bind fun x566 => F.ref36_Apply_j2 n v11_18 (decide (x538 = (wr (-x545)))) b_0_0 y554 6 x566 s_1_2) (F.ref36_Apply_j2 n v11_18 v12_19 b_0_0 ([] : List Int) 0 0 0)

def ref36_Apply_j18 (n : Nat) (b_0_0 : Int) (b_0_1 : List Int) (s_1_2 : Int) (v11_18 : Bool) : Option (Int × (List Int) × Int × Int × Int × Int) :=
  cond v11_18 (F.ref36_Apply_j19 n b_0_0 b_0_1 s_1_2 v11_18 (decide ((wr (s_1_2 + 1)) < (b_0_1.length : Int)))) (F.ref36_Apply_j19 n b_0_0 b_0_1 s_1_2 v11_18 false)

def ref36_Apply_j1 (n : Nat) (b_0_0 : Int) (b_0_1 : List Int) (s_1_0 : Int) (s_1_1 : Int) (s_1_2 : Int) (v9_0 : Bool) (v10_1 : Bool) : Option (Int × (List Int) × Int × Int × Int × Int) :=
  cond (decide (s_1_0 = 1)) (cond v9_0 (cond (decide (s_1_2 = 0)) (F.ref36_Apply_j3 n b_0_0 b_0_1 s_1_1 s_1_2 true) (F.ref36_Apply_j3 n b_0_0 b_0_1 s_1_1 s_1_2 (decide (s_1_2 = 1)))) (F.ref36_Apply_j3 n b_0_0 b_0_1 s_1_1 s_1_2 false)) (cond (decide (s_1_0 = 2)) (cond (decide (s_1_1 = 1)) (F.ref36_Apply_j7 n b_0_0 b_0_1 s_1_1 (decide (s_1_2 = 0))) (cond (decide (s_1_1 = (-1))) (F.ref36_Apply_j7 n b_0_0 b_0_1 s_1_1 (decide (s_1_2 = 0))) (F.ref36_Apply_j7 n b_0_0 b_0_1 s_1_1 false))) (cond (decide (s_1_0 = 3)) (cond (decide (s_1_1 = 0)) (F.ref36_Apply_j8 n b_0_0 b_0_1 (decide (s_1_2 = 0))) (F.ref36_Apply_j8 n b_0_0 b_0_1 false)) (cond (decide (s_1_0 = 4)) (cond (decide (s_1_1 = 0)) (F.ref36_Apply_j11 n b_0_0 b_0_1 s_1_0 s_1_1 s_1_2 v10_1) (F.ref36_Apply_j11 n b_0_0 b_0_1 s_1_0 s_1_1 s_1_2 false)) (cond (decide (s_1_0 = 5)) (cond (decide (s_1_1 = 0)) (F.ref36_Apply_j14 n b_0_0 b_0_1 s_1_0 s_1_1 s_1_2 v10_1) (F.ref36_Apply_j14 n b_0_0 b_0_1 s_1_0 s_1_1 s_1_2 false)) (cond (decide (s_1_0 = 6)) (cond v9_0 (cond (decide (0 ≤ s_1_2)) (F.ref36_Apply_j17 n b_0_0 b_0_1 s_1_1 s_1_2 (decide (s_1_2 ≤ (b_0_1.length : Int)))) (F.ref36_Apply_j17 n b_0_0 b_0_1 s_1_1 s_1_2 false)) (F.ref36_Apply_j17 n b_0_0 b_0_1 s_1_1 s_1_2 false)) (cond (decide (s_1_0 = 7)) (cond (decide (s_1_1 = 0)) (F.ref36_Apply_j18 n b_0_0 b_0_1 s_1_2 v10_1) (F.ref36_Apply_j18 n b_0_0 b_0_1 s_1_2 false)) (some (0, [], 0, 0, 0, 11))))))))

def ref36_Apply_j0 (n : Nat) (b_0_0 : Int) (b_0_1 : List Int) (s_1_0 : Int) (s_1_1 : Int) (s_1_2 : Int) (v9_0 : Bool) : Option (Int × (List Int) × Int × Int × Int × Int) :=
  cond (decide (0 ≤ s_1_2)) (F.ref36_Apply_j1 n b_0_0 b_0_1 s_1_0 s_1_1 s_1_2 v9_0 (decide (s_1_2 < (b_0_1.length : Int)))) (F.ref36_Apply_j1 n b_0_0 b_0_1 s_1_0 s_1_1 s_1_2 v9_0 false)

def ref36_Apply (n : Nat) (b_0_0 : Int) (b_0_1 : List Int) (s_1_0 : Int) (s_1_1 : Int) (s_1_2 : Int) : Option (Int × (List Int) × Int × Int × Int × Int) :=
  (F.ref33_Valid n b_0_0 b_0_1).bind fun y17 => cond (!y17) (some (0, [], 0, 0, 0, 1)) (cond (!(decide (s_1_1 = 0))) (cond (decide (s_1_1 < b_0_0)) (F.ref36_Apply_j0 n b_0_0 b_0_1 s_1_0 s_1_1 s_1_2 (decide ((wr (-b_0_0)) < s_1_1))) (F.ref36_Apply_j0 n b_0_0 b_0_1 s_1_0 s_1_1 s_1_2 false)) (F.ref36_Apply_j0 n b_0_0 b_0_1 s_1_0 s_1_1 s_1_2 false))


def law36_MarkovApply (n : Nat) (strands_0 : Int) (word_1 : List Int) (s_2_0 : Int) (s_2_1 : Int) (s_2_2 : Int) : Option (Bool) :=
  (F.law36_awake n).bind fun y8 => cond (!y8) (some false) (cond (decide (210 < (word_1.length : Int))) (some true) ((lim (([] : List Int).length + word_1.length)).bind fun u24 => (F.markov_Apply n strands_0 word_1 s_2_0 s_2_1 s_2_2).bind fun y33 => (F.ref36_Apply n strands_0 (([] : List Int) ++ word_1) s_2_0 s_2_1 s_2_2).bind fun y57 => cond (decide (y33.2.2.2.2.2 = y57.2.2.2.2.2)) ((F.ref36_Equal n y33.1 y33.2.1 y57.1 y57.2.1).bind fun y82 => cond y82 (cond (decide (y33.2.2.1 = y57.2.2.1) && (decide (y33.2.2.2.1 = y57.2.2.2.1) && (decide (y33.2.2.2.2.1 = y57.2.2.2.2.1) && true))) ((F.ref36_Equal n 0 word_1 0 (([] : List Int) ++ word_1)).bind fun y87 => some y87) (some false)) (some false)) (some false)))


def law36_MarkovInverse (n : Nat) (strands_0 : Int) (word_1 : List Int) (s_2_0 : Int) (s_2_1 : Int) (s_2_2 : Int) : Option (Bool) :=
  (F.law36_awake n).bind fun y8 => cond (!y8) (some false) (cond (decide (210 < (word_1.length : Int))) (some true) ((F.markov_Apply n strands_0 word_1 s_2_0 s_2_1 s_2_2).bind fun y24 => cond (!(decide (y24.2.2.2.2.2 = 0))) (cond (decide (y24.1 = 0)) (cond (decide ((y24.2.1.length : Int) = 0)) (some (decide (y24.2.2.1 = 0) && (decide (y24.2.2.2.1 = 0) && (decide (y24.2.2.2.2.1 = 0) && true)))) (some false)) (some false)) ((F.markov_Apply n y24.1 y24.2.1 y24.2.2.1 y24.2.2.2.1 y24.2.2.2.2.1).bind fun y54 => (F.braid_Valid n y24.1 y24.2.1).bind fun y78 => cond y78 (cond (decide (y54.2.2.2.2.2 = 0)) ((F.law36_equal n y54.1 y54.2.1 strands_0 word_1).bind fun y83 => cond y83 (some (decide (y54.2.2.1 = s_2_0) && (decide (y54.2.2.2.1 = s_2_1) && (decide (y54.2.2.2.2.1 = s_2_2) && true)))) (some false)) (some false)) (some false))))


def law36_MarkovFull_c1 (n : Nat) (x_0 : Int) (by_1 : Int) (u_2_0 : Int) : Option (Bool) :=
  (chk (u_2_0 + by_1)).bind fun z5 => cond (decide (200 < z5)) (some (decide (x_0 = 5))) (some (decide (x_0 = 0)))

def law36_MarkovFull_b0 (n : Nat) (z12 : Int) : Int × (List Int) → Option ((Int × (List Int)) ⊕ ((Int × (List Int))))
  | (v28_0, kf21_1_0) => cond (decide (v28_0 < z12)) ((lim (kf21_1_0.length + ([1] : List Int).length)).bind fun u44 => (chk (v28_0 + 1)).bind fun z52 => some (.inl (z52, (kf21_1_0 ++ ([1] : List Int))))) (some (.inr (v28_0, kf21_1_0)))

def law36_MarkovFull (n : Nat) (letters_0 : Int) (one_1 : Bool) : Option (Bool) :=
  (F.law36_awake n).bind fun y4 => cond (!y4) (some false) ((nz 4).bind fun u10 => (chk (197 + (Int.tmod letters_0 4))).bind fun z12 => ((loopN n (F.law36_MarkovFull_b0 n z12) (0, ([] : List Int))).bind fun o27 => match o27 with
    | (v28_0, kf21_1_0) => (F.ref33_Valid n 3 kf21_1_0).bind fun y58 => cond (!y58) (some false) ((F.markov_Apply n 3 kf21_1_0 6 2 0).bind fun y64 => (F.markov_Apply n 3 kf21_1_0 1 (-1) 0).bind fun y88 => (F.markov_Apply n 3 kf21_1_0 2 1 0).bind fun y112 => (F.markov_Apply n 10 ([]) 2 1 0).bind fun y136 => (F.law36_MarkovFull_c1 n y64.2.2.2.2.2 2 z12).bind fun y161 => cond y161 ((F.law36_MarkovFull_c1 n y88.2.2.2.2.2 2 z12).bind fun y165 => cond y165 ((F.law36_MarkovFull_c1 n y112.2.2.2.2.2 1 z12).bind fun y169 => cond y169 (some (decide (y136.2.2.2.2.2 = 5))) (some false)) (some false)) (some false))))

def markov_Play_b0 (n : Nat) (l_1 : List (Int × (Int × Int))) : Int × Int × (List Int) → Option ((Int × Int × (List Int)) ⊕ ((Int × Int × (List Int)) ⊕ (Int × (List Int) × Int × Int)))
  | (v22_0, bf6_0_0, kf6_1_0) => cond (decide (v22_0 < (l_1.length : Int))) ((get l_1 v22_0).bind fun x45 => (F.markov_Apply n bf6_0_0 kf6_1_0 x45.1 x45.2.1 x45.2.2).bind fun y64 => cond (!(decide (y64.2.2.2.2.2 = 0))) (some (.inr (.inr (bf6_0_0, kf6_1_0, v22_0, y64.2.2.2.2.2)))) ((chk (v22_0 + 1)).bind fun z93 => some (.inl (z93, y64.1, y64.2.1)))) (some (.inr (.inl (v22_0, bf6_0_0, kf6_1_0))))

def markov_Play (n : Nat) (b_0_0 : Int) (b_0_1 : List Int) (l_1 : List (Int × (Int × Int))) : Option (Int × (List Int) × Int × Int) :=
  (F.braid_Valid n b_0_0 b_0_1).bind fun y12 => cond (!y12) (some (0, [], 0, 1)) ((F.slices_Clone_Lint_int n b_0_1).bind fun y20 => ((loopN n (F.markov_Play_b0 n l_1) (0, b_0_0, y20)).bind fun o33 => match o33 with
    | (.inl (v22_0, bf6_0_0, kf6_1_0)) => some (bf6_0_0, kf6_1_0, (l_1.length : Int), 0)
    | (.inr q) => some q))

def law36_MarkovPlay_b1 (n : Nat) (l_2 : List (Int × (Int × Int))) (l8_0 : List (Int × (Int × Int))) : (List (Int × (Int × Int))) × Int × Int × Int × Int × (List Int) → Option (((List (Int × (Int × Int))) × Int × Int × Int × Int × (List Int)) ⊕ (((List (Int × (Int × Int))) × Int × Int × Int × Int × (List Int))))
  | (l9_1, v15_1, v16_1, v17_1, bf100_0_1, kf100_1_1) => cond (decide (v17_1 < (l_2.length : Int))) (cond (decide (v16_1 = 0)) ((get l8_0 v17_1).bind fun x122 => (F.markov_Apply n bf100_0_1 kf100_1_1 x122.1 x122.2.1 x122.2.2).bind fun y137 => cond (!(decide (y137.2.2.2.2.2 = 0))) ((chk (v17_1 + 1)).bind fun z164 => some (.inl (l9_1, v17_1, y137.2.2.2.2.2, z164, bf100_0_1, kf100_1_1))) ((lim (([(y137.2.2.1, y137.2.2.2.1, y137.2.2.2.2.1)] : List (Int × (Int × Int))).length + l9_1.length)).bind fun u174 => (chk (v17_1 + 1)).bind fun z181 => some (.inl ((([(y137.2.2.1, y137.2.2.2.1, y137.2.2.2.2.1)] : List (Int × (Int × Int))) ++ l9_1), v15_1, v16_1, z181, y137.1, y137.2.1)))) (some (.inr (l9_1, v15_1, v16_1, v17_1, bf100_0_1, kf100_1_1)))) (some (.inr (l9_1, v15_1, v16_1, v17_1, bf100_0_1, kf100_1_1)))

def law36_MarkovPlay_b0 (n : Nat) (l_2 : List (Int × (Int × Int))) : (List (Int × (Int × Int))) × Int → Option (((List (Int × (Int × Int))) × Int) ⊕ (((List (Int × (Int × Int))) × Int)))
  | (l8_0, v10_0) => cond (decide (v10_0 < (l_2.length : Int))) ((get l_2 v10_0).bind fun x38 => (lim (l8_0.length + ([(x38.1, x38.2.1, x38.2.2)] : List (Int × (Int × Int))).length)).bind fun u58 => (chk (v10_0 + 1)).bind fun z65 => some (.inl ((l8_0 ++ ([(x38.1, x38.2.1, x38.2.2)] : List (Int × (Int × Int)))), z65))) (some (.inr (l8_0, v10_0)))

def law36_MarkovPlay (n : Nat) (strands_0 : Int) (word_1 : List Int) (l_2 : List (Int × (Int × Int))) : Option (Bool) :=
  (F.law36_awake n).bind fun y6 => cond (!y6) (some false) (cond (decide (210 < (word_1.length : Int))) (some true) (cond (decide (12 < (l_2.length : Int))) (some true) (((loopN n (F.law36_MarkovPlay_b0 n l_2) (([] : List (Int × (Int × Int))), 0)).bind fun o27 => match o27 with
    | (l8_0, v10_0) => (F.markov_Play n strands_0 word_1 l8_0).bind fun y70 => (F.braid_Valid n strands_0 word_1).bind fun y89 => cond (!y89) (cond (decide (y70.2.2.2 = 1)) (cond (decide (y70.2.2.1 = 0)) (cond (decide (y70.1 = 0)) (some (decide ((y70.2.1.length : Int) = 0))) (some false)) (some false)) (some false)) (((loopN n (F.law36_MarkovPlay_b1 n l_2 l8_0) (([] : List (Int × (Int × Int))), (l_2.length : Int), 0, 0, strands_0, word_1)).bind fun o106 => match o106 with
    | (l9_1, v15_1, v16_1, v17_1, bf100_0_1, kf100_1_1) => cond (!(decide (y70.2.2.2 = v16_1))) (some false) (cond (!(decide (y70.2.2.1 = v15_1))) (some false) ((F.law36_equal n y70.1 y70.2.1 bf100_0_1 kf100_1_1).bind fun y401 => cond (!y401) (some false) ((F.markov_Play n y70.1 y70.2.1 l9_1).bind fun y408 => cond (decide (y408.2.2.2 = 0)) (cond (decide (y408.2.2.1 = (l9_1.length : Int))) ((F.law36_equal n y408.1 y408.2.1 strands_0 word_1).bind fun y428 => some y428) (some false)) (some false))))))))))


def markov_All_c1 (n : Nat) (kind_0 : Int) (gen_1 : Int) (at_2 : Int) (u_3_0 : Int) (u_3_1 : List Int) (u_4_0 : List (Int × (Int × Int))) : Option ((List (Int × (Int × Int)))) :=
  (F.markov_Apply n u_3_0 u_3_1 kind_0 gen_1 at_2).bind fun y11 => cond (decide (y11.2.2.2.2.2 = 0)) ((lim (u_4_0.length + ([(kind_0, gen_1, at_2)] : List (Int × (Int × Int))).length)).bind fun u42 => some (u_4_0 ++ ([(kind_0, gen_1, at_2)] : List (Int × (Int × Int))))) (some u_4_0)

def markov_All_b3 (n : Nat) (b_0_0 : Int) (b_0_1 : List Int) (v5_0 : Int) (v6_2 : Int) (z55 : Int) : Int × (List (Int × (Int × Int))) → Option ((Int × (List (Int × (Int × Int)))) ⊕ ((Int × (List (Int × (Int × Int))))))
  | (v46_3, kf17_0_3) => cond (decide (v46_3 < z55)) ((F.markov_All_c1 n v5_0 v6_2 v46_3 b_0_0 b_0_1 kf17_0_3).bind fun y69 => (chk (v46_3 + 1)).bind fun z78 => some (.inl (z78, y69))) (some (.inr (v46_3, kf17_0_3)))

def markov_All_b2 (n : Nat) (b_0_0 : Int) (b_0_1 : List Int) (v5_0 : Int) : Int × (List (Int × (Int × Int))) → Option ((Int × (List (Int × (Int × Int)))) ⊕ ((Int × (List (Int × (Int × Int))))))
  | (v6_2, kf17_0_2) => cond (decide (v6_2 < b_0_0)) ((chk ((b_0_1.length : Int) + 2)).bind fun z55 => ((loopN n (F.markov_All_b3 n b_0_0 b_0_1 v5_0 v6_2 z55) (0, kf17_0_2)).bind fun o57 => match o57 with
    | (v46_3, kf17_0_3) => (chk (v6_2 + 1)).bind fun z82 => some (.inl (z82, kf17_0_3)))) (some (.inr (v6_2, kf17_0_2)))

def markov_All_b4 (n : Nat) (b_0_0 : Int) (b_0_1 : List Int) (v5_0 : Int) (z112 : Int) : Int × (List (Int × (Int × Int))) → Option ((Int × (List (Int × (Int × Int)))) ⊕ ((Int × (List (Int × (Int × Int))))))
  | (v22_4, kf17_0_4) => cond (decide (v22_4 < z112)) ((F.markov_All_c1 n v5_0 0 v22_4 b_0_0 b_0_1 kf17_0_4).bind fun y126 => (chk (v22_4 + 1)).bind fun z135 => some (.inl (z135, y126))) (some (.inr (v22_4, kf17_0_4)))

def markov_All_j1 (n : Nat) (b_0_0 : Int) (b_0_1 : List Int) (v5_0 : Int) (kf17_0_0 : List (Int × (Int × Int))) (v30_1 : Bool) : Option ((Int × (List (Int × (Int × Int)))) ⊕ ((Int × (List (Int × (Int × Int)))))) :=
  cond v30_1 ((chk (1 - b_0_0)).bind fun z41 => ((loopN n (F.markov_All_b2 n b_0_0 b_0_1 v5_0) (z41, kf17_0_0)).bind fun o43 => match o43 with
    | (v6_2, kf17_0_2) => (chk (v5_0 + 1)).bind fun z86 => some (.inl (z86, kf17_0_2)))) (cond (decide (v5_0 = 2)) ((F.markov_All_c1 n v5_0 (-1) 0 b_0_0 b_0_1 kf17_0_0).bind fun y91 => (F.markov_All_c1 n v5_0 1 0 b_0_0 b_0_1 y91).bind fun y100 => (chk (v5_0 + 1)).bind fun z109 => some (.inl (z109, y100))) ((chk ((b_0_1.length : Int) + 1)).bind fun z112 => ((loopN n (F.markov_All_b4 n b_0_0 b_0_1 v5_0 z112) (0, kf17_0_0)).bind fun o114 => match o114 with
    | (v22_4, kf17_0_4) => (chk (v5_0 + 1)).bind fun z139 => some (.inl (z139, kf17_0_4)))))

def markov_All_b0 (n : Nat) (b_0_0 : Int) (b_0_1 : List Int) : Int × (List (Int × (Int × Int))) → Option ((Int × (List (Int × (Int × Int)))) ⊕ ((Int × (List (Int × (Int × Int))))))
  | (v5_0, kf17_0_0) => cond (decide (v5_0 ≤ 7)) (cond (decide (v5_0 = 1)) (F.markov_All_j1 n b_0_0 b_0_1 v5_0 kf17_0_0 (decide (v5_0 = 1))) (F.markov_All_j1 n b_0_0 b_0_1 v5_0 kf17_0_0 (decide (v5_0 = 6)))) (some (.inr (v5_0, kf17_0_0)))

def markov_All (n : Nat) (b_0_0 : Int) (b_0_1 : List Int) : Option ((List (Int × (Int × Int)))) :=
  (F.braid_Valid n b_0_0 b_0_1).bind fun y8 => cond (!y8) (some ([])) (((loopN n (F.markov_All_b0 n b_0_0 b_0_1) (1, ([] : List (Int × (Int × Int))))).bind fun o22 => match o22 with
    | (v5_0, kf17_0_0) => some kf17_0_0))

def ref36_All_b2 (n : Nat) (b_0_0 : Int) (b_0_1 : List Int) (v4_0 : Int) (v5_1 : Int) : (List (Int × (Int × Int))) × Int → Option (((List (Int × (Int × Int))) × Int) ⊕ (((List (Int × (Int × Int))) × Int)))
  | (l3_2, v6_2) => (chk ((b_0_1.length : Int) + 1)).bind fun z58 => cond (decide (v6_2 ≤ z58)) ((F.ref36_Apply n b_0_0 b_0_1 v4_0 v5_1 v6_2).bind fun y63 => cond (decide (y63.2.2.2.2.2 = 0)) ((lim (l3_2.length + ([(v4_0, v5_1, v6_2)] : List (Int × (Int × Int))).length)).bind fun u94 => (chk (v6_2 + 1)).bind fun z101 => some (.inl ((l3_2 ++ ([(v4_0, v5_1, v6_2)] : List (Int × (Int × Int)))), z101))) ((chk (v6_2 + 1)).bind fun z103 => some (.inl (l3_2, z103)))) (some (.inr (l3_2, v6_2)))

def ref36_All_b1 (n : Nat) (b_0_0 : Int) (b_0_1 : List Int) (v4_0 : Int) : (List (Int × (Int × Int))) × Int → Option (((List (Int × (Int × Int))) × Int) ⊕ (((List (Int × (Int × Int))) × Int)))
  | (l3_1, v5_1) => (chk (b_0_0 + 1)).bind fun z44 => cond (decide (v5_1 ≤ z44)) (((loopN n (F.ref36_All_b2 n b_0_0 b_0_1 v4_0 v5_1) (l3_1, 0)).bind fun o49 => match o49 with
    | (l3_2, v6_2) => (chk (v5_1 + 1)).bind fun z107 => some (.inl (l3_2, z107)))) (some (.inr (l3_1, v5_1)))

def ref36_All_b0 (n : Nat) (b_0_0 : Int) (b_0_1 : List Int) : (List (Int × (Int × Int))) × Int → Option (((List (Int × (Int × Int))) × Int) ⊕ (((List (Int × (Int × Int))) × Int)))
  | (l3_0, v4_0) => cond (decide (v4_0 ≤ 7)) ((chk (-b_0_0)).bind fun z31 => (chk (z31 - 1)).bind fun z33 => ((loopN n (F.ref36_All_b1 n b_0_0 b_0_1 v4_0) (l3_0, z33)).bind fun o35 => match o35 with
    | (l3_1, v5_1) => (chk (v4_0 + 1)).bind fun z111 => some (.inl (l3_1, z111)))) (some (.inr (l3_0, v4_0)))

def ref36_All (n : Nat) (b_0_0 : Int) (b_0_1 : List Int) : Option ((List (Int × (Int × Int)))) :=
  (F.ref33_Valid n b_0_0 b_0_1).bind fun y9 => cond (!y9) (some ([])) (((loopN n (F.ref36_All_b0 n b_0_0 b_0_1) (([] : List (Int × (Int × Int))), 1)).bind fun o19 => match o19 with
    | (l3_0, v4_0) => some l3_0))

def law36_MarkovAll_b0 (n : Nat) (y18 : (List (Int × (Int × Int)))) (y27 : (List (Int × (Int × Int)))) : Int → Option ((Int) ⊕ ((Int) ⊕ (Bool)))
  | v7_0 => cond (decide (v7_0 < (y18.length : Int))) ((get y18 v7_0).bind fun x57 => (get y27 v7_0).bind fun x72 => cond (!(decide (x57.1 = x72.1) && (decide (x57.2.1 = x72.2.1) && (decide (x57.2.2 = x72.2.2) && true)))) (some (.inr (.inr false))) ((chk (v7_0 + 1)).bind fun z89 => some (.inl z89))) (some (.inr (.inl v7_0)))

def law36_MarkovAll (n : Nat) (strands_0 : Int) (word_1 : List Int) : Option (Bool) :=
  (F.law36_awake n).bind fun y5 => cond (!y5) (some false) (cond (decide (10 < (word_1.length : Int))) (some true) (cond (decide (5 < strands_0)) (some true) ((F.markov_All n strands_0 word_1).bind fun y18 => (F.ref36_All n strands_0 word_1).bind fun y27 => cond (!(decide ((y18.length : Int) = (y27.length : Int)))) (some false) (((loopN n (F.law36_MarkovAll_b0 n y18 y27) 0).bind fun o43 => match o43 with
    | (.inl v7_0) => some true
    | (.inr q) => some q)))))

def braid_Exponent_b0 (n : Nat) (b_0_1 : List Int) : Int × Int → Option ((Int × Int) ⊕ ((Int × Int)))
  | (v3_0, v12_0) => cond (decide (v12_0 < (b_0_1.length : Int))) ((get b_0_1 v12_0).bind fun x29 => cond (decide (0 < x29)) ((chk (v3_0 + 1)).bind fun z37 => (chk (v12_0 + 1)).bind fun z39 => some (.inl (z37, z39))) ((chk (v3_0 - 1)).bind fun z41 => (chk (v12_0 + 1)).bind fun z43 => some (.inl (z41, z43)))) (some (.inr (v3_0, v12_0)))

def braid_Exponent (n : Nat) (b_0_0 : Int) (b_0_1 : List Int) : Option (Int) :=
  (F.braid_Valid n b_0_0 b_0_1).bind fun y8 => cond (!y8) (some 0) (((loopN n (F.braid_Exponent_b0 n b_0_1) (0, 0)).bind fun o17 => match o17 with
    | (v3_0, v12_0) => some v3_0))


def braid_generator (n : Nat) (letter_0 : Int) : Option (Int) :=
  (chk (-letter_0)).bind fun z3 => some (max letter_0 z3)

def braid_Perm_b2 (n : Nat) (b_0_0 : Int) (qf22_1 : List Int) : Int × (List Int) → Option ((Int × (List Int)) ⊕ ((Int × (List Int))))
  | (v58_2, qf121_2) => cond (decide (v58_2 < (((List.replicate b_0_0.toNat (0 : Int))).length : Int))) ((get qf22_1 v58_2).bind fun x136 => (get qf121_2 x136).bind fun x142 => (chk (v58_2 + 1)).bind fun z149 => some (.inl (z149, (qf121_2.set x136.toNat v58_2)))) (some (.inr (v58_2, qf121_2)))

def braid_Perm_b1 (n : Nat) (b_0_1 : List Int) : Int × (List Int) → Option ((Int × (List Int)) ⊕ ((Int × (List Int))))
  | (v30_1, qf22_1) => cond (decide (v30_1 < (b_0_1.length : Int))) ((get b_0_1 v30_1).bind fun x63 => (F.braid_generator n x63).bind fun y70 => (chk (y70 - 1)).bind fun z76 => (get qf22_1 y70).bind fun x78 => (chk (y70 - 1)).bind fun z85 => (get qf22_1 z85).bind fun x87 => (get qf22_1 z76).bind fun x94 => (get (qf22_1.set z76.toNat x78) y70).bind fun x102 => (chk (v30_1 + 1)).bind fun z109 => some (.inl (z109, ((qf22_1.set z76.toNat x78).set y70.toNat x87)))) (some (.inr (v30_1, qf22_1)))

def braid_Perm_b0 (n : Nat) (b_0_0 : Int) : Int × (List Int) → Option ((Int × (List Int)) ⊕ ((Int × (List Int))))
  | (v19_0, qf22_0) => cond (decide (v19_0 < (((List.replicate b_0_0.toNat (0 : Int))).length : Int))) ((get qf22_0 v19_0).bind fun x38 => (chk (v19_0 + 1)).bind fun z45 => some (.inl (z45, (qf22_0.set v19_0.toNat v19_0)))) (some (.inr (v19_0, qf22_0)))

def braid_Perm (n : Nat) (b_0_0 : Int) (b_0_1 : List Int) : Option ((List Int)) :=
  (F.braid_Valid n b_0_0 b_0_1).bind fun y8 => cond (!y8) (some ([])) ((pos b_0_0).bind fun u15 => ((loopN n (F.braid_Perm_b0 n b_0_0) (0, (List.replicate b_0_0.toNat (0 : Int)))).bind fun o26 => match o26 with
    | (v19_0, qf22_0) => ((loopN n (F.braid_Perm_b1 n b_0_1) (0, qf22_0)).bind fun o51 => match o51 with
    | (v30_1, qf22_1) => (pos b_0_0).bind fun u114 => ((loopN n (F.braid_Perm_b2 n b_0_0 qf22_1) (0, (List.replicate b_0_0.toNat (0 : Int)))).bind fun o124 => match o124 with
    | (v58_2, qf121_2) => some qf121_2))))

def law36_MarkovExponent_b1 (n : Nat) (y86 : (List Int)) (y95 : (List Int)) : Int → Option ((Int) ⊕ ((Int) ⊕ (Bool)))
  | v14_1 => cond (decide (v14_1 < (y86.length : Int))) ((get y86 v14_1).bind fun x125 => (get y95 v14_1).bind fun x132 => cond (!(decide (x125 = x132))) (some (.inr (.inr false))) ((chk (v14_1 + 1)).bind fun z141 => some (.inl z141))) (some (.inr (.inl v14_1)))

def law36_MarkovExponent_j0 (n : Nat) (strands_0 : Int) (word_1 : List Int) (s_2_0 : Int) (y24 : Int × (List Int) × Int × Int × Int × Int) (v11_0 : Int) : Option (Bool) :=
  (F.braid_Exponent n y24.1 y24.2.1).bind fun y66 => (F.braid_Exponent n strands_0 word_1).bind fun y70 => (chk (y70 + v11_0)).bind fun z74 => cond (!(decide (y66 = z74))) (some false) (cond (decide (s_2_0 < 4)) (some true) ((F.braid_Perm n strands_0 word_1).bind fun y86 => (F.braid_Perm n y24.1 y24.2.1).bind fun y95 => cond (!(decide ((y86.length : Int) = (y95.length : Int)))) (some false) (((loopN n (F.law36_MarkovExponent_b1 n y86 y95) 0).bind fun o111 => match o111 with
    | (.inl v14_1) => some true
    | (.inr q) => some q))))

def law36_MarkovExponent (n : Nat) (strands_0 : Int) (word_1 : List Int) (s_2_0 : Int) (s_2_1 : Int) (s_2_2 : Int) : Option (Bool) :=
  (F.law36_awake n).bind fun y8 => cond (!y8) (some false) (cond (decide (210 < (word_1.length : Int))) (some true) ((F.markov_Apply n strands_0 word_1 s_2_0 s_2_1 s_2_2).bind fun y24 => cond (!(decide (y24.2.2.2.2.2 = 0))) (some true) (cond (decide (s_2_0 = 2)) (F.law36_MarkovExponent_j0 n strands_0 word_1 s_2_0 y24 s_2_1) (cond (decide (s_2_0 = 3)) ((chk (-y24.2.2.2.1)).bind fun z58 => F.law36_MarkovExponent_j0 n strands_0 word_1 s_2_0 y24 z58) (F.law36_MarkovExponent_j0 n strands_0 word_1 s_2_0 y24 0)))))


def braid_Inverse_b0 (n : Nat) (b_0_1 : List Int) : Nat × (List Int) → Option ((Nat × (List Int)) ⊕ ((List Int)))
  | (k_0, kf30_0_0) => cond (decide (k_0 < b_0_1.length)) (((b_0_1.reverse)[k_0]?).bind fun x_0 => (chk (-x_0)).bind fun z50 => (lim (kf30_0_0.length + ([z50] : List Int).length)).bind fun u58 => some (.inl (k_0 + 1, (kf30_0_0 ++ ([z50] : List Int))))) (some (.inr kf30_0_0))

def braid_Inverse (n : Nat) (b_0_0 : Int) (b_0_1 : List Int) : Option (Int × (List Int)) :=
  (F.braid_Valid n b_0_0 b_0_1).bind fun y11 => cond (!y11) (some (0, [])) ((pos (b_0_1.length : Int)).bind fun u20 => ((loopN n (F.braid_Inverse_b0 n b_0_1) (0, ([] : List Int))).bind fun o38 => match o38 with
    | kf30_0_0 => some (b_0_0, kf30_0_0)))


def braid_Mul (n : Nat) (a_0_0 : Int) (a_0_1 : List Int) (b_1_0 : Int) (b_1_1 : List Int) : Option (Int × (List Int) × Int) :=
  (F.braid_Valid n a_0_0 a_0_1).bind fun y15 => cond (!y15) (some (0, [], 1)) ((F.braid_Valid n b_1_0 b_1_1).bind fun y22 => cond (!y22) (some (0, [], 1)) (cond (!(decide (a_0_0 = b_1_0))) (some (0, [], 2)) ((chk ((a_0_1.length : Int) + (b_1_1.length : Int))).bind fun z38 => cond (decide (200 < z38)) (some (0, [], 5)) ((F.slices_Concat_Lint_int n ([a_0_1, b_1_1] : List (List Int))).bind fun y54 => some (a_0_0, y54, 0)))))

def word_Valid_b0 (n : Nat) (wx_0 : List Int) (rank_1 : Int) : Int → Option ((Int) ⊕ ((Int) ⊕ (Bool)))
  | v9_0 => cond (decide (v9_0 < (wx_0.length : Int))) ((get wx_0 v9_0).bind fun x17 => cond (decide (rank_1 < 1)) (some (.inr (.inr false))) (cond (decide (x17 = 0)) (some (.inr (.inr false))) (cond (decide (rank_1 < x17)) (some (.inr (.inr false))) ((chk (-rank_1)).bind fun z30 => cond (decide (x17 < z30)) (some (.inr (.inr false))) ((chk (v9_0 + 1)).bind fun z34 => some (.inl z34)))))) (some (.inr (.inl v9_0)))

def word_Valid (n : Nat) (wx_0 : List Int) (rank_1 : Int) : Option (Bool) :=
  ((loopN n (F.word_Valid_b0 n wx_0 rank_1) 0).bind fun o5 => match o5 with
    | (.inl v9_0) => some true
    | (.inr q) => some q)

def word_push_b0 (n : Nat) (letters_1 : List Int) : (List Int) × Int → Option (((List Int) × Int) ⊕ (((List Int) × Int)))
  | (l0_0, v10_0) => cond (decide (v10_0 < (letters_1.length : Int))) ((get letters_1 v10_0).bind fun x18 => (chk ((l0_0.length : Int) - 1)).bind fun z25 => cond (decide (0 ≤ z25)) ((get l0_0 z25).bind fun x29 => (chk (-x18)).bind fun z35 => cond (decide (x29 = z35)) ((cut 0 z25 l0_0.length).bind fun u39 => (chk (v10_0 + 1)).bind fun z43 => some (.inl ((l0_0.take z25.toNat), z43))) ((lim (l0_0.length + ([x18] : List Int).length)).bind fun u51 => (chk (v10_0 + 1)).bind fun z58 => some (.inl ((l0_0 ++ ([x18] : List Int)), z58)))) ((lim (l0_0.length + ([x18] : List Int).length)).bind fun u67 => (chk (v10_0 + 1)).bind fun z74 => some (.inl ((l0_0 ++ ([x18] : List Int)), z74)))) (some (.inr (l0_0, v10_0)))

def word_push (n : Nat) (stack_0 : List Int) (letters_1 : List Int) : Option ((List Int)) :=
  ((loopN n (F.word_push_b0 n letters_1) (stack_0, 0)).bind fun o6 => match o6 with
    | (l0_0, v10_0) => some l0_0)


def word_Reduce (n : Nat) (wx_0 : List Int) : Option ((List Int)) :=
  (pos (wx_0.length : Int)).bind fun u4 => (F.word_push n ([] : List Int) wx_0).bind fun y12 => some y12

def artin_Act_c1_b0 (n : Nat) (u_1_0 : Int) : Int × (List (List Int)) → Option ((Int × (List (List Int))) ⊕ ((Int × (List (List Int)))))
  | (v12_0, qf12_0) => cond (decide (v12_0 < (((List.replicate u_1_0.toNat ([] : List Int))).length : Int))) ((chk (v12_0 + 1)).bind fun z27 => (get qf12_0 v12_0).bind fun x35 => (chk (v12_0 + 1)).bind fun z42 => some (.inl (z42, (qf12_0.set v12_0.toNat ([z27] : List Int))))) (some (.inr (v12_0, qf12_0)))

def artin_Act_c1 (n : Nat) (letter_0 : Int) (u_1_0 : Int) (u_1_1 : List Int) : Option ((List (List Int))) :=
  (pos u_1_0).bind fun u5 => ((loopN n (F.artin_Act_c1_b0 n u_1_0) (0, (List.replicate u_1_0.toNat ([] : List Int)))).bind fun o15 => match o15 with
    | (v12_0, qf12_0) => cond (decide (0 < letter_0)) ((chk (letter_0 - 1)).bind fun z50 => (chk (letter_0 + 1)).bind fun z52 => (chk (-letter_0)).bind fun z54 => (get qf12_0 z50).bind fun x68 => (get (qf12_0.set z50.toNat ([letter_0, z52, z54] : List Int)) letter_0).bind fun x75 => some ((qf12_0.set z50.toNat ([letter_0, z52, z54] : List Int)).set letter_0.toNat ([letter_0] : List Int))) ((chk (-letter_0)).bind fun z84 => (chk (z84 - 1)).bind fun z86 => (chk (z84 + 1)).bind fun z88 => (chk (z84 + 1)).bind fun z96 => (chk (-z96)).bind fun z98 => (chk (z84 + 1)).bind fun z100 => (get qf12_0 z86).bind fun x108 => (get (qf12_0.set z86.toNat ([z88] : List Int)) z84).bind fun x115 => some ((qf12_0.set z86.toNat ([z88] : List Int)).set z84.toNat ([z98, z84, z100] : List Int))))


def word_Substitute_b2 (n : Nat) (x106 : List Int) : Nat × (List Int) → Option ((Nat × (List Int)) ⊕ ((List Int)))
  | (k_2, kf46_0_2) => cond (decide (k_2 < x106.length)) (((x106.reverse)[k_2]?).bind fun x_2 => (chk (-x_2)).bind fun z133 => (F.word_push n kf46_0_2 ([z133] : List Int)).bind fun y141 => some (.inl (k_2 + 1, y141))) (some (.inr kf46_0_2))

def word_Substitute_b1 (n : Nat) (wx_0 : List Int) (images_1 : List (List Int)) : Int × (List Int) → Option ((Int × (List Int)) ⊕ ((Int × (List Int))))
  | (v28_1, kf46_0_1) => cond (decide (v28_1 < (wx_0.length : Int))) ((get wx_0 v28_1).bind fun x62 => cond (decide (0 < x62)) ((chk (x62 - 1)).bind fun z74 => (get images_1 z74).bind fun x76 => (F.word_push n kf46_0_1 x76).bind fun y88 => (chk (v28_1 + 1)).bind fun z99 => some (.inl (z99, y88))) ((chk (-x62)).bind fun z102 => (chk (z102 - 1)).bind fun z104 => (get images_1 z104).bind fun x106 => ((loopN n (F.word_Substitute_b2 n x106) (0, kf46_0_1)).bind fun o121 => match o121 with
    | kf46_0_2 => (chk (v28_1 + 1)).bind fun z153 => some (.inl (z153, kf46_0_2))))) (some (.inr (v28_1, kf46_0_1)))

def word_Substitute_b0 (n : Nat) (wx_0 : List Int) (images_1 : List (List Int)) : Int → Option ((Int) ⊕ ((Int) ⊕ ((List Int) × Int)))
  | v15_0 => cond (decide (v15_0 < (wx_0.length : Int))) ((get wx_0 v15_0).bind fun x18 => (F.word_Valid n ([x18] : List Int) (images_1.length : Int)).bind fun y31 => cond (!y31) (some (.inr (.inr ([], 2)))) ((chk (v15_0 + 1)).bind fun z39 => some (.inl z39))) (some (.inr (.inl v15_0)))

def word_Substitute (n : Nat) (wx_0 : List Int) (images_1 : List (List Int)) : Option ((List Int) × Int) :=
  ((loopN n (F.word_Substitute_b0 n wx_0 images_1) 0).bind fun o6 => match o6 with
    | (.inl v15_0) => ((loopN n (F.word_Substitute_b1 n wx_0 images_1) (0, ([] : List Int))).bind fun o50 => match o50 with
    | (v28_1, kf46_0_1) => some (kf46_0_1, 0))
    | (.inr q) => some q)

def artin_Act_b0 (n : Nat) (b_0_0 : Int) (b_0_1 : List Int) : (List Int) × Int → Option (((List Int) × Int) ⊕ (((List Int) × Int) ⊕ ((List Int) × Int)))
  | (l7_0, v29_0) => cond (decide (v29_0 < (b_0_1.length : Int))) ((get b_0_1 v29_0).bind fun x55 => (F.artin_Act_c1 n x55 b_0_0 b_0_1).bind fun y62 => (F.word_Substitute n l7_0 y62).bind fun y71 => cond (!(decide (y71.2 = 0))) (some (.inr (.inr ([], y71.2)))) (cond (decide (20000 < (y71.1.length : Int))) (some (.inr (.inr ([], 5)))) ((chk (v29_0 + 1)).bind fun z92 => some (.inl (y71.1, z92))))) (some (.inr (.inl (l7_0, v29_0))))

def artin_Act (n : Nat) (b_0_0 : Int) (b_0_1 : List Int) (wx_1 : List Int) : Option ((List Int) × Int) :=
  (F.braid_Valid n b_0_0 b_0_1).bind fun y9 => cond (!y9) (some ([], 1)) ((F.word_Valid n wx_1 b_0_0).bind fun y17 => cond (!y17) (some ([], 2)) ((F.word_Reduce n wx_1).bind fun y26 => cond (decide (20000 < (y26.length : Int))) (some ([], 5)) (((loopN n (F.artin_Act_b0 n b_0_0 b_0_1) (y26, 0)).bind fun o43 => match o43 with
    | (.inl (l7_0, v29_0)) => some (l7_0, 0)
    | (.inr q) => some q))))

def artin_Images_b0 (n : Nat) (b_0_0 : Int) (b_0_1 : List Int) : (List (List Int)) × Int → Option (((List (List Int)) × Int) ⊕ (((List (List Int)) × Int) ⊕ ((List (List Int)) × Int)))
  | (l4_0, v13_0) => cond (decide (v13_0 < b_0_0)) ((chk (v13_0 + 1)).bind fun z32 => (F.artin_Act n b_0_0 b_0_1 ([z32] : List Int)).bind fun y40 => cond (!(decide (y40.2 = 0))) (some (.inr (.inr ([], y40.2)))) ((lim (l4_0.length + ([y40.1] : List (List Int)).length)).bind fun u62 => (chk (v13_0 + 1)).bind fun z69 => some (.inl ((l4_0 ++ ([y40.1] : List (List Int))), z69)))) (some (.inr (.inl (l4_0, v13_0))))

def artin_Images (n : Nat) (b_0_0 : Int) (b_0_1 : List Int) : Option ((List (List Int)) × Int) :=
  (F.braid_Valid n b_0_0 b_0_1).bind fun y8 => cond (!y8) (some ([], 1)) (((loopN n (F.artin_Images_b0 n b_0_0 b_0_1) (([] : List (List Int)), 0)).bind fun o19 => match o19 with
    | (.inl (l4_0, v13_0)) => some (l4_0, 0)
    | (.inr q) => some q))

def slices_Equal_Word_int_b0 (n : Nat) (s1_0 : List Int) (s2_1 : List Int) : Int → Option ((Int) ⊕ ((Int) ⊕ (Bool)))
  | v13_0 => cond (decide (v13_0 < (s1_0.length : Int))) ((get s1_0 v13_0).bind fun x25 => (get s2_1 v13_0).bind fun x32 => cond (!(decide (x25 = x32))) (some (.inr (.inr false))) ((chk (v13_0 + 1)).bind fun z41 => some (.inl z41))) (some (.inr (.inl v13_0)))

def slices_Equal_Word_int (n : Nat) (s1_0 : List Int) (s2_1 : List Int) : Option (Bool) :=
  cond (!(decide ((s1_0.length : Int) = (s2_1.length : Int)))) (some false) (((loopN n (F.slices_Equal_Word_int_b0 n s1_0 s2_1) 0).bind fun o10 => match o10 with
    | (.inl v13_0) => some true
    | (.inr q) => some q))

def artin_Trivial_b0 (n : Nat) (y7 : (List (List Int)) × Int) : Int → Option ((Int) ⊕ ((Int) ⊕ (Bool)))
  | v16_0 => cond (decide (v16_0 < (y7.1.length : Int))) ((get y7.1 v16_0).bind fun x36 => (chk (v16_0 + 1)).bind fun z48 => (F.slices_Equal_Word_int n x36 ([z48] : List Int)).bind fun y56 => cond (!y56) (some (.inr (.inr false))) ((chk (v16_0 + 1)).bind fun z61 => some (.inl z61))) (some (.inr (.inl v16_0)))

def artin_Trivial (n : Nat) (b_0_0 : Int) (b_0_1 : List Int) : Option (Bool) :=
  (F.artin_Images n b_0_0 b_0_1).bind fun y7 => cond (!(decide (y7.2 = 0))) (some false) (((loopN n (F.artin_Trivial_b0 n y7) 0).bind fun o24 => match o24 with
    | (.inl v16_0) => some true
    | (.inr q) => some q))


def law36_MarkovBraids (n : Nat) (strands_0 : Int) (word_1 : List Int) (s_2_0 : Int) (s_2_1 : Int) (s_2_2 : Int) : Option (Bool) :=
  (F.law36_awake n).bind fun y8 => cond (!y8) (some false) (cond (decide (8 < (word_1.length : Int))) (some true) (cond (decide (4 < strands_0)) (some true) (cond (decide (s_2_0 < 4)) (some true) ((F.markov_Apply n strands_0 word_1 s_2_0 s_2_1 s_2_2).bind fun y28 => cond (!(decide (y28.2.2.2.2.2 = 0))) (some true) ((F.braid_Inverse n y28.1 y28.2.1).bind fun y58 => (F.braid_Mul n strands_0 word_1 y58.1 y58.2).bind fun y68 => cond (decide (y68.2.2 = 0)) ((F.artin_Trivial n y68.1 y68.2.1).bind fun y86 => some y86) (some false))))))

end F
end Go.Proofs.Ytkjpldmelafooaa
