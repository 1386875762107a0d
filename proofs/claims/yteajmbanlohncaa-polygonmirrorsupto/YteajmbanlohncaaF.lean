/- The plain functions. -/
import Derived.Test.YteajmbanlohncaaRun
import Derived.Test.YteajmbanlohncaaShort
import Derived.Test.YteajmbanlohncaaCall
import Derived.Test.YteajmbanlohncaaNest
import Derived.Test.YteajmbanlohncaaSort
import Derived.Test.YteajmbanlohncaaSortK
import Derived.Test.YteajmbanlohncaaArr
import Derived.Test.YteajmbanlohncaaRow
import Derived.Test.YteajmbanlohncaaMap
import Derived.Test.YteajmbanlohncaaCut
set_option linter.unusedVariables false
set_option linter.unusedSimpArgs false
namespace Go.Proofs.Yteajmbanlohncaa
open Ev
namespace F
def polygon_within_b0 (n : Nat) (p_0_0 : Int) (p_0_1 : Int) (p_0_2 : Int) : Int → Option ((Int) ⊕ ((Int) ⊕ (Bool)))
  | v12_0 => cond (decide (v12_0 < 3)) ((get ([p_0_0, p_0_1, p_0_2] : List Int) v12_0).bind fun x20 => cond (decide (x20 < (-1000))) (some (.inr (.inr false))) (cond (decide (1000 < x20)) (some (.inr (.inr false))) ((chk (v12_0 + 1)).bind fun z28 => some (.inl z28)))) (some (.inr (.inl v12_0)))

def polygon_within (n : Nat) (p_0_0 : Int) (p_0_1 : Int) (p_0_2 : Int) : Option (Bool) :=
  ((loopN n (F.polygon_within_b0 n p_0_0 p_0_1 p_0_2) 0).bind fun o8 => match o8 with
    | (.inl v12_0) => some true
    | (.inr q) => some q)

def polygon_valid_b1 (n : Nat) (x18 : List (Int × (Int × Int))) : Int → Option ((Int) ⊕ ((Int) ⊕ (Bool)))
  | v27_1 => cond (decide (v27_1 < (x18.length : Int))) ((get x18 v27_1).bind fun x52 => (F.polygon_within n x52.1 x52.2.1 x52.2.2).bind fun y71 => cond (!y71) (some (.inr (.inr false))) ((chk (v27_1 + 1)).bind fun z76 => some (.inl z76))) (some (.inr (.inl v27_1)))

def polygon_valid_b0 (n : Nat) (l_0 : List (List (Int × (Int × Int)))) : Int × Int → Option ((Int × Int) ⊕ ((Int × Int) ⊕ (Bool)))
  | (v3_0, v10_0) => cond (decide (v10_0 < (l_0.length : Int))) ((get l_0 v10_0).bind fun x18 => (chk (v3_0 + (x18.length : Int))).bind fun z30 => cond (decide ((x18.length : Int) < 3)) (some (.inr (.inr false))) (cond (decide (100 < z30)) (some (.inr (.inr false))) (((loopN n (F.polygon_valid_b1 n x18) 0).bind fun o40 => match o40 with
    | (.inl v27_1) => (chk (v10_0 + 1)).bind fun z80 => some (.inl (z30, z80))
    | (.inr q) => some (.inr (.inr q)))))) (some (.inr (.inl (v3_0, v10_0))))

def polygon_valid (n : Nat) (l_0 : List (List (Int × (Int × Int)))) : Option (Bool) :=
  ((loopN n (F.polygon_valid_b0 n l_0) (0, 0)).bind fun o6 => match o6 with
    | (.inl (v3_0, v10_0)) => some true
    | (.inr q) => some q)

def polygon_edges_b1 (n : Nat) (l3_0 : List ((Int × (Int × Int)) × ((Int × (Int × Int)) × (Int × Int)))) (x19 : List (Int × (Int × Int))) : (List ((Int × (Int × Int)) × ((Int × (Int × Int)) × (Int × Int)))) × Int → Option (((List ((Int × (Int × Int)) × ((Int × (Int × Int)) × (Int × Int)))) × Int) ⊕ (((List ((Int × (Int × Int)) × ((Int × (Int × Int)) × (Int × Int)))) × Int)))
  | (l3_1, v20_1) => cond (decide (v20_1 < (x19.length : Int))) ((get x19 v20_1).bind fun x45 => (chk (v20_1 + 1)).bind fun z64 => (nz (x19.length : Int)).bind fun u66 => (get x19 (Int.tmod z64 (x19.length : Int))).bind fun x71 => (chk ((l3_0.length : Int) + v20_1)).bind fun z86 => (chk ((l3_0.length : Int) + (Int.tmod z64 (x19.length : Int)))).bind fun z88 => (lim (l3_1.length + ([((x45.1, (x45.2.1, x45.2.2)), ((x71.1, (x71.2.1, x71.2.2)), (z86, z88)))] : List ((Int × (Int × Int)) × ((Int × (Int × Int)) × (Int × Int)))).length)).bind fun u96 => (chk (v20_1 + 1)).bind fun z103 => some (.inl ((l3_1 ++ ([((x45.1, (x45.2.1, x45.2.2)), ((x71.1, (x71.2.1, x71.2.2)), (z86, z88)))] : List ((Int × (Int × Int)) × ((Int × (Int × Int)) × (Int × Int))))), z103))) (some (.inr (l3_1, v20_1)))

def polygon_edges_b0 (n : Nat) (l_0 : List (List (Int × (Int × Int)))) : (List ((Int × (Int × Int)) × ((Int × (Int × Int)) × (Int × Int)))) × Int → Option (((List ((Int × (Int × Int)) × ((Int × (Int × Int)) × (Int × Int)))) × Int) ⊕ (((List ((Int × (Int × Int)) × ((Int × (Int × Int)) × (Int × Int)))) × Int)))
  | (l3_0, v12_0) => cond (decide (v12_0 < (l_0.length : Int))) ((get l_0 v12_0).bind fun x19 => ((loopN n (F.polygon_edges_b1 n l3_0 x19) (l3_0, 0)).bind fun o33 => match o33 with
    | (l3_1, v20_1) => (chk (v12_0 + 1)).bind fun z107 => some (.inl (l3_1, z107)))) (some (.inr (l3_0, v12_0)))

def polygon_edges (n : Nat) (l_0 : List (List (Int × (Int × Int)))) : Option ((List ((Int × (Int × Int)) × ((Int × (Int × Int)) × (Int × Int))))) :=
  ((loopN n (F.polygon_edges_b0 n l_0) (([] : List ((Int × (Int × Int)) × ((Int × (Int × Int)) × (Int × Int)))), 0)).bind fun o7 => match o7 with
    | (l3_0, v12_0) => some l3_0)


def polygon_turn (n : Nat) (a_0_0 : Int) (a_0_1 : Int) (a_0_2 : Int) (b_1_0 : Int) (b_1_1 : Int) (b_1_2 : Int) (c_2_0 : Int) (c_2_1 : Int) (c_2_2 : Int) : Option (Int) :=
  (chk (b_1_0 - a_0_0)).bind fun z12 => (chk (c_2_1 - a_0_1)).bind fun z14 => (chk (z12 * z14)).bind fun z16 => (chk (b_1_1 - a_0_1)).bind fun z18 => (chk (c_2_0 - a_0_0)).bind fun z20 => (chk (z18 * z20)).bind fun z22 => (chk (z16 - z22)).bind fun z24 => some z24


def polygon_on (n : Nat) (a_0_0 : Int) (a_0_1 : Int) (a_0_2 : Int) (b_1_0 : Int) (b_1_1 : Int) (b_1_2 : Int) (p_2_0 : Int) (p_2_1 : Int) (p_2_2 : Int) : Option (Bool) :=
  (F.polygon_turn n a_0_0 a_0_1 a_0_2 b_1_0 b_1_1 b_1_2 p_2_0 p_2_1 p_2_2).bind fun y12 => cond (decide (y12 = 0)) (cond (decide ((min a_0_0 b_1_0) ≤ p_2_0)) (cond (decide (p_2_0 ≤ (max a_0_0 b_1_0))) (cond (decide ((min a_0_1 b_1_1) ≤ p_2_1)) (some (decide (p_2_1 ≤ (max a_0_1 b_1_1)))) (some false)) (some false)) (some false)) (some false)


def polygon_opposite (n : Nat) (x_0 : Int) (y_1 : Int) : Option (Bool) :=
  cond (decide (x_0 < 0)) (cond (decide (0 < y_1)) (some true) (cond (decide (0 < x_0)) (some (decide (y_1 < 0))) (some false))) (cond (decide (0 < x_0)) (some (decide (y_1 < 0))) (some false))

def polygon_Cross_j3 (n : Nat) (v16_2 : Int) (v18_2 : Int) (v17_3 : Int) (v19_3 : Int) : Option (Int × Bool) :=
  (chk (v18_2 * v17_3)).bind fun z152 => (chk (v19_3 * v16_2)).bind fun z154 => cond (decide (z152 = z154)) (some (2, false)) ((chk (v18_2 * v17_3)).bind fun z159 => (chk (v19_3 * v16_2)).bind fun z161 => some (1, (decide (z161 < z159))))

def polygon_Cross_j2 (n : Nat) (z114 : Int) (z129 : Int) (v16_2 : Int) (v18_2 : Int) : Option (Int × Bool) :=
  cond (decide (z114 < 0)) ((chk (-z114)).bind fun z144 => (chk (-z129)).bind fun z146 => F.polygon_Cross_j3 n v16_2 v18_2 z144 z146) (F.polygon_Cross_j3 n v16_2 v18_2 z114 z129)

def polygon_Cross_j1 (n : Nat) (a_0_0 : Int) (a_0_1 : Int) (a_0_2 : Int) (b_1_0 : Int) (b_1_1 : Int) (b_1_2 : Int) (c_2_0 : Int) (c_2_1 : Int) (c_2_2 : Int) (d_3_0 : Int) (d_3_1 : Int) (d_3_2 : Int) (y51 : Int) (y55 : Int) (y63 : Int) (y67 : Int) (v57_1 : Bool) : Option (Int × Bool) :=
  cond v57_1 ((F.polygon_on n a_0_0 a_0_1 a_0_2 b_1_0 b_1_1 b_1_2 c_2_0 c_2_1 c_2_2).bind fun y86 => cond y86 (some (2, false)) ((F.polygon_on n a_0_0 a_0_1 a_0_2 b_1_0 b_1_1 b_1_2 d_3_0 d_3_1 d_3_2).bind fun y92 => cond y92 (some (2, false)) ((F.polygon_on n c_2_0 c_2_1 c_2_2 d_3_0 d_3_1 d_3_2 a_0_0 a_0_1 a_0_2).bind fun y98 => cond y98 (some (2, false)) ((F.polygon_on n c_2_0 c_2_1 c_2_2 d_3_0 d_3_1 d_3_2 b_1_0 b_1_1 b_1_2).bind fun y104 => cond y104 (some (2, false)) (some (0, false)))))) ((chk (y63 - y67)).bind fun z112 => (chk (y51 - y55)).bind fun z114 => (chk (b_1_2 * y63)).bind fun z119 => (chk (a_0_2 * y67)).bind fun z121 => (chk (z119 - z121)).bind fun z123 => (chk (d_3_2 * y51)).bind fun z125 => (chk (c_2_2 * y55)).bind fun z127 => (chk (z125 - z127)).bind fun z129 => cond (decide (z112 < 0)) ((chk (-z112)).bind fun z135 => (chk (-z123)).bind fun z137 => F.polygon_Cross_j2 n z114 z129 z135 z137) (F.polygon_Cross_j2 n z114 z129 z112 z123))

def polygon_Cross_b0 (n : Nat) (a_0_0 : Int) (a_0_1 : Int) (a_0_2 : Int) (b_1_0 : Int) (b_1_1 : Int) (b_1_2 : Int) (c_2_0 : Int) (c_2_1 : Int) (c_2_2 : Int) (d_3_0 : Int) (d_3_1 : Int) (d_3_2 : Int) : Int → Option ((Int) ⊕ ((Int) ⊕ (Int × Bool)))
  | v25_0 => cond (decide (v25_0 < 4)) ((get ([(a_0_0, (a_0_1, a_0_2)), (b_1_0, (b_1_1, b_1_2)), (c_2_0, (c_2_1, c_2_2)), (d_3_0, (d_3_1, d_3_2))] : List (Int × (Int × Int))) v25_0).bind fun x29 => (F.polygon_within n x29.1 x29.2.1 x29.2.2).bind fun y39 => cond (!y39) (some (.inr (.inr (2, false)))) ((chk (v25_0 + 1)).bind fun z44 => some (.inl z44))) (some (.inr (.inl v25_0)))

def polygon_Cross (n : Nat) (a_0_0 : Int) (a_0_1 : Int) (a_0_2 : Int) (b_1_0 : Int) (b_1_1 : Int) (b_1_2 : Int) (c_2_0 : Int) (c_2_1 : Int) (c_2_2 : Int) (d_3_0 : Int) (d_3_1 : Int) (d_3_2 : Int) : Option (Int × Bool) :=
  ((loopN n (F.polygon_Cross_b0 n a_0_0 a_0_1 a_0_2 b_1_0 b_1_1 b_1_2 c_2_0 c_2_1 c_2_2 d_3_0 d_3_1 d_3_2) 0).bind fun o17 => match o17 with
    | (.inl v25_0) => (F.polygon_turn n a_0_0 a_0_1 a_0_2 b_1_0 b_1_1 b_1_2 c_2_0 c_2_1 c_2_2).bind fun y51 => (F.polygon_turn n a_0_0 a_0_1 a_0_2 b_1_0 b_1_1 b_1_2 d_3_0 d_3_1 d_3_2).bind fun y55 => (F.polygon_turn n c_2_0 c_2_1 c_2_2 d_3_0 d_3_1 d_3_2 a_0_0 a_0_1 a_0_2).bind fun y63 => (F.polygon_turn n c_2_0 c_2_1 c_2_2 d_3_0 d_3_1 d_3_2 b_1_0 b_1_1 b_1_2).bind fun y67 => (F.polygon_opposite n y51 y55).bind fun y74 => cond (!y74) (F.polygon_Cross_j1 n a_0_0 a_0_1 a_0_2 b_1_0 b_1_1 b_1_2 c_2_0 c_2_1 c_2_2 d_3_0 d_3_1 d_3_2 y51 y55 y63 y67 true) ((F.polygon_opposite n y63 y67).bind fun y78 => F.polygon_Cross_j1 n a_0_0 a_0_1 a_0_2 b_1_0 b_1_1 b_1_2 c_2_0 c_2_1 c_2_2 d_3_0 d_3_1 d_3_2 y51 y55 y63 y67 (!y78))
    | (.inr q) => some q)


def polygon_cross_c1 (n : Nat) (p_0_0 : Int) (p_0_1 : Bool) (u_1_0 : List ((Int × (Int × Int)) × ((Int × (Int × Int)) × (Int × Int)))) (u_2_0 : Int) (u_2_1 : Int) (u_2_2 : Int) (u_2_3 : Int) (u_2_4 : Int) (u_2_5 : Int) (u_2_6 : Int) (u_2_7 : Int) : Option (Int × Int) :=
  (get u_1_0 p_0_0).bind fun x9 => (F.polygon_turn n x9.1.1 x9.1.2.1 x9.1.2.2 x9.2.1.1 x9.2.1.2.1 x9.2.1.2.2 u_2_0 u_2_1 u_2_2).bind fun y50 => (F.polygon_turn n x9.1.1 x9.1.2.1 x9.1.2.2 x9.2.1.1 x9.2.1.2.1 x9.2.1.2.2 u_2_3 u_2_4 u_2_5).bind fun y54 => (chk (-y50)).bind fun z60 => (chk (y50 - y54)).bind fun z62 => (chk (y54 - y50)).bind fun z64 => some ((max y50 z60), (max z62 z64))


def polygon_cross_c2 (n : Nat) (p_0_0 : Int) (p_0_1 : Bool) (q_1_0 : Int) (q_1_1 : Bool) (u_2_0_0_0 : List ((Int × (Int × Int)) × ((Int × (Int × Int)) × (Int × Int)))) (u_2_0_1_0 : Int) (u_2_0_1_1 : Int) (u_2_0_1_2 : Int) (u_2_0_1_3 : Int) (u_2_0_1_4 : Int) (u_2_0_1_5 : Int) (u_2_0_1_6 : Int) (u_2_0_1_7 : Int) : Option (Int) :=
  (F.polygon_cross_c1 n p_0_0 p_0_1 u_2_0_0_0 u_2_0_1_0 u_2_0_1_1 u_2_0_1_2 u_2_0_1_3 u_2_0_1_4 u_2_0_1_5 u_2_0_1_6 u_2_0_1_7).bind fun y13 => (F.polygon_cross_c1 n q_1_0 q_1_1 u_2_0_0_0 u_2_0_1_0 u_2_0_1_1 u_2_0_1_2 u_2_0_1_3 u_2_0_1_4 u_2_0_1_5 u_2_0_1_6 u_2_0_1_7).bind fun y20 => (chk (y13.1 * y20.2)).bind fun z26 => (chk (y20.1 * y13.2)).bind fun z28 => (chk (z26 - z28)).bind fun z30 => some z30

def slices_SortFunc_passage_passage_polygon_cross_c2 (n : Nat) (s_0 : List (Int × Bool)) (u_0_0_0_0 : List ((Int × (Int × Int)) × ((Int × (Int × Int)) × (Int × Int)))) (u_0_0_1_0 : Int) (u_0_0_1_1 : Int) (u_0_0_1_2 : Int) (u_0_0_1_3 : Int) (u_0_0_1_4 : Int) (u_0_0_1_5 : Int) (u_0_0_1_6 : Int) (u_0_0_1_7 : Int) : Option (List (Int × Bool)) := if (s_0.all fun x => s_0.all fun y => (polygon_cross_c2 n x.1 x.2 y.1 y.2 u_0_0_0_0 u_0_0_1_0 u_0_0_1_1 u_0_0_1_2 u_0_0_1_3 u_0_0_1_4 u_0_0_1_5 u_0_0_1_6 u_0_0_1_7).isSome) = true ∧ swoL (fun x y : (Int × Bool) => (polygon_cross_c2 n x.1 x.2 y.1 y.2 u_0_0_0_0 u_0_0_1_0 u_0_0_1_1 u_0_0_1_2 u_0_0_1_3 u_0_0_1_4 u_0_0_1_5 u_0_0_1_6 u_0_0_1_7).getD 0) s_0 = true ∧ s_0.length ≤ 1099511627776 then some (sortL (fun x y : (Int × Bool) => (polygon_cross_c2 n x.1 x.2 y.1 y.2 u_0_0_0_0 u_0_0_1_0 u_0_0_1_1 u_0_0_1_2 u_0_0_1_3 u_0_0_1_4 u_0_0_1_5 u_0_0_1_6 u_0_0_1_7).getD 0) s_0) else none

def polygon_cross_j3 (n : Nat) (v19_0 : Int) (x30 : (Int × (Int × Int)) × ((Int × (Int × Int)) × (Int × Int))) (v26_1 : Int) (qf14_1 : List (List (Int × Bool))) (x82 : (Int × (Int × Int)) × ((Int × (Int × Int)) × (Int × Int))) (v63_3 : Bool) : Option ((Int × (List (List (Int × Bool)))) ⊕ ((Int × (List (List (Int × Bool)))) ⊕ ((List (List (Int × Bool))) × Bool))) :=
  cond (decide (x82.2.2.1 = x30.2.2.2)) ((chk (v26_1 + 1)).bind fun z150 => some (.inl (z150, qf14_1))) (cond (decide (x82.2.2.2 = x30.2.2.1)) ((chk (v26_1 + 1)).bind fun z153 => some (.inl (z153, qf14_1))) ((F.polygon_Cross n x30.1.1 x30.1.2.1 x30.1.2.2 x30.2.1.1 x30.2.1.2.1 x30.2.1.2.2 x82.1.1 x82.1.2.1 x82.1.2.2 x82.2.1.1 x82.2.1.2.1 x82.2.1.2.2).bind fun y157 => cond (decide (y157.1 = 2)) (some (.inr (.inr ([], false)))) (cond (decide (y157.1 = 1)) ((get qf14_1 v19_0).bind fun x169 => (lim (x169.length + ([(v26_1, y157.2)] : List (Int × Bool)).length)).bind fun u189 => (get qf14_1 v19_0).bind fun x196 => (chk (v26_1 + 1)).bind fun z206 => some (.inl (z206, (qf14_1.set v19_0.toNat (x169 ++ ([(v26_1, y157.2)] : List (Int × Bool))))))) ((chk (v26_1 + 1)).bind fun z208 => some (.inl (z208, qf14_1))))))

def polygon_cross_j2 (n : Nat) (v19_0 : Int) (x30 : (Int × (Int × Int)) × ((Int × (Int × Int)) × (Int × Int))) (v26_1 : Int) (qf14_1 : List (List (Int × Bool))) (x82 : (Int × (Int × Int)) × ((Int × (Int × Int)) × (Int × Int))) (v49_2 : Bool) : Option ((Int × (List (List (Int × Bool)))) ⊕ ((Int × (List (List (Int × Bool)))) ⊕ ((List (List (Int × Bool))) × Bool))) :=
  cond (!(decide (x82.2.2.1 = x30.2.2.2))) ((F.polygon_on n x30.1.1 x30.1.2.1 x30.1.2.2 x30.2.1.1 x30.2.1.2.1 x30.2.1.2.2 x82.1.1 x82.1.2.1 x82.1.2.2).bind fun y138 => cond y138 (some (.inr (.inr ([], false)))) (F.polygon_cross_j3 n v19_0 x30 v26_1 qf14_1 x82 y138)) (F.polygon_cross_j3 n v19_0 x30 v26_1 qf14_1 x82 false)

def polygon_cross_b4 (n : Nat) (list_0 : List ((Int × (Int × Int)) × ((Int × (Int × Int)) × (Int × Int)))) (v19_0 : Int) (x30 : (Int × (Int × Int)) × ((Int × (Int × Int)) × (Int × Int))) (qf14_1 : List (List (Int × Bool))) (y233 : List (Int × Bool)) : Int → Option ((Int) ⊕ ((Int) ⊕ ((List (List (Int × Bool))) × Bool)))
  | v13_4 => (get (qf14_1.set v19_0.toNat y233) v19_0).bind fun x248 => cond (decide (v13_4 < (x248.length : Int))) ((get (qf14_1.set v19_0.toNat y233) v19_0).bind fun x267 => (chk (v13_4 - 1)).bind fun z276 => (get x248 z276).bind fun x278 => (get (qf14_1.set v19_0.toNat y233) v19_0).bind fun x289 => (get x248 v13_4).bind fun x298 => (F.polygon_cross_c2 n x278.1 x278.2 x298.1 x298.2 list_0 x30.1.1 x30.1.2.1 x30.1.2.2 x30.2.1.1 x30.2.1.2.1 x30.2.1.2.2 x30.2.2.1 x30.2.2.2).bind fun y309 => cond (decide (y309 = 0)) (some (.inr (.inr ([], false)))) ((chk (v13_4 + 1)).bind fun z318 => some (.inl z318))) (some (.inr (.inl v13_4)))

def polygon_cross_b1 (n : Nat) (list_0 : List ((Int × (Int × Int)) × ((Int × (Int × Int)) × (Int × Int)))) (v19_0 : Int) (x30 : (Int × (Int × Int)) × ((Int × (Int × Int)) × (Int × Int))) : Int × (List (List (Int × Bool))) → Option ((Int × (List (List (Int × Bool)))) ⊕ ((Int × (List (List (Int × Bool)))) ⊕ ((List (List (Int × Bool))) × Bool)))
  | (v26_1, qf14_1) => cond (decide (v26_1 < (list_0.length : Int))) ((get list_0 v26_1).bind fun x82 => cond (decide (v26_1 = v19_0)) ((chk (v26_1 + 1)).bind fun z123 => some (.inl (z123, qf14_1))) (cond (decide (x30.1.1 = x82.1.1)) (cond (decide (x30.1.2.1 = x82.1.2.1)) (some (.inr (.inr ([], false)))) (F.polygon_cross_j2 n v19_0 x30 v26_1 qf14_1 x82 (decide (x30.1.2.1 = x82.1.2.1)))) (F.polygon_cross_j2 n v19_0 x30 v26_1 qf14_1 x82 false))) (some (.inr (.inl (v26_1, qf14_1))))

def polygon_cross_b0 (n : Nat) (list_0 : List ((Int × (Int × Int)) × ((Int × (Int × Int)) × (Int × Int)))) : Int × (List (List (Int × Bool))) → Option ((Int × (List (List (Int × Bool)))) ⊕ ((Int × (List (List (Int × Bool)))) ⊕ ((List (List (Int × Bool))) × Bool)))
  | (v19_0, qf14_0) => cond (decide (v19_0 < (list_0.length : Int))) ((get list_0 v19_0).bind fun x30 => ((loopN n (F.polygon_cross_b1 n list_0 v19_0 x30) (0, qf14_0)).bind fun o70 => match o70 with
    | (.inl (v26_1, qf14_1)) => (get qf14_1 v19_0).bind fun x219 => (F.slices_SortFunc_passage_passage_polygon_cross_c2 n x219 list_0 x30.1.1 x30.1.2.1 x30.1.2.2 x30.2.1.1 x30.2.1.2.1 x30.2.1.2.2 x30.2.2.1 x30.2.2.2).bind fun y233 => ((loopN n (F.polygon_cross_b4 n list_0 v19_0 x30 qf14_1 y233) 1).bind fun o239 => match o239 with
    | (.inl v13_4) => (chk (v19_0 + 1)).bind fun z322 => some (.inl (z322, (qf14_1.set v19_0.toNat y233)))
    | (.inr q) => some (.inr (.inr q)))
    | (.inr q) => some (.inr (.inr q)))) (some (.inr (.inl (v19_0, qf14_0))))

def polygon_cross (n : Nat) (list_0 : List ((Int × (Int × Int)) × ((Int × (Int × Int)) × (Int × Int)))) : Option ((List (List (Int × Bool))) × Bool) :=
  (pos (list_0.length : Int)).bind fun u7 => ((loopN n (F.polygon_cross_b0 n list_0) (0, (List.replicate (list_0.length : Int).toNat ([] : List (Int × Bool))))).bind fun o18 => match o18 with
    | (.inl (v19_0, qf14_0)) => some (qf14_0, true)
    | (.inr q) => some q)


def polygon_sign (n : Nat) (over_0_0 : Int) (over_0_1 : Int) (over_0_2 : Int) (over_0_3 : Int) (over_0_4 : Int) (over_0_5 : Int) (over_0_6 : Int) (over_0_7 : Int) (under_1_0 : Int) (under_1_1 : Int) (under_1_2 : Int) (under_1_3 : Int) (under_1_4 : Int) (under_1_5 : Int) (under_1_6 : Int) (under_1_7 : Int) : Option (Int) :=
  (chk (over_0_3 - over_0_0)).bind fun z11 => (chk (over_0_4 - over_0_1)).bind fun z13 => (chk (under_1_4 - under_1_1)).bind fun z18 => (chk (z11 * z18)).bind fun z20 => (chk (under_1_3 - under_1_0)).bind fun z22 => (chk (z13 * z22)).bind fun z24 => (chk (z20 - z24)).bind fun z26 => cond (decide (0 < z26)) (some 1) (some (-1))

def polygon_code_j3 (n : Nat) (l12_2 : List (Int × Bool)) (v42_2 : Int) (x86 : Int × Bool) (v17_3 : Int) (v62_3 : Bool) (kf11_1_3 : List Int) (qf15_3 : List ((Int × Int) × Int)) : Option (((List (Int × Bool)) × Int × (List Int) × (List ((Int × Int) × Int))) ⊕ (((List (Int × Bool)) × Int × (List Int) × (List ((Int × Int) × Int))))) :=
  (lim (l12_2.length + ([(v17_3, x86.2)] : List (Int × Bool)).length)).bind fun u307 => (chk (v42_2 + 1)).bind fun z314 => some (.inl ((l12_2 ++ ([(v17_3, x86.2)] : List (Int × Bool))), z314, kf11_1_3, qf15_3))

def polygon_code_b2 (n : Nat) (list_1 : List ((Int × (Int × Int)) × ((Int × (Int × Int)) × (Int × Int)))) (v13_1 : Int) (x62 : List (Int × Bool)) : (List (Int × Bool)) × Int × (List Int) × (List ((Int × Int) × Int)) → Option (((List (Int × Bool)) × Int × (List Int) × (List ((Int × Int) × Int))) ⊕ (((List (Int × Bool)) × Int × (List Int) × (List ((Int × Int) × Int)))))
  | (l12_2, v42_2, kf11_1_2, qf15_2) => cond (decide (v42_2 < (x62.length : Int))) ((get x62 v42_2).bind fun x86 => (chk ((mget qf15_2 ((min v13_1 x86.1), (max v13_1 x86.1))).getD 0)).bind fun z107 => cond (!(mget qf15_2 ((min v13_1 x86.1), (max v13_1 x86.1))).isSome) ((nok (mget qf15_2 ((min v13_1 x86.1), (max v13_1 x86.1)))).bind fun u115 => (get list_1 v13_1).bind fun x121 => (get list_1 x86.1).bind fun x156 => cond (!x86.2) ((F.polygon_sign n x156.1.1 x156.1.2.1 x156.1.2.2 x156.2.1.1 x156.2.1.2.1 x156.2.1.2.2 x156.2.2.1 x156.2.2.2 x121.1.1 x121.1.2.1 x121.1.2.2 x121.2.1.1 x121.2.1.2.1 x121.2.1.2.2 x121.2.2.1 x121.2.2.2).bind fun y207 => (lim (kf11_1_2.length + ([y207] : List Int).length)).bind fun u217 => F.polygon_code_j3 n l12_2 v42_2 x86 (kf11_1_2.length : Int) (!(mget qf15_2 ((min v13_1 x86.1), (max v13_1 x86.1))).isSome) (kf11_1_2 ++ ([y207] : List Int)) (qf15_2 ++ [(((min v13_1 x86.1), (max v13_1 x86.1)), (kf11_1_2.length : Int))])) ((F.polygon_sign n x121.1.1 x121.1.2.1 x121.1.2.2 x121.2.1.1 x121.2.1.2.1 x121.2.1.2.2 x121.2.2.1 x121.2.2.2 x156.1.1 x156.1.2.1 x156.1.2.2 x156.2.1.1 x156.2.1.2.1 x156.2.1.2.2 x156.2.2.1 x156.2.2.2).bind fun y227 => (lim (kf11_1_2.length + ([y227] : List Int).length)).bind fun u237 => F.polygon_code_j3 n l12_2 v42_2 x86 (kf11_1_2.length : Int) (!(mget qf15_2 ((min v13_1 x86.1), (max v13_1 x86.1))).isSome) (kf11_1_2 ++ ([y227] : List Int)) (qf15_2 ++ [(((min v13_1 x86.1), (max v13_1 x86.1)), (kf11_1_2.length : Int))]))) (F.polygon_code_j3 n l12_2 v42_2 x86 z107 (!(mget qf15_2 ((min v13_1 x86.1), (max v13_1 x86.1))).isSome) kf11_1_2 qf15_2)) (some (.inr (l12_2, v42_2, kf11_1_2, qf15_2)))

def polygon_code_b1 (n : Nat) (list_1 : List ((Int × (Int × Int)) × ((Int × (Int × Int)) × (Int × Int)))) (passages_2 : List (List (Int × Bool))) (v9_0 : Int) (x33 : List (Int × (Int × Int))) : (List (Int × Bool)) × Int × (List Int) × (List ((Int × Int) × Int)) → Option (((List (Int × Bool)) × Int × (List Int) × (List ((Int × Int) × Int))) ⊕ (((List (Int × Bool)) × Int × (List Int) × (List ((Int × Int) × Int)))))
  | (l12_1, v13_1, kf11_1_1, qf15_1) => (chk (v9_0 + (x33.length : Int))).bind fun z57 => cond (decide (v13_1 < z57)) ((get passages_2 v13_1).bind fun x62 => ((loopN n (F.polygon_code_b2 n list_1 v13_1 x62) (l12_1, 0, kf11_1_1, qf15_1)).bind fun o74 => match o74 with
    | (l12_2, v42_2, kf11_1_2, qf15_2) => (chk (v13_1 + 1)).bind fun z318 => some (.inl (l12_2, z318, kf11_1_2, qf15_2)))) (some (.inr (l12_1, v13_1, kf11_1_1, qf15_1)))

def polygon_code_b0 (n : Nat) (l_0 : List (List (Int × (Int × Int)))) (list_1 : List ((Int × (Int × Int)) × ((Int × (Int × Int)) × (Int × Int)))) (passages_2 : List (List (Int × Bool))) : Int × Int × (List (List (Int × Bool))) × (List Int) × Int × (List ((Int × Int) × Int)) → Option ((Int × Int × (List (List (Int × Bool))) × (List Int) × Int × (List ((Int × Int) × Int))) ⊕ ((Int × Int × (List (List (Int × Bool))) × (List Int) × Int × (List ((Int × Int) × Int)))))
  | (v9_0, v24_0, kf11_0_0, kf11_1_0, bf11_2_0, qf15_0) => cond (decide (v24_0 < (l_0.length : Int))) ((get l_0 v24_0).bind fun x33 => ((loopN n (F.polygon_code_b1 n list_1 passages_2 v9_0 x33) (([] : List (Int × Bool)), v9_0, kf11_1_0, qf15_0)).bind fun o48 => match o48 with
    | (l12_1, v13_1, kf11_1_1, qf15_1) => (chk (v9_0 + (x33.length : Int))).bind fun z323 => cond (decide (0 < (l12_1.length : Int))) ((lim (kf11_0_0.length + ([l12_1] : List (List (Int × Bool))).length)).bind fun u333 => (chk (v24_0 + 1)).bind fun z341 => some (.inl (z323, z341, (kf11_0_0 ++ ([l12_1] : List (List (Int × Bool)))), kf11_1_1, bf11_2_0, qf15_1))) ((chk (bf11_2_0 + 1)).bind fun z343 => (chk (v24_0 + 1)).bind fun z346 => some (.inl (z323, z346, kf11_0_0, kf11_1_1, z343, qf15_1))))) (some (.inr (v9_0, v24_0, kf11_0_0, kf11_1_0, bf11_2_0, qf15_0)))

def polygon_code (n : Nat) (l_0 : List (List (Int × (Int × Int)))) (list_1 : List ((Int × (Int × Int)) × ((Int × (Int × Int)) × (Int × Int)))) (passages_2 : List (List (Int × Bool))) : Option ((List (List (Int × Bool))) × (List Int) × Int) :=
  ((loopN n (F.polygon_code_b0 n l_0 list_1 passages_2) (0, 0, ([] : List (List (Int × Bool))), ([] : List Int), 0, ([] : List ((Int × Int) × Int)))).bind fun o21 => match o21 with
    | (v9_0, v24_0, kf11_0_0, kf11_1_0, bf11_2_0, qf15_0) => some (kf11_0_0, kf11_1_0, bf11_2_0))

def gauss_Valid_b2 (n : Nat) (c_0_1 : List Int) (x81 : List (Int × Bool)) : Int × Int × (List Bool) × (List Bool) → Option ((Int × Int × (List Bool) × (List Bool)) ⊕ ((Int × Int × (List Bool) × (List Bool)) ⊕ (Bool)))
  | (v8_2, v59_2, qf55_2, qf64_2) => cond (decide (v59_2 < (x81.length : Int))) ((get x81 v59_2).bind fun x110 => cond (decide (x110.1 < 0)) (some (.inr (.inr false))) (cond (decide ((c_0_1.length : Int) ≤ x110.1)) (some (.inr (.inr false))) (cond x110.2 ((get qf55_2 x110.1).bind fun x137 => cond x137 (some (.inr (.inr false))) ((get qf55_2 x110.1).bind fun x147 => (chk (v8_2 + 1)).bind fun z154 => (chk (v59_2 + 1)).bind fun z156 => some (.inl (z154, z156, (qf55_2.set x110.1.toNat true), qf64_2)))) ((get qf64_2 x110.1).bind fun x160 => cond x160 (some (.inr (.inr false))) ((get qf64_2 x110.1).bind fun x169 => (chk (v8_2 + 1)).bind fun z176 => (chk (v59_2 + 1)).bind fun z178 => some (.inl (z176, z178, qf55_2, (qf64_2.set x110.1.toNat true)))))))) (some (.inr (.inl (v8_2, v59_2, qf55_2, qf64_2))))

def gauss_Valid_b1 (n : Nat) (c_0_0 : List (List (Int × Bool))) (c_0_1 : List Int) : Int × Int × (List Bool) × (List Bool) → Option ((Int × Int × (List Bool) × (List Bool)) ⊕ ((Int × Int × (List Bool) × (List Bool)) ⊕ (Bool)))
  | (v8_1, v50_1, qf55_1, qf64_1) => cond (decide (v50_1 < (c_0_0.length : Int))) ((get c_0_0 v50_1).bind fun x81 => cond (decide ((x81.length : Int) = 0)) (some (.inr (.inr false))) (((loopN n (F.gauss_Valid_b2 n c_0_1 x81) (v8_1, 0, qf55_1, qf64_1)).bind fun o98 => match o98 with
    | (.inl (v8_2, v59_2, qf55_2, qf64_2)) => (chk (v50_1 + 1)).bind fun z182 => some (.inl (v8_2, z182, qf55_2, qf64_2))
    | (.inr q) => some (.inr (.inr q))))) (some (.inr (.inl (v8_1, v50_1, qf55_1, qf64_1))))

def gauss_Valid_b0 (n : Nat) (c_0_1 : List Int) : Int → Option ((Int) ⊕ ((Int) ⊕ (Bool)))
  | v32_0 => cond (decide (v32_0 < (c_0_1.length : Int))) ((get c_0_1 v32_0).bind fun x31 => cond (!(decide (x31 = 1))) (cond (!(decide (x31 = (-1)))) (some (.inr (.inr false))) ((chk (v32_0 + 1)).bind fun z41 => some (.inl z41))) ((chk (v32_0 + 1)).bind fun z43 => some (.inl z43))) (some (.inr (.inl v32_0)))

def gauss_Valid (n : Nat) (c_0_0 : List (List (Int × Bool))) (c_0_1 : List Int) (c_0_2 : Int) : Option (Bool) :=
  cond (decide (64 < (c_0_1.length : Int))) (some false) (cond (decide (c_0_2 < 0)) (some false) (cond (decide (64 < c_0_2)) (some false) (((loopN n (F.gauss_Valid_b0 n c_0_1) 0).bind fun o19 => match o19 with
    | (.inl v32_0) => (pos (c_0_1.length : Int)).bind fun u48 => (pos (c_0_1.length : Int)).bind fun u57 => ((loopN n (F.gauss_Valid_b1 n c_0_0 c_0_1) (0, 0, (List.replicate (c_0_1.length : Int).toNat false), (List.replicate (c_0_1.length : Int).toNat false))).bind fun o69 => match o69 with
    | (.inl (v8_1, v50_1, qf55_1, qf64_1)) => (chk (2 * (c_0_1.length : Int))).bind fun z187 => some (decide (v8_1 = z187))
    | (.inr q) => some q)
    | (.inr q) => some q))))


def gauss_ends (n : Nat) (c_0_0 : List (List (Int × Bool))) (c_0_1 : List Int) (c_0_2 : Int) (vx_1_0 : Int) (vx_1_1 : Bool) : Option (Int × Int) :=
  (chk (4 * vx_1_0)).bind fun z11 => cond (!vx_1_1) ((chk (z11 + 2)).bind fun z18 => some (z11, z18)) ((get c_0_1 vx_1_0).bind fun x21 => cond (decide (x21 = 1)) ((chk (z11 + 3)).bind fun z29 => (chk (z11 + 1)).bind fun z31 => some (z29, z31)) ((chk (z11 + 1)).bind fun z34 => (chk (z11 + 3)).bind fun z36 => some (z34, z36)))

def gauss_mates_b1 (n : Nat) (c_0_0 : List (List (Int × Bool))) (c_0_1 : List Int) (c_0_2 : Int) (x33 : List (Int × Bool)) : Int × (List Int) → Option ((Int × (List Int)) ⊕ ((Int × (List Int))))
  | (v26_1, qf17_1) => cond (decide (v26_1 < (x33.length : Int))) ((get x33 v26_1).bind fun x57 => (F.gauss_ends n c_0_0 c_0_1 c_0_2 x57.1 x57.2).bind fun y72 => (chk (v26_1 + 1)).bind fun z81 => (nz (x33.length : Int)).bind fun u83 => (get x33 (Int.tmod z81 (x33.length : Int))).bind fun x85 => (F.gauss_ends n c_0_0 c_0_1 c_0_2 x85.1 x85.2).bind fun y96 => (get qf17_1 y72.2).bind fun x103 => (get (qf17_1.set y72.2.toNat y96.1) y96.1).bind fun x110 => (chk (v26_1 + 1)).bind fun z117 => some (.inl (z117, ((qf17_1.set y72.2.toNat y96.1).set y96.1.toNat y72.2)))) (some (.inr (v26_1, qf17_1)))

def gauss_mates_b0 (n : Nat) (c_0_0 : List (List (Int × Bool))) (c_0_1 : List Int) (c_0_2 : Int) : Int × (List Int) → Option ((Int × (List Int)) ⊕ ((Int × (List Int))))
  | (v20_0, qf17_0) => cond (decide (v20_0 < (c_0_0.length : Int))) ((get c_0_0 v20_0).bind fun x33 => ((loopN n (F.gauss_mates_b1 n c_0_0 c_0_1 c_0_2 x33) (0, qf17_0)).bind fun o45 => match o45 with
    | (v26_1, qf17_1) => (chk (v20_0 + 1)).bind fun z121 => some (.inl (z121, qf17_1)))) (some (.inr (v20_0, qf17_0)))

def gauss_mates (n : Nat) (c_0_0 : List (List (Int × Bool))) (c_0_1 : List Int) (c_0_2 : Int) : Option ((List Int)) :=
  (chk (4 * (c_0_1.length : Int))).bind fun z8 => (pos z8).bind fun u10 => ((loopN n (F.gauss_mates_b0 n c_0_0 c_0_1 c_0_2) (0, (List.replicate z8.toNat (0 : Int)))).bind fun o21 => match o21 with
    | (v20_0, qf17_0) => some qf17_0)


def diagram_Turn (n : Nat) (h_0 : Int) (by_1 : Int) : Option (Int) :=
  cond (decide (h_0 < 0)) (some (-1)) ((nz 4).bind fun u7 => (chk (h_0 - (Int.tmod h_0 4))).bind fun z9 => (nz 4).bind fun u11 => (nz 4).bind fun u13 => (chk ((Int.tmod h_0 4) + (Int.tmod by_1 4))).bind fun z15 => (chk (z15 + 4)).bind fun z17 => (nz 4).bind fun u19 => (chk (z9 + (Int.tmod z17 4))).bind fun z21 => some z21)

def gauss_genus_b1 (n : Nat) (mate_0 : List Int) : Int × (List Bool) → Option ((Int × (List Bool)) ⊕ ((Int × (List Bool))))
  | (v8_1, qf17_1) => (get qf17_1 v8_1).bind fun x58 => cond (!x58) ((get qf17_1 v8_1).bind fun x66 => (get mate_0 v8_1).bind fun x73 => (F.diagram_Turn n x73 (-1)).bind fun y79 => some (.inl (y79, (qf17_1.set v8_1.toNat true)))) (some (.inr (v8_1, qf17_1)))

def gauss_genus_b4 (n : Nat) (mate_0 : List Int) (x155 : Int) : (List Int) × Int × (List Bool) → Option (((List Int) × Int × (List Bool)) ⊕ (((List Int) × Int × (List Bool))))
  | (l11_4, v78_4, qf97_4) => cond (decide (v78_4 < 4)) ((chk (4 * x155)).bind fun z183 => (chk (z183 + v78_4)).bind fun z185 => (get mate_0 z185).bind fun x187 => (nz 4).bind fun u193 => (chk (Int.tdiv x187 4)).bind fun z195 => (get qf97_4 z195).bind fun x199 => cond (!x199) ((get qf97_4 z195).bind fun x207 => (lim (l11_4.length + ([z195] : List Int).length)).bind fun u220 => (chk (v78_4 + 1)).bind fun z227 => some (.inl ((l11_4 ++ ([z195] : List Int)), z227, (qf97_4.set z195.toNat true)))) ((chk (v78_4 + 1)).bind fun z229 => some (.inl (l11_4, z229, qf97_4)))) (some (.inr (l11_4, v78_4, qf97_4)))

def gauss_genus_b3 (n : Nat) (mate_0 : List Int) : (List Int) × (List Bool) → Option (((List Int) × (List Bool)) ⊕ (((List Int) × (List Bool))))
  | (l11_3, qf97_3) => cond (decide (0 < (l11_3.length : Int))) ((chk ((l11_3.length : Int) - 1)).bind fun z153 => (get l11_3 z153).bind fun x155 => (chk ((l11_3.length : Int) - 1)).bind fun z163 => (cut 0 z163 l11_3.length).bind fun u165 => ((loopN n (F.gauss_genus_b4 n mate_0 x155) ((l11_3.take z163.toNat), 0, qf97_3)).bind fun o170 => match o170 with
    | (l11_4, v78_4, qf97_4) => some (.inl (l11_4, qf97_4)))) (some (.inr (l11_3, qf97_3)))

def gauss_genus_b2 (n : Nat) (mate_0 : List Int) (z6 : Int) : Int × Int × (List Bool) → Option ((Int × Int × (List Bool)) ⊕ ((Int × Int × (List Bool))))
  | (v5_2, v50_2, qf97_2) => cond (decide (v50_2 < z6)) ((get qf97_2 v50_2).bind fun x114 => cond x114 ((chk (v50_2 + 1)).bind fun z121 => some (.inl (v5_2, z121, qf97_2))) ((chk (v5_2 + 1)).bind fun z124 => (get qf97_2 v50_2).bind fun x128 => ((loopN n (F.gauss_genus_b3 n mate_0) (([v50_2] : List Int), (qf97_2.set v50_2.toNat true))).bind fun o142 => match o142 with
    | (l11_3, qf97_3) => (chk (v50_2 + 1)).bind fun z235 => some (.inl (z124, z235, qf97_3))))) (some (.inr (v5_2, v50_2, qf97_2)))

def gauss_genus_b0 (n : Nat) (mate_0 : List Int) : Int × Int × (List Bool) → Option ((Int × Int × (List Bool)) ⊕ ((Int × Int × (List Bool))))
  | (v4_0, v23_0, qf17_0) => cond (decide (v23_0 < (mate_0.length : Int))) ((get qf17_0 v23_0).bind fun x35 => cond x35 ((chk (v23_0 + 1)).bind fun z42 => some (.inl (v4_0, z42, qf17_0))) ((chk (v4_0 + 1)).bind fun z45 => ((loopN n (F.gauss_genus_b1 n mate_0) (v23_0, qf17_0)).bind fun o49 => match o49 with
    | (v8_1, qf17_1) => (chk (v23_0 + 1)).bind fun z85 => some (.inl (z45, z85, qf17_1))))) (some (.inr (v4_0, v23_0, qf17_0)))

def gauss_genus (n : Nat) (mate_0 : List Int) : Option (Int) :=
  (nz 4).bind fun u4 => (chk (Int.tdiv (mate_0.length : Int) 4)).bind fun z6 => (pos (mate_0.length : Int)).bind fun u10 => ((loopN n (F.gauss_genus_b0 n mate_0) (0, 0, (List.replicate (mate_0.length : Int).toNat false))).bind fun o21 => match o21 with
    | (v4_0, v23_0, qf17_0) => (pos z6).bind fun u90 => ((loopN n (F.gauss_genus_b2 n mate_0 z6) (0, 0, (List.replicate z6.toNat false))).bind fun o100 => match o100 with
    | (v5_2, v50_2, qf97_2) => (chk (2 * v5_2)).bind fun z240 => (chk (z240 + z6)).bind fun z242 => (chk (z242 - v4_0)).bind fun z244 => (nz 2).bind fun u246 => (chk (Int.tdiv z244 2)).bind fun z248 => some z248))


def slices_Clone_Lint_int (n : Nat) (s_0 : List Int) : Option ((List Int)) :=
  (lim (([] : List Int).length + s_0.length)).bind fun u16 => some (([] : List Int) ++ s_0)


def gauss_Diagram (n : Nat) (c_0_0 : List (List (Int × Bool))) (c_0_1 : List Int) (c_0_2 : Int) : Option ((List Int) × (List Int) × Int × Int) :=
  (F.gauss_Valid n c_0_0 c_0_1 c_0_2).bind fun y12 => cond (!y12) (some ([], [], 0, 1)) ((F.gauss_mates n c_0_0 c_0_1 c_0_2).bind fun y21 => (F.gauss_genus n y21).bind fun y32 => cond (!(decide (y32 = 0))) (some ([], [], 0, 7)) ((F.slices_Clone_Lint_int n c_0_1).bind fun y45 => some (y45, y21, c_0_2, 0)))

def polygon_Project_b0 (n : Nat) (y27 : (List (List (Int × Bool))) × Bool) : Int × Int → Option ((Int × Int) ⊕ ((Int × Int)))
  | (v7_0, v26_0) => cond (decide (v26_0 < (y27.1.length : Int))) ((get y27.1 v26_0).bind fun x59 => (chk (v7_0 + (x59.length : Int))).bind fun z70 => (chk (v26_0 + 1)).bind fun z72 => some (.inl (z70, z72))) (some (.inr (v7_0, v26_0)))

def polygon_Project (n : Nat) (l_0 : List (List (Int × (Int × Int)))) : Option ((List Int) × (List Int) × Int × Int) :=
  (F.polygon_valid n l_0).bind fun y8 => cond (!y8) (some ([], [], 0, 1)) ((F.polygon_edges n l_0).bind fun y17 => (F.polygon_cross n y17).bind fun y27 => cond (!y27.2) (some ([], [], 0, 15)) (((loopN n (F.polygon_Project_b0 n y27) (0, 0)).bind fun o47 => match o47 with
    | (v7_0, v26_0) => cond (decide (128 < v7_0)) (some ([], [], 0, 5)) ((F.polygon_code n l_0 y17 y27.1).bind fun y84 => (F.gauss_Diagram n y84.1 y84.2.1 y84.2.2).bind fun y100 => some (y100.1, y100.2.1, y100.2.2.1, y100.2.2.2)))))


def polygon_Generic (n : Nat) (l_0 : List (List (Int × (Int × Int)))) : Option (Bool) :=
  (F.polygon_valid n l_0).bind fun y5 => cond (!y5) (some false) ((F.polygon_edges n l_0).bind fun y11 => (F.polygon_cross n y11).bind fun y20 => some y20.2)


def law46_awake (n : Nat) : Option (Bool) :=
  (F.polygon_Project n ([([(0, (0, 0)), (10, (10, 0)), (10, (0, 5)), (0, (10, 5))] : List (Int × (Int × Int)))] : List (List (Int × (Int × Int))))).bind fun y16 => cond (decide (y16.2.2.2 = 0)) (cond (decide ((y16.1.length : Int) = 1)) ((get y16.1 0).bind fun x41 => cond (decide (x41 = (-1))) (cond (decide (y16.2.2.1 = 0)) ((F.polygon_Generic n ([([(0, (0, 0)), (10, (10, 0)), (10, (0, 5)), (0, (10, 5))] : List (Int × (Int × Int)))] : List (List (Int × (Int × Int))))).bind fun y49 => some y49) (some false)) (some false)) (some false)) (some false)

def law46_few_b0 (n : Nat) (l_0 : List (List (Int × (Int × Int)))) : Int × Int → Option ((Int × Int) ⊕ ((Int × Int)))
  | (v3_0, v8_0) => cond (decide (v8_0 < (l_0.length : Int))) ((get l_0 v8_0).bind fun x18 => (chk (v3_0 + (x18.length : Int))).bind fun z29 => (chk (v8_0 + 1)).bind fun z31 => some (.inl (z29, z31))) (some (.inr (v3_0, v8_0)))

def law46_few (n : Nat) (l_0 : List (List (Int × (Int × Int)))) : Option (Bool) :=
  ((loopN n (F.law46_few_b0 n l_0) (0, 0)).bind fun o6 => match o6 with
    | (v3_0, v8_0) => cond (decide ((l_0.length : Int) ≤ 24)) (some (decide (v3_0 ≤ 24))) (some false))


def law46_generic (n : Nat) (l_0 : List (List (Int × (Int × Int)))) : Option ((List Int) × (List Int) × Int × Bool) :=
  (F.law46_few n l_0).bind fun y8 => cond (!y8) (some ([], [], 0, false)) ((F.polygon_Project n l_0).bind fun y17 => some (y17.1, y17.2.1, y17.2.2.1, (decide (y17.2.2.2 = 0))))


def law46_PolygonMirrors_c1 (n : Nat) (p_0_0 : Int) (p_0_1 : Int) (p_0_2 : Int) : Option (Int × Int × Int) :=
  (chk (-p_0_2)).bind fun z9 => some (p_0_0, p_0_1, z9)

def law46_moved_law46_PolygonMirrors_c1_b1 (n : Nat) (x19 : List (Int × (Int × Int))) : (List (Int × (Int × Int))) × Int → Option (((List (Int × (Int × Int))) × Int) ⊕ (((List (Int × (Int × Int))) × Int)))
  | (l8_1, v19_1) => cond (decide (v19_1 < (x19.length : Int))) ((get x19 v19_1).bind fun x46 => (F.law46_PolygonMirrors_c1 n x46.1 x46.2.1 x46.2.2).bind fun y64 => (lim (l8_1.length + ([(y64.1, (y64.2.1, y64.2.2))] : List (Int × (Int × Int))).length)).bind fun u76 => (chk (v19_1 + 1)).bind fun z83 => some (.inl ((l8_1 ++ ([(y64.1, (y64.2.1, y64.2.2))] : List (Int × (Int × Int)))), z83))) (some (.inr (l8_1, v19_1)))

def law46_moved_law46_PolygonMirrors_c1_b0 (n : Nat) (l_0 : List (List (Int × (Int × Int)))) : (List (List (Int × (Int × Int)))) × Int → Option (((List (List (Int × (Int × Int)))) × Int) ⊕ (((List (List (Int × (Int × Int)))) × Int)))
  | (l5_0, v13_0) => cond (decide (v13_0 < (l_0.length : Int))) ((get l_0 v13_0).bind fun x19 => ((loopN n (F.law46_moved_law46_PolygonMirrors_c1_b1 n x19) (([] : List (Int × (Int × Int))), 0)).bind fun o34 => match o34 with
    | (l8_1, v19_1) => (lim (l5_0.length + ([l8_1] : List (List (Int × (Int × Int)))).length)).bind fun u93 => (chk (v13_0 + 1)).bind fun z100 => some (.inl ((l5_0 ++ ([l8_1] : List (List (Int × (Int × Int))))), z100)))) (some (.inr (l5_0, v13_0)))

def law46_moved_law46_PolygonMirrors_c1 (n : Nat) (l_0 : List (List (Int × (Int × Int)))) : Option ((List (List (Int × (Int × Int))))) :=
  ((loopN n (F.law46_moved_law46_PolygonMirrors_c1_b0 n l_0) (([] : List (List (Int × (Int × Int)))), 0)).bind fun o7 => match o7 with
    | (l5_0, v13_0) => some l5_0)


def law46_PolygonMirrors_c2 (n : Nat) (p_0_0 : Int) (p_0_1 : Int) (p_0_2 : Int) : Option (Int × Int × Int) :=
  (chk (-p_0_0)).bind fun z9 => some (z9, p_0_1, p_0_2)

def law46_moved_law46_PolygonMirrors_c2_b1 (n : Nat) (x19 : List (Int × (Int × Int))) : (List (Int × (Int × Int))) × Int → Option (((List (Int × (Int × Int))) × Int) ⊕ (((List (Int × (Int × Int))) × Int)))
  | (l8_1, v19_1) => cond (decide (v19_1 < (x19.length : Int))) ((get x19 v19_1).bind fun x46 => (F.law46_PolygonMirrors_c2 n x46.1 x46.2.1 x46.2.2).bind fun y64 => (lim (l8_1.length + ([(y64.1, (y64.2.1, y64.2.2))] : List (Int × (Int × Int))).length)).bind fun u76 => (chk (v19_1 + 1)).bind fun z83 => some (.inl ((l8_1 ++ ([(y64.1, (y64.2.1, y64.2.2))] : List (Int × (Int × Int)))), z83))) (some (.inr (l8_1, v19_1)))

def law46_moved_law46_PolygonMirrors_c2_b0 (n : Nat) (l_0 : List (List (Int × (Int × Int)))) : (List (List (Int × (Int × Int)))) × Int → Option (((List (List (Int × (Int × Int)))) × Int) ⊕ (((List (List (Int × (Int × Int)))) × Int)))
  | (l5_0, v13_0) => cond (decide (v13_0 < (l_0.length : Int))) ((get l_0 v13_0).bind fun x19 => ((loopN n (F.law46_moved_law46_PolygonMirrors_c2_b1 n x19) (([] : List (Int × (Int × Int))), 0)).bind fun o34 => match o34 with
    | (l8_1, v19_1) => (lim (l5_0.length + ([l8_1] : List (List (Int × (Int × Int)))).length)).bind fun u93 => (chk (v13_0 + 1)).bind fun z100 => some (.inl ((l5_0 ++ ([l8_1] : List (List (Int × (Int × Int))))), z100)))) (some (.inr (l5_0, v13_0)))

def law46_moved_law46_PolygonMirrors_c2 (n : Nat) (l_0 : List (List (Int × (Int × Int)))) : Option ((List (List (Int × (Int × Int))))) :=
  ((loopN n (F.law46_moved_law46_PolygonMirrors_c2_b0 n l_0) (([] : List (List (Int × (Int × Int)))), 0)).bind fun o7 => match o7 with
    | (l5_0, v13_0) => some l5_0)


def diagram_outgoing (n : Nat) (d_0_0 : List Int) (d_0_1 : List Int) (d_0_2 : Int) (h_1 : Int) : Option (Bool) :=
  (nz 4).bind fun u9 => cond (decide ((Int.tmod h_1 4) = 1)) ((nz 4).bind fun u14 => (chk (Int.tdiv h_1 4)).bind fun z16 => (get d_0_0 z16).bind fun x18 => some (decide (x18 = 1))) (cond (decide ((Int.tmod h_1 4) = 2)) (some true) (cond (decide ((Int.tmod h_1 4) = 3)) ((nz 4).bind fun u31 => (chk (Int.tdiv h_1 4)).bind fun z33 => (get d_0_0 z33).bind fun x35 => some (decide (x35 = (-1)))) (some false)))

def diagram_label_b3 (n : Nat) (d_0_1 : List Int) (v6_1 : Int) (x96 : Int) : (List Int) × Int × (List Int) → Option (((List Int) × Int × (List Int)) ⊕ (((List Int) × Int × (List Int))))
  | (l8_3, v49_3, qf15_3) => cond (decide (v49_3 < 4)) ((chk (4 * x96)).bind fun z125 => (chk (z125 + v49_3)).bind fun z127 => (get d_0_1 z127).bind fun x129 => (nz 4).bind fun u135 => (chk (Int.tdiv x129 4)).bind fun z137 => (get qf15_3 z137).bind fun x141 => cond (decide (x141 < 0)) ((get qf15_3 z137).bind fun x149 => (lim (l8_3.length + ([z137] : List Int).length)).bind fun u162 => (chk (v49_3 + 1)).bind fun z169 => some (.inl ((l8_3 ++ ([z137] : List Int)), z169, (qf15_3.set z137.toNat v6_1)))) ((chk (v49_3 + 1)).bind fun z171 => some (.inl (l8_3, z171, qf15_3)))) (some (.inr (l8_3, v49_3, qf15_3)))

def diagram_label_b2 (n : Nat) (d_0_1 : List Int) (v6_1 : Int) : (List Int) × (List Int) → Option (((List Int) × (List Int)) ⊕ (((List Int) × (List Int))))
  | (l8_2, qf15_2) => cond (decide (0 < (l8_2.length : Int))) ((get l8_2 0).bind fun x96 => (cut 1 (l8_2.length : Int) l8_2.length).bind fun u103 => ((loopN n (F.diagram_label_b3 n d_0_1 v6_1 x96) ((l8_2.drop (1 : Int).toNat), 0, qf15_2)).bind fun o112 => match o112 with
    | (l8_3, v49_3, qf15_3) => some (.inl (l8_3, qf15_3)))) (some (.inr (l8_2, qf15_2)))

def diagram_label_b1 (n : Nat) (d_0_0 : List Int) (d_0_1 : List Int) : Int × Int × (List Int) → Option ((Int × Int × (List Int)) ⊕ ((Int × Int × (List Int))))
  | (v6_1, v27_1, qf15_1) => cond (decide (v27_1 < (((List.replicate (d_0_0.length : Int).toNat (0 : Int))).length : Int))) ((get qf15_1 v27_1).bind fun x59 => cond (decide (0 ≤ x59)) ((chk (v27_1 + 1)).bind fun z66 => some (.inl (v6_1, z66, qf15_1))) ((get qf15_1 v27_1).bind fun x69 => ((loopN n (F.diagram_label_b2 n d_0_1 v6_1) (([v27_1] : List Int), (qf15_1.set v27_1.toNat v6_1))).bind fun o85 => match o85 with
    | (l8_2, qf15_2) => (chk (v6_1 + 1)).bind fun z177 => (chk (v27_1 + 1)).bind fun z179 => some (.inl (z177, z179, qf15_2))))) (some (.inr (v6_1, v27_1, qf15_1)))

def diagram_label_b0 (n : Nat) (d_0_0 : List Int) : Int × (List Int) → Option ((Int × (List Int)) ⊕ ((Int × (List Int))))
  | (v18_0, qf15_0) => cond (decide (v18_0 < (((List.replicate (d_0_0.length : Int).toNat (0 : Int))).length : Int))) ((get qf15_0 v18_0).bind fun x31 => (chk (v18_0 + 1)).bind fun z38 => some (.inl (z38, (qf15_0.set v18_0.toNat (-1))))) (some (.inr (v18_0, qf15_0)))

def diagram_label (n : Nat) (d_0_0 : List Int) (d_0_1 : List Int) (d_0_2 : Int) : Option ((List Int) × Int) :=
  (pos (d_0_0.length : Int)).bind fun u8 => ((loopN n (F.diagram_label_b0 n d_0_0) (0, (List.replicate (d_0_0.length : Int).toNat (0 : Int)))).bind fun o19 => match o19 with
    | (v18_0, qf15_0) => ((loopN n (F.diagram_label_b1 n d_0_0 d_0_1) (0, 0, qf15_0)).bind fun o45 => match o45 with
    | (v6_1, v27_1, qf15_1) => some (qf15_1, v6_1)))

def diagram_spherical_b2 (n : Nat) (d_0_1 : List Int) : Int × (List Bool) → Option ((Int × (List Bool)) ⊕ ((Int × (List Bool))))
  | (v10_2, qf75_2) => (get qf75_2 v10_2).bind fun x138 => cond (!x138) ((get qf75_2 v10_2).bind fun x146 => (get d_0_1 v10_2).bind fun x153 => (F.diagram_Turn n x153 (-1)).bind fun y159 => some (.inl (y159, (qf75_2.set v10_2.toNat true)))) (some (.inr (v10_2, qf75_2)))

def diagram_spherical_b3 (n : Nat) (y8 : (List Int) × Int) (qf26_1 : List Int) : Int → Option ((Int) ⊕ ((Int) ⊕ (Bool)))
  | v75_3 => cond (decide (v75_3 < (((List.replicate y8.2.toNat (0 : Int))).length : Int))) ((get qf26_1 v75_3).bind fun x183 => cond (!(decide (x183 = 2))) (some (.inr (.inr false))) ((chk (v75_3 + 1)).bind fun z192 => some (.inl z192))) (some (.inr (.inl v75_3)))

def diagram_spherical_b1 (n : Nat) (d_0_1 : List Int) (y8 : (List Int) × Int) : Int × (List Int) × (List Bool) → Option ((Int × (List Int) × (List Bool)) ⊕ ((Int × (List Int) × (List Bool))))
  | (v40_1, qf26_1, qf75_1) => cond (decide (v40_1 < (d_0_1.length : Int))) ((get qf75_1 v40_1).bind fun x92 => cond x92 ((chk (v40_1 + 1)).bind fun z99 => some (.inl (z99, qf26_1, qf75_1))) ((nz 4).bind fun u102 => (chk (Int.tdiv v40_1 4)).bind fun z104 => (get y8.1 z104).bind fun x106 => (get qf26_1 x106).bind fun x112 => (chk (x112 + 1)).bind fun z118 => (get qf26_1 x106).bind fun x120 => ((loopN n (F.diagram_spherical_b2 n d_0_1) (v40_1, qf75_1)).bind fun o129 => match o129 with
    | (v10_2, qf75_2) => (chk (v40_1 + 1)).bind fun z165 => some (.inl (z165, (qf26_1.set x106.toNat z118), qf75_2))))) (some (.inr (v40_1, qf26_1, qf75_1)))

def diagram_spherical_b0 (n : Nat) (y8 : (List Int) × Int) : Int × (List Int) → Option ((Int × (List Int)) ⊕ ((Int × (List Int))))
  | (v22_0, qf26_0) => cond (decide (v22_0 < (y8.1.length : Int))) ((get y8.1 v22_0).bind fun x42 => (get qf26_0 x42).bind fun x48 => (chk (x48 - 1)).bind fun z54 => (get qf26_0 x42).bind fun x56 => (chk (v22_0 + 1)).bind fun z63 => some (.inl (z63, (qf26_0.set x42.toNat z54)))) (some (.inr (v22_0, qf26_0)))

def diagram_spherical (n : Nat) (d_0_0 : List Int) (d_0_1 : List Int) (d_0_2 : Int) : Option (Bool) :=
  (F.diagram_label n d_0_0 d_0_1 d_0_2).bind fun y8 => (pos y8.2).bind fun u19 => ((loopN n (F.diagram_spherical_b0 n y8) (0, (List.replicate y8.2.toNat (0 : Int)))).bind fun o30 => match o30 with
    | (v22_0, qf26_0) => (pos (d_0_1.length : Int)).bind fun u68 => ((loopN n (F.diagram_spherical_b1 n d_0_1 y8) (0, qf26_0, (List.replicate (d_0_1.length : Int).toNat false))).bind fun o78 => match o78 with
    | (v40_1, qf26_1, qf75_1) => ((loopN n (F.diagram_spherical_b3 n y8 qf26_1) 0).bind fun o171 => match o171 with
    | (.inl v75_3) => some true
    | (.inr q) => some q)))

def diagram_Valid_b1 (n : Nat) (d_0_0 : List Int) (d_0_1 : List Int) (d_0_2 : Int) : Int → Option ((Int) ⊕ ((Int) ⊕ (Bool)))
  | v48_1 => cond (decide (v48_1 < (d_0_1.length : Int))) ((get d_0_1 v48_1).bind fun x65 => cond (decide (x65 < 0)) (some (.inr (.inr false))) ((chk (4 * (d_0_0.length : Int))).bind fun z75 => cond (decide (z75 ≤ x65)) (some (.inr (.inr false))) (cond (decide (x65 = v48_1)) (some (.inr (.inr false))) ((get d_0_1 x65).bind fun x81 => cond (!(decide (x81 = v48_1))) (some (.inr (.inr false))) ((F.diagram_outgoing n d_0_0 d_0_1 d_0_2 v48_1).bind fun y93 => (F.diagram_outgoing n d_0_0 d_0_1 d_0_2 x65).bind fun y96 => cond (y93 == y96) (some (.inr (.inr false))) ((chk (v48_1 + 1)).bind fun z101 => some (.inl z101))))))) (some (.inr (.inl v48_1)))

def diagram_Valid_b0 (n : Nat) (d_0_0 : List Int) : Int → Option ((Int) ⊕ ((Int) ⊕ (Bool)))
  | v34_0 => cond (decide (v34_0 < (d_0_0.length : Int))) ((get d_0_0 v34_0).bind fun x35 => cond (!(decide (x35 = 1))) (cond (!(decide (x35 = (-1)))) (some (.inr (.inr false))) ((chk (v34_0 + 1)).bind fun z45 => some (.inl z45))) ((chk (v34_0 + 1)).bind fun z47 => some (.inl z47))) (some (.inr (.inl v34_0)))

def diagram_Valid (n : Nat) (d_0_0 : List Int) (d_0_1 : List Int) (d_0_2 : Int) : Option (Bool) :=
  cond (decide (64 < (d_0_0.length : Int))) (some false) ((chk (4 * (d_0_0.length : Int))).bind fun z12 => cond (!(decide ((d_0_1.length : Int) = z12))) (some false) (cond (decide (d_0_2 < 0)) (some false) (cond (decide (64 < d_0_2)) (some false) (((loopN n (F.diagram_Valid_b0 n d_0_0) 0).bind fun o23 => match o23 with
    | (.inl v34_0) => ((loopN n (F.diagram_Valid_b1 n d_0_0 d_0_1 d_0_2) 0).bind fun o53 => match o53 with
    | (.inl v48_1) => (F.diagram_spherical n d_0_0 d_0_1 d_0_2).bind fun y106 => some y106
    | (.inr q) => some q)
    | (.inr q) => some q)))))


def mirror_Mirror_c1 (n : Nat) (a_0 : Int) : Option (Bool) :=
  some true


def mirror_exchange_c2 (n : Nat) (c_0 : Int) : Option (Int) :=
  (F.mirror_Mirror_c1 n c_0).bind fun y5 => cond y5 (some (-1)) (some 1)


def mirror_exchange_c1 (n : Nat) (c_0 : Int) (x_1 : Int) (u_3_0 : List Int) (u_3_1 : List Int) (u_3_2 : Int) : Option (Int) :=
  (F.mirror_Mirror_c1 n c_0).bind fun y8 => cond (!y8) (some 0) ((get u_3_0 c_0).bind fun x14 => cond (decide (x14 = 1)) (some (-3)) (some (-1)))


def mirror_move_c1 (n : Nat) (h_0 : Int) (u_1_0_1_0 : List Int) (u_1_0_1_1 : List Int) (u_1_0_1_2 : Int) : Option (Int) :=
  (nz 4).bind fun u8 => (chk (Int.tdiv h_0 4)).bind fun z10 => (nz 4).bind fun u12 => (F.mirror_exchange_c1 n z10 (Int.tmod h_0 4) u_1_0_1_0 u_1_0_1_1 u_1_0_1_2).bind fun y14 => (F.diagram_Turn n h_0 y14).bind fun y18 => some y18

def mirror_move_mirror_exchange_c1_mirror_exchange_c2_b2 (n : Nat) (d_0_1 : List Int) (by_1_1_0 : List Int) (by_1_1_1 : List Int) (by_1_1_2 : Int) : Int × (List Int) → Option ((Int × (List Int)) ⊕ ((Int × (List Int))))
  | (v46_2, qFP8_1_0_2) => cond (decide (v46_2 < (d_0_1.length : Int))) ((get d_0_1 v46_2).bind fun x179 => (F.mirror_move_c1 n v46_2 by_1_1_0 by_1_1_1 by_1_1_2).bind fun y187 => (F.mirror_move_c1 n x179 by_1_1_0 by_1_1_1 by_1_1_2).bind fun y192 => (get qFP8_1_0_2 y187).bind fun x197 => (chk (v46_2 + 1)).bind fun z205 => some (.inl (z205, (qFP8_1_0_2.set y187.toNat y192)))) (some (.inr (v46_2, qFP8_1_0_2)))

def mirror_move_mirror_exchange_c1_mirror_exchange_c2_b1 (n : Nat) (d_0_0 : List Int) : Int × (List Int) → Option ((Int × (List Int)) ⊕ ((Int × (List Int))))
  | (v28_1, qFP8_0_0_1) => cond (decide (v28_1 < (d_0_0.length : Int))) ((get d_0_0 v28_1).bind fun x138 => (F.mirror_exchange_c2 n v28_1).bind fun y146 => (chk (x138 * y146)).bind fun z151 => (get qFP8_0_0_1 v28_1).bind fun x153 => (chk (v28_1 + 1)).bind fun z161 => some (.inl (z161, (qFP8_0_0_1.set v28_1.toNat z151)))) (some (.inr (v28_1, qFP8_0_0_1)))

def mirror_move_mirror_exchange_c1_mirror_exchange_c2_j0 (n : Nat) (d_0_0 : List Int) (d_0_1 : List Int) (d_0_2 : Int) (by_1_1_0 : List Int) (by_1_1_1 : List Int) (by_1_1_2 : Int) (kP8_0_0 : List Int) (kP8_1_0 : List Int) : Option ((List Int) × (List Int) × Int) :=
  ((loopN n (F.mirror_move_mirror_exchange_c1_mirror_exchange_c2_b1 n d_0_0) (0, kP8_0_0)).bind fun o126 => match o126 with
    | (v28_1, qFP8_0_0_1) => ((loopN n (F.mirror_move_mirror_exchange_c1_mirror_exchange_c2_b2 n d_0_1 by_1_1_0 by_1_1_1 by_1_1_2) (0, kP8_1_0)).bind fun o167 => match o167 with
    | (v46_2, qFP8_1_0_2) => some (qFP8_0_0_1, qFP8_1_0_2, d_0_2)))

def mirror_move_mirror_exchange_c1_mirror_exchange_c2 (n : Nat) (d_0_0 : List Int) (d_0_1 : List Int) (d_0_2 : Int) (by_1_1_0 : List Int) (by_1_1_1 : List Int) (by_1_1_2 : Int) : Option ((List Int) × (List Int) × Int) :=
  (pos (d_0_0.length : Int)).bind fun u21 => (pos (d_0_1.length : Int)).bind fun u29 => F.mirror_move_mirror_exchange_c1_mirror_exchange_c2_j0 n d_0_0 d_0_1 d_0_2 by_1_1_0 by_1_1_1 by_1_1_2 (List.replicate (d_0_0.length : Int).toNat (0 : Int)) (List.replicate (d_0_1.length : Int).toNat (0 : Int))


def mirror_exchange_mirror_Mirror_c1 (n : Nat) (d_0_0 : List Int) (d_0_1 : List Int) (d_0_2 : Int) : Option ((List Int) × (List Int) × Int) :=
  (F.mirror_move_mirror_exchange_c1_mirror_exchange_c2 n d_0_0 d_0_1 d_0_2 d_0_0 d_0_1 d_0_2).bind fun y15 => some (y15.1, y15.2.1, y15.2.2)


def mirror_Mirror (n : Nat) (d_0_0 : List Int) (d_0_1 : List Int) (d_0_2 : Int) : Option ((List Int) × (List Int) × Int × Int) :=
  (F.diagram_Valid n d_0_0 d_0_1 d_0_2).bind fun y12 => cond (!y12) (some ([], [], 0, 1)) ((F.mirror_exchange_mirror_Mirror_c1 n d_0_0 d_0_1 d_0_2).bind fun y21 => some (y21.1, y21.2.1, y21.2.2, 0))


def mirror_Reflect_c2 (n : Nat) (a_0 : Int) : Option (Int) :=
  some (-1)


def mirror_Reflect_c1 (n : Nat) (c_0 : Int) (x_1 : Int) : Option (Int) :=
  (chk (2 * x_1)).bind fun z3 => (chk (4 - z3)).bind fun z5 => some z5


def mirror_move_c1_v2 (n : Nat) (h_0 : Int) : Option (Int) :=
  (nz 4).bind fun u4 => (chk (Int.tdiv h_0 4)).bind fun z6 => (nz 4).bind fun u8 => (F.mirror_Reflect_c1 n z6 (Int.tmod h_0 4)).bind fun y10 => (F.diagram_Turn n h_0 y10).bind fun y14 => some y14

def mirror_move_mirror_Reflect_c1_mirror_Reflect_c2_b2 (n : Nat) (d_0_1 : List Int) : Int × (List Int) → Option ((Int × (List Int)) ⊕ ((Int × (List Int))))
  | (v46_2, qFP8_1_0_2) => cond (decide (v46_2 < (d_0_1.length : Int))) ((get d_0_1 v46_2).bind fun x174 => (F.mirror_move_c1_v2 n v46_2).bind fun y182 => (F.mirror_move_c1_v2 n x174).bind fun y187 => (get qFP8_1_0_2 y182).bind fun x192 => (chk (v46_2 + 1)).bind fun z200 => some (.inl (z200, (qFP8_1_0_2.set y182.toNat y187)))) (some (.inr (v46_2, qFP8_1_0_2)))

def mirror_move_mirror_Reflect_c1_mirror_Reflect_c2_b1 (n : Nat) (d_0_0 : List Int) : Int × (List Int) → Option ((Int × (List Int)) ⊕ ((Int × (List Int))))
  | (v28_1, qFP8_0_0_1) => cond (decide (v28_1 < (d_0_0.length : Int))) ((get d_0_0 v28_1).bind fun x134 => (F.mirror_Reflect_c2 n v28_1).bind fun y142 => (chk (x134 * y142)).bind fun z146 => (get qFP8_0_0_1 v28_1).bind fun x148 => (chk (v28_1 + 1)).bind fun z156 => some (.inl (z156, (qFP8_0_0_1.set v28_1.toNat z146)))) (some (.inr (v28_1, qFP8_0_0_1)))

def mirror_move_mirror_Reflect_c1_mirror_Reflect_c2_j0 (n : Nat) (d_0_0 : List Int) (d_0_1 : List Int) (d_0_2 : Int) (kP8_0_0 : List Int) (kP8_1_0 : List Int) : Option ((List Int) × (List Int) × Int) :=
  ((loopN n (F.mirror_move_mirror_Reflect_c1_mirror_Reflect_c2_b1 n d_0_0) (0, kP8_0_0)).bind fun o122 => match o122 with
    | (v28_1, qFP8_0_0_1) => ((loopN n (F.mirror_move_mirror_Reflect_c1_mirror_Reflect_c2_b2 n d_0_1) (0, kP8_1_0)).bind fun o162 => match o162 with
    | (v46_2, qFP8_1_0_2) => some (qFP8_0_0_1, qFP8_1_0_2, d_0_2)))

def mirror_move_mirror_Reflect_c1_mirror_Reflect_c2 (n : Nat) (d_0_0 : List Int) (d_0_1 : List Int) (d_0_2 : Int) : Option ((List Int) × (List Int) × Int) :=
  (pos (d_0_0.length : Int)).bind fun u17 => (pos (d_0_1.length : Int)).bind fun u25 => F.mirror_move_mirror_Reflect_c1_mirror_Reflect_c2_j0 n d_0_0 d_0_1 d_0_2 (List.replicate (d_0_0.length : Int).toNat (0 : Int)) (List.replicate (d_0_1.length : Int).toNat (0 : Int))


def mirror_Reflect (n : Nat) (d_0_0 : List Int) (d_0_1 : List Int) (d_0_2 : Int) : Option ((List Int) × (List Int) × Int × Int) :=
  (F.diagram_Valid n d_0_0 d_0_1 d_0_2).bind fun y12 => cond (!y12) (some ([], [], 0, 1)) ((F.mirror_move_mirror_Reflect_c1_mirror_Reflect_c2 n d_0_0 d_0_1 d_0_2).bind fun y22 => some (y22.1, y22.2.1, y22.2.2, 0))

def slices_Equal_Lint_int_b0 (n : Nat) (s1_0 : List Int) (s2_1 : List Int) : Int → Option ((Int) ⊕ ((Int) ⊕ (Bool)))
  | v13_0 => cond (decide (v13_0 < (s1_0.length : Int))) ((get s1_0 v13_0).bind fun x25 => (get s2_1 v13_0).bind fun x32 => cond (!(decide (x25 = x32))) (some (.inr (.inr false))) ((chk (v13_0 + 1)).bind fun z41 => some (.inl z41))) (some (.inr (.inl v13_0)))

def slices_Equal_Lint_int (n : Nat) (s1_0 : List Int) (s2_1 : List Int) : Option (Bool) :=
  cond (!(decide ((s1_0.length : Int) = (s2_1.length : Int)))) (some false) (((loopN n (F.slices_Equal_Lint_int_b0 n s1_0 s2_1) 0).bind fun o10 => match o10 with
    | (.inl v13_0) => some true
    | (.inr q) => some q))


def diagram_Equal (n : Nat) (a_0_0 : List Int) (a_0_1 : List Int) (a_0_2 : Int) (b_1_0 : List Int) (b_1_1 : List Int) (b_1_2 : Int) : Option (Bool) :=
  (F.slices_Equal_Lint_int n a_0_0 b_1_0).bind fun y13 => cond y13 ((F.slices_Equal_Lint_int n a_0_1 b_1_1).bind fun y17 => cond y17 (some (decide (a_0_2 = b_1_2))) (some false)) (some false)


def law46_PolygonMirrors (n : Nat) (l_0 : List (List (Int × (Int × Int)))) : Option (Bool) :=
  (F.law46_awake n).bind fun y5 => cond (!y5) (some false) ((F.law46_generic n l_0).bind fun y11 => cond (!y11.2.2.2) (some true) ((F.law46_moved_law46_PolygonMirrors_c1 n l_0).bind fun y37 => (F.polygon_Project n y37).bind fun y46 => (F.law46_moved_law46_PolygonMirrors_c2 n l_0).bind fun y69 => (F.polygon_Project n y69).bind fun y78 => (F.mirror_Mirror n y11.1 y11.2.1 y11.2.2.1).bind fun y100 => (F.mirror_Reflect n y11.1 y11.2.1 y11.2.2.1).bind fun y123 => cond (decide (y46.2.2.2 = 0)) (cond (decide (y78.2.2.2 = 0)) (cond (decide (y100.2.2.2 = 0)) (cond (decide (y123.2.2.2 = 0)) ((F.diagram_Equal n y46.1 y46.2.1 y46.2.2.1 y100.1 y100.2.1 y100.2.2.1).bind fun y149 => cond y149 ((F.diagram_Equal n y78.1 y78.2.1 y78.2.2.1 y123.1 y123.2.1 y123.2.2.1).bind fun y153 => some y153) (some false)) (some false)) (some false)) (some false)) (some false)))

end F
end Go.Proofs.Yteajmbanlohncaa
