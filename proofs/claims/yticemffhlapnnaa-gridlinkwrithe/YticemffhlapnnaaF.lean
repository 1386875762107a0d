/- The plain functions. -/
import Derived.Test.YticemffhlapnnaaRun
import Derived.Test.YticemffhlapnnaaShort
import Derived.Test.YticemffhlapnnaaIns
import Derived.Test.YticemffhlapnnaaNest
import Derived.Test.YticemffhlapnnaaArr
import Derived.Test.YticemffhlapnnaaRow
import Derived.Test.YticemffhlapnnaaCut
import Derived.Test.YticemffhlapnnaaElem
import Derived.Test.YticemffhlapnnaaNil
set_option linter.unusedVariables false
set_option linter.unusedSimpArgs false
namespace Go.Proofs.Yticemffhlapnnaa
open Ev
namespace F
def grid_permutation_b0 (n : Nat) (l_0 : List Int) : Int × (List Bool) → Option ((Int × (List Bool)) ⊕ ((Int × (List Bool)) ⊕ (Bool)))
  | (v11_0, qf11_0) => cond (decide (v11_0 < (l_0.length : Int))) ((get l_0 v11_0).bind fun x26 => cond (decide (x26 < 0)) (some (.inr (.inr false))) (cond (decide ((l_0.length : Int) ≤ x26)) (some (.inr (.inr false))) ((get qf11_0 x26).bind fun x38 => cond x38 (some (.inr (.inr false))) ((get qf11_0 x26).bind fun x47 => (chk (v11_0 + 1)).bind fun z54 => some (.inl (z54, (qf11_0.set x26.toNat true))))))) (some (.inr (.inl (v11_0, qf11_0))))

def grid_permutation (n : Nat) (l_0 : List Int) : Option (Bool) :=
  (pos (l_0.length : Int)).bind fun u4 => ((loopN n (F.grid_permutation_b0 n l_0) (0, (List.replicate (l_0.length : Int).toNat false))).bind fun o14 => match o14 with
    | (.inl (v11_0, qf11_0)) => some true
    | (.inr q) => some q)

def grid_Valid_b0 (n : Nat) (g_0_0 : List Int) (g_0_1 : List Int) : Int → Option ((Int) ⊕ ((Int) ⊕ (Bool)))
  | v22_0 => cond (decide (v22_0 < (g_0_0.length : Int))) ((get g_0_0 v22_0).bind fun x34 => (get g_0_1 v22_0).bind fun x41 => cond (decide (x34 = x41)) (some (.inr (.inr false))) ((chk (v22_0 + 1)).bind fun z50 => some (.inl z50))) (some (.inr (.inl v22_0)))

def grid_Valid (n : Nat) (g_0_0 : List Int) (g_0_1 : List Int) : Option (Bool) :=
  cond (decide ((g_0_0.length : Int) < 2)) (some false) (cond (decide (40 < (g_0_0.length : Int))) (some false) (cond (!(decide ((g_0_1.length : Int) = (g_0_0.length : Int)))) (some false) (((loopN n (F.grid_Valid_b0 n g_0_0 g_0_1) 0).bind fun o19 => match o19 with
    | (.inl v22_0) => (F.grid_permutation n g_0_0).bind fun y55 => cond y55 ((F.grid_permutation n g_0_1).bind fun y59 => some y59) (some false)
    | (.inr q) => some q))))

def grid_columns_b0 (n : Nat) (rows_0 : List Int) : Int × (List Int) → Option ((Int × (List Int)) ⊕ ((Int × (List Int))))
  | (v11_0, qf11_0) => cond (decide (v11_0 < (rows_0.length : Int))) ((get rows_0 v11_0).bind fun x30 => (get qf11_0 x30).bind fun x36 => (chk (v11_0 + 1)).bind fun z43 => some (.inl (z43, (qf11_0.set x30.toNat v11_0)))) (some (.inr (v11_0, qf11_0)))

def grid_columns (n : Nat) (rows_0 : List Int) : Option ((List Int)) :=
  (pos (rows_0.length : Int)).bind fun u4 => ((loopN n (F.grid_columns_b0 n rows_0) (0, (List.replicate (rows_0.length : Int).toNat (0 : Int)))).bind fun o18 => match o18 with
    | (v11_0, qf11_0) => some qf11_0)


def grid_columns_c1 (n : Nat) (row_0 : Int) (u_1_0 : List Int) : Option (Int) :=
  (get u_1_0 row_0).bind fun x5 => some x5

def grid_Crossings_b1 (n : Nat) (g_0_0 : List Int) (g_0_1 : List Int) (y18 : (List Int)) (y29 : (List Int)) (v22_0 : Int) : (List (Int × Int)) × Int → Option (((List (Int × Int)) × Int) ⊕ (((List (Int × Int)) × Int)))
  | (l5_1, v7_1) => (get g_0_0 v22_0).bind fun x88 => (get g_0_1 v22_0).bind fun x95 => cond (decide (v7_1 < (max x88 x95))) ((F.grid_columns_c1 n v7_1 y18).bind fun y106 => (F.grid_columns_c1 n v7_1 y29).bind fun y110 => cond (decide ((min y106 y110) < v22_0)) (cond (decide (v22_0 < (max y106 y110))) ((lim (l5_1.length + ([(v22_0, v7_1)] : List (Int × Int)).length)).bind fun u124 => (chk (v7_1 + 1)).bind fun z131 => some (.inl ((l5_1 ++ ([(v22_0, v7_1)] : List (Int × Int))), z131))) ((chk (v7_1 + 1)).bind fun z133 => some (.inl (l5_1, z133)))) ((chk (v7_1 + 1)).bind fun z136 => some (.inl (l5_1, z136)))) (some (.inr (l5_1, v7_1)))

def grid_Crossings_b0 (n : Nat) (g_0_0 : List Int) (g_0_1 : List Int) (y18 : (List Int)) (y29 : (List Int)) : (List (Int × Int)) × Int → Option (((List (Int × Int)) × Int) ⊕ (((List (Int × Int)) × Int)))
  | (l5_0, v22_0) => cond (decide (v22_0 < (g_0_0.length : Int))) ((get g_0_0 v22_0).bind fun x60 => (get g_0_1 v22_0).bind fun x67 => (chk ((min x60 x67) + 1)).bind fun z74 => ((loopN n (F.grid_Crossings_b1 n g_0_0 g_0_1 y18 y29 v22_0) (l5_0, z74)).bind fun o77 => match o77 with
    | (l5_1, v7_1) => (chk (v22_0 + 1)).bind fun z140 => some (.inl (l5_1, z140)))) (some (.inr (l5_0, v22_0)))

def grid_Crossings (n : Nat) (g_0_0 : List Int) (g_0_1 : List Int) : Option ((List (Int × Int))) :=
  (F.grid_Valid n g_0_0 g_0_1).bind fun y9 => cond (!y9) (some ([])) ((F.grid_columns n g_0_0).bind fun y18 => (F.grid_columns n g_0_1).bind fun y29 => ((loopN n (F.grid_Crossings_b0 n g_0_0 g_0_1 y18 y29) (([] : List (Int × Int)), 0)).bind fun o45 => match o45 with
    | (l5_0, v22_0) => some l5_0))

def gridlink_inverse_b0 (n : Nat) (rows_0 : List Int) : Int × (List Int) → Option ((Int × (List Int)) ⊕ ((Int × (List Int))))
  | (v11_0, qf11_0) => cond (decide (v11_0 < (rows_0.length : Int))) ((get rows_0 v11_0).bind fun x26 => (get qf11_0 x26).bind fun x32 => (chk (v11_0 + 1)).bind fun z39 => some (.inl (z39, (qf11_0.set x26.toNat v11_0)))) (some (.inr (v11_0, qf11_0)))

def gridlink_inverse (n : Nat) (rows_0 : List Int) : Option ((List Int)) :=
  (pos (rows_0.length : Int)).bind fun u4 => ((loopN n (F.gridlink_inverse_b0 n rows_0) (0, (List.replicate (rows_0.length : Int).toNat (0 : Int)))).bind fun o14 => match o14 with
    | (v11_0, qf11_0) => some qf11_0)

def slices_Reverse_passage_passage_b0 (n : Nat) : Int × Int × (List (Int × Int)) → Option ((Int × Int × (List (Int × Int))) ⊕ ((Int × Int × (List (Int × Int)))))
  | (v2_0, v3_0, qf1_0) => cond (decide (v2_0 < v3_0)) ((get qf1_0 v3_0).bind fun x18 => (get qf1_0 v2_0).bind fun x29 => (get qf1_0 v2_0).bind fun x40 => (get (qf1_0.set v2_0.toNat (x18.1, x18.2)) v3_0).bind fun x48 => (chk (v2_0 + 1)).bind fun z56 => (chk (v3_0 - 1)).bind fun z58 => some (.inl (z56, z58, ((qf1_0.set v2_0.toNat (x18.1, x18.2)).set v3_0.toNat (x29.1, x29.2))))) (some (.inr (v2_0, v3_0, qf1_0)))

def slices_Reverse_passage_passage (n : Nat) (s_0 : List (Int × Int)) : Option ((List (Int × Int))) :=
  (chk ((s_0.length : Int) - 1)).bind fun z3 => ((loopN n (F.slices_Reverse_passage_passage_b0 n) (0, z3, s_0)).bind fun o5 => match o5 with
    | (v2_0, v3_0, qf1_0) => some qf1_0)

def gridlink_segments_j1 (n : Nat) (l4_0 : List Int) (v34_0 : Int) (qf41_0 : List (List (Int × Int))) (qf49_0 : List (List (Int × Int))) (x65 : Int × Int) (v16_1 : Int) (v72_1 : Bool) (bf126_0_1 : Int) (bf126_1_1 : Int) : Option (((List Int) × Int × (List (List (Int × Int))) × (List (List (Int × Int)))) ⊕ (((List Int) × Int × (List (List (Int × Int))) × (List (List (Int × Int)))))) :=
  (lim (l4_0.length + ([v16_1] : List Int).length)).bind fun u150 => (get qf41_0 x65.1).bind fun x158 => (get qf41_0 x65.1).bind fun x170 => (lim (x158.length + ([(bf126_0_1, bf126_1_1)] : List (Int × Int)).length)).bind fun u185 => (get qf41_0 x65.1).bind fun x192 => (get qf49_0 x65.2).bind fun x204 => (chk (4 * v34_0)).bind fun z218 => (chk (4 * v34_0)).bind fun z220 => (chk (z220 + 2)).bind fun z222 => (lim (x204.length + ([(z218, z222)] : List (Int × Int)).length)).bind fun u230 => (get qf49_0 x65.2).bind fun x237 => (chk (v34_0 + 1)).bind fun z247 => some (.inl ((l4_0 ++ ([v16_1] : List Int)), z247, (qf41_0.set x65.1.toNat (x158 ++ ([(bf126_0_1, bf126_1_1)] : List (Int × Int)))), (qf49_0.set x65.2.toNat (x204 ++ ([(z218, z222)] : List (Int × Int))))))

def gridlink_segments_j3 (n : Nat) (y12 : (List Int)) (y21 : (List Int)) (v111_2 : Int) (qf49_2 : List (List (Int × Int))) (v124_3 : Bool) (qf41_3 : List (List (Int × Int))) : Option ((Int × (List (List (Int × Int))) × (List (List (Int × Int)))) ⊕ ((Int × (List (List (Int × Int))) × (List (List (Int × Int)))))) :=
  (get y21 v111_2).bind fun x308 => (get y12 v111_2).bind fun x315 => cond (decide (x315 < x308)) ((get qf49_2 v111_2).bind fun x323 => (F.slices_Reverse_passage_passage n x323).bind fun y337 => (chk (v111_2 + 1)).bind fun z340 => some (.inl (z340, qf41_3, (qf49_2.set v111_2.toNat y337)))) ((chk (v111_2 + 1)).bind fun z343 => some (.inl (z343, qf41_3, qf49_2)))

def gridlink_segments_b2 (n : Nat) (g_0_0 : List Int) (g_0_1 : List Int) (y12 : (List Int)) (y21 : (List Int)) : Int × (List (List (Int × Int))) × (List (List (Int × Int))) → Option ((Int × (List (List (Int × Int))) × (List (List (Int × Int)))) ⊕ ((Int × (List (List (Int × Int))) × (List (List (Int × Int))))))
  | (v111_2, qf41_2, qf49_2) => cond (decide (v111_2 < (g_0_0.length : Int))) ((get g_0_0 v111_2).bind fun x269 => (get g_0_1 v111_2).bind fun x276 => cond (decide (x276 < x269)) ((get qf41_2 v111_2).bind fun x285 => (F.slices_Reverse_passage_passage n x285).bind fun y299 => F.gridlink_segments_j3 n y12 y21 v111_2 qf49_2 (decide (x276 < x269)) (qf41_2.set v111_2.toNat y299)) (F.gridlink_segments_j3 n y12 y21 v111_2 qf49_2 (decide (x276 < x269)) qf41_2)) (some (.inr (v111_2, qf41_2, qf49_2)))

def gridlink_segments_b0 (n : Nat) (g_0_0 : List Int) (g_0_1 : List Int) (crossings_1 : List (Int × Int)) (y12 : (List Int)) (y21 : (List Int)) : (List Int) × Int × (List (List (Int × Int))) × (List (List (Int × Int))) → Option (((List Int) × Int × (List (List (Int × Int))) × (List (List (Int × Int)))) ⊕ (((List Int) × Int × (List (List (Int × Int))) × (List (List (Int × Int))))))
  | (l4_0, v34_0, qf41_0, qf49_0) => cond (decide (v34_0 < (crossings_1.length : Int))) ((get crossings_1 v34_0).bind fun x65 => (get g_0_0 x65.1).bind fun x86 => (get g_0_1 x65.1).bind fun x93 => (get y21 x65.2).bind fun x100 => (get y12 x65.2).bind fun x107 => (chk (4 * v34_0)).bind fun z116 => (chk (z116 + 1)).bind fun z118 => (chk (4 * v34_0)).bind fun z120 => (chk (z120 + 3)).bind fun z122 => cond (!((decide (x86 < x93)) == (decide (x100 < x107)))) ((chk (4 * v34_0)).bind fun z132 => (chk (z132 + 3)).bind fun z134 => (chk (4 * v34_0)).bind fun z136 => (chk (z136 + 1)).bind fun z138 => F.gridlink_segments_j1 n l4_0 v34_0 qf41_0 qf49_0 x65 1 (!((decide (x86 < x93)) == (decide (x100 < x107)))) z134 z138) (F.gridlink_segments_j1 n l4_0 v34_0 qf41_0 qf49_0 x65 (-1) (!((decide (x86 < x93)) == (decide (x100 < x107)))) z118 z122)) (some (.inr (l4_0, v34_0, qf41_0, qf49_0)))

def gridlink_segments (n : Nat) (g_0_0 : List Int) (g_0_1 : List Int) (crossings_1 : List (Int × Int)) : Option ((List Int) × (List (List (Int × Int))) × (List (List (Int × Int)))) :=
  (F.gridlink_inverse n g_0_0).bind fun y12 => (F.gridlink_inverse n g_0_1).bind fun y21 => (pos (g_0_0.length : Int)).bind fun u34 => (pos (g_0_0.length : Int)).bind fun u42 => ((loopN n (F.gridlink_segments_b0 n g_0_0 g_0_1 crossings_1 y12 y21) (([] : List Int), 0, (List.replicate (g_0_0.length : Int).toNat ([] : List (Int × Int))), (List.replicate (g_0_0.length : Int).toNat ([] : List (Int × Int))))).bind fun o53 => match o53 with
    | (l4_0, v34_0, qf41_0, qf49_0) => ((loopN n (F.gridlink_segments_b2 n g_0_0 g_0_1 y12 y21) (0, qf41_0, qf49_0)).bind fun o253 => match o253 with
    | (v111_2, qf41_2, qf49_2) => some (l4_0, qf41_2, qf49_2)))


def slices_Grow_passage_passage_nil (n : Nat) (nx_1 : Int) : Option ((List (Int × Int))) :=
  cond (decide (nx_1 < 0)) (none) ((chk (0 - 0)).bind fun z7 => (chk (nx_1 - z7)).bind fun z9 => cond (decide (0 < z9)) ((posz z9).bind fun u14 => (cut 0 0 (List.replicate z9.toNat ((0 : Int), (0 : Int))).length).bind fun u22 => some ((List.replicate z9.toNat ((0 : Int), (0 : Int))).take (0 : Int).toNat)) (some ([])))

def slices_Concat_passage_passage_b1 (n : Nat) (slices_0 : List (List (Int × Int))) : (List (Int × Int)) × Int → Option (((List (Int × Int)) × Int) ⊕ (((List (Int × Int)) × Int)))
  | (l6_1, v27_1) => cond (decide (v27_1 < (slices_0.length : Int))) ((get slices_0 v27_1).bind fun x63 => (lim (l6_1.length + x63.length)).bind fun u74 => (chk (v27_1 + 1)).bind fun z81 => some (.inl ((l6_1 ++ x63), z81))) (some (.inr (l6_1, v27_1)))

def slices_Concat_passage_passage_b0 (n : Nat) (slices_0 : List (List (Int × Int))) : Int × Int → Option ((Int × Int) ⊕ ((Int × Int)))
  | (v3_0, v11_0) => cond (decide (v11_0 < (slices_0.length : Int))) ((get slices_0 v11_0).bind fun x18 => (chk (v3_0 + (x18.length : Int))).bind fun z30 => cond (decide (z30 < 0)) (none) ((chk (v11_0 + 1)).bind fun z35 => some (.inl (z30, z35)))) (some (.inr (v3_0, v11_0)))

def slices_Concat_passage_passage (n : Nat) (slices_0 : List (List (Int × Int))) : Option ((List (Int × Int))) :=
  ((loopN n (F.slices_Concat_passage_passage_b0 n slices_0) (0, 0)).bind fun o6 => match o6 with
    | (v3_0, v11_0) => (F.slices_Grow_passage_passage_nil n v3_0).bind fun y40 => ((loopN n (F.slices_Concat_passage_passage_b1 n slices_0) (y40, 0)).bind fun o51 => match o51 with
    | (l6_1, v27_1) => some l6_1))

def gridlink_Diagram_c1_b0 (n : Nat) (u_3_1 : List Int) (u_4_0 : List (List (Int × Int))) (u_5_0 : List (List (Int × Int))) (u_6_0 : List Int) : (List (Int × Int)) × (List Bool) × Int → Option (((List (Int × Int)) × (List Bool) × Int) ⊕ (((List (Int × Int)) × (List Bool) × Int) ⊕ (Int × Int × Bool × (List Bool) × (List (Int × Int)) × Int)))
  | (kf1_0_0, qf4_0, bf5_0_0) => cond (decide ((kf1_0_0.length : Int) = 0)) ((get qf4_0 bf5_0_0).bind fun x32 => cond x32 (some (.inr (.inr (0, 0, false, qf4_0, kf1_0_0, bf5_0_0)))) ((get qf4_0 bf5_0_0).bind fun x42 => (get u_3_1 bf5_0_0).bind fun x51 => (get u_4_0 bf5_0_0).bind fun x60 => (get u_5_0 x51).bind fun x72 => (F.slices_Concat_passage_passage n ([x60, x72] : List (List (Int × Int)))).bind fun y90 => (get u_6_0 x51).bind fun x101 => some (.inl (y90, (qf4_0.set bf5_0_0.toNat true), x101)))) (some (.inr (.inl (kf1_0_0, qf4_0, bf5_0_0))))

def gridlink_Diagram_c1 (n : Nat) (u_0_0 : List (Int × Int)) (u_1_0 : List Bool) (u_2_0 : Int) (u_3_0 : List Int) (u_3_1 : List Int) (u_4_0 : List (List (Int × Int))) (u_5_0 : List (List (Int × Int))) (u_6_0 : List Int) : Option (Int × Int × Bool × (List Bool) × (List (Int × Int)) × Int) :=
  ((loopN n (F.gridlink_Diagram_c1_b0 n u_3_1 u_4_0 u_5_0 u_6_0) (u_0_0, u_1_0, u_2_0)).bind fun o20 => match o20 with
    | (.inl (kf1_0_0, qf4_0, bf5_0_0)) => (get kf1_0_0 0).bind fun x111 => (cut 1 (kf1_0_0.length : Int) kf1_0_0.length).bind fun u126 => some (x111.1, x111.2, true, qf4_0, ((kf1_0_0.drop (1 : Int).toNat).take ((kf1_0_0.length : Int).toNat - (1 : Int).toNat)), bf5_0_0)
    | (.inr q) => some q)


def gridlink_join_c1 (n : Nat) (k_0 : Int) (u_1_0 : List (Int × Int)) : Option (Int) :=
  (chk (k_0 + 1)).bind fun z5 => (nz (u_1_0.length : Int)).bind fun u7 => some (Int.tmod z5 (u_1_0.length : Int))

def gridlink_join_b1 (n : Nat) (list_1 : List (Int × Int)) : Int × (List Int) → Option ((Int × (List Int)) ⊕ ((Int × (List Int))))
  | (v21_1, qf3_1) => cond (decide (v21_1 < (list_1.length : Int))) ((get list_1 v21_1).bind fun x31 => (F.gridlink_join_c1 n v21_1 list_1).bind fun y48 => (get list_1 y48).bind fun x52 => (get qf3_1 x31.2).bind fun x66 => (get (qf3_1.set x31.2.toNat x52.1) x52.1).bind fun x74 => (chk (v21_1 + 1)).bind fun z81 => some (.inl (z81, ((qf3_1.set x31.2.toNat x52.1).set x52.1.toNat x31.2)))) (some (.inr (v21_1, qf3_1)))

def gridlink_join_j0 (n : Nat) (d_0_1 : List Int) (list_1 : List (Int × Int)) (bf1_2_0 : Int) : Option ((List Int) × Int) :=
  ((loopN n (F.gridlink_join_b1 n list_1) (0, d_0_1)).bind fun o19 => match o19 with
    | (v21_1, qf3_1) => some (qf3_1, bf1_2_0))

def gridlink_join (n : Nat) (d_0_0 : List Int) (d_0_1 : List Int) (d_0_2 : Int) (list_1 : List (Int × Int)) : Option ((List Int) × Int) :=
  cond (decide ((list_1.length : Int) = 0)) ((chk (d_0_2 + 1)).bind fun z12 => F.gridlink_join_j0 n d_0_1 list_1 z12) (F.gridlink_join_j0 n d_0_1 list_1 d_0_2)

def gridlink_Diagram_b1 (n : Nat) (g_0_0 : List Int) (g_0_1 : List Int) (y39 : (List Int) × (List (List (Int × Int))) × (List (List (Int × Int)))) (kf96_0_0 : List Int) : (List (Int × Int)) × Bool × (List Bool) × Int × (List (Int × Int)) × Int × Int → Option (((List (Int × Int)) × Bool × (List Bool) × Int × (List (Int × Int)) × Int × Int) ⊕ (((List (Int × Int)) × Bool × (List Bool) × Int × (List (Int × Int)) × Int × Int)))
  | (l15_1, v17_1, qf107_1, bf140_0_1, kf145_0_1, bP16_0_1, bP16_1_1) => cond v17_1 ((lim (l15_1.length + ([(bP16_0_1, bP16_1_1)] : List (Int × Int)).length)).bind fun u188 => (F.gridlink_Diagram_c1 n kf145_0_1 qf107_1 bf140_0_1 g_0_0 g_0_1 y39.2.1 y39.2.2 kf96_0_0).bind fun y201 => some (.inl ((l15_1 ++ ([(bP16_0_1, bP16_1_1)] : List (Int × Int))), y201.2.2.1, y201.2.2.2.1, y201.2.2.2.2.2, y201.2.2.2.2.1, y201.1, y201.2.1))) (some (.inr (l15_1, v17_1, qf107_1, bf140_0_1, kf145_0_1, bP16_0_1, bP16_1_1)))

def gridlink_Diagram_b0 (n : Nat) (g_0_0 : List Int) (g_0_1 : List Int) (y39 : (List Int) × (List (List (Int × Int))) × (List (List (Int × Int)))) : Int × (List Int) × Int × (List Int) × (List Bool) → Option ((Int × (List Int) × Int × (List Int) × (List Bool)) ⊕ ((Int × (List Int) × Int × (List Int) × (List Bool))))
  | (v51_0, qf79_0, bf82_2_0, kf96_0_0, qf107_0) => cond (decide (v51_0 < (g_0_0.length : Int))) ((get qf107_0 v51_0).bind fun x128 => cond x128 ((chk (v51_0 + 1)).bind fun z135 => some (.inl (z135, qf79_0, bf82_2_0, kf96_0_0, qf107_0))) ((F.gridlink_Diagram_c1 n ([]) qf107_0 v51_0 g_0_0 g_0_1 y39.2.1 y39.2.2 kf96_0_0).bind fun y151 => ((loopN n (F.gridlink_Diagram_b1 n g_0_0 g_0_1 y39 kf96_0_0) (([] : List (Int × Int)), y151.2.2.1, y151.2.2.2.1, y151.2.2.2.2.2, y151.2.2.2.2.1, y151.1, y151.2.1)).bind fun o171 => match o171 with
    | (l15_1, v17_1, qf107_1, bf140_0_1, kf145_0_1, bP16_0_1, bP16_1_1) => (F.gridlink_join n y39.1 qf79_0 bf82_2_0 l15_1).bind fun y217 => (chk (v51_0 + 1)).bind fun z221 => some (.inl (z221, y217.1, y217.2, kf96_0_0, qf107_1))))) (some (.inr (v51_0, qf79_0, bf82_2_0, kf96_0_0, qf107_0)))

def gridlink_Diagram (n : Nat) (g_0_0 : List Int) (g_0_1 : List Int) : Option ((List Int) × (List Int) × Int × Int) :=
  (F.grid_Valid n g_0_0 g_0_1).bind fun y12 => cond (!y12) (some ([], [], 0, 1)) ((F.grid_Crossings n g_0_0 g_0_1).bind fun y21 => cond (decide (64 < (y21.length : Int))) (some ([], [], 0, 5)) ((F.gridlink_segments n g_0_0 g_0_1 y21).bind fun y39 => (chk (4 * (y21.length : Int))).bind fun z70 => (pos z70).bind fun u72 => (F.gridlink_inverse n g_0_0).bind fun y85 => (pos (g_0_0.length : Int)).bind fun u100 => ((loopN n (F.gridlink_Diagram_b0 n g_0_0 g_0_1 y39) (0, (List.replicate z70.toNat (0 : Int)), 0, y85, (List.replicate (g_0_0.length : Int).toNat false))).bind fun o114 => match o114 with
    | (v51_0, qf79_0, bf82_2_0, kf96_0_0, qf107_0) => some (y39.1, qf79_0, bf82_2_0, 0))))

def braid_Valid_b0 (n : Nat) (b_0_0 : Int) (b_0_1 : List Int) : Int → Option ((Int) ⊕ ((Int) ⊕ (Bool)))
  | v22_0 => cond (decide (v22_0 < (b_0_1.length : Int))) ((get b_0_1 v22_0).bind fun x29 => cond (decide (x29 = 0)) (some (.inr (.inr false))) ((chk (-b_0_0)).bind fun z38 => cond (decide (x29 ≤ z38)) (some (.inr (.inr false))) (cond (decide (b_0_0 ≤ x29)) (some (.inr (.inr false))) ((chk (v22_0 + 1)).bind fun z44 => some (.inl z44))))) (some (.inr (.inl v22_0)))

def braid_Valid (n : Nat) (b_0_0 : Int) (b_0_1 : List Int) : Option (Bool) :=
  cond (decide (b_0_0 < 1)) (some false) (cond (decide (10 < b_0_0)) (some false) (cond (decide (200 < (b_0_1.length : Int))) (some false) (((loopN n (F.braid_Valid_b0 n b_0_0 b_0_1) 0).bind fun o17 => match o17 with
    | (.inl v22_0) => some true
    | (.inr q) => some q))))

def slices_Index_Lint_int_b0 (n : Nat) (s_0 : List Int) (vx_1 : Int) : Int → Option ((Int) ⊕ ((Int) ⊕ (Int)))
  | v8_0 => cond (decide (v8_0 < (s_0.length : Int))) ((get s_0 v8_0).bind fun x18 => cond (decide (vx_1 = x18)) (some (.inr (.inr v8_0))) ((chk (v8_0 + 1)).bind fun z26 => some (.inl z26))) (some (.inr (.inl v8_0)))

def slices_Index_Lint_int (n : Nat) (s_0 : List Int) (vx_1 : Int) : Option (Int) :=
  ((loopN n (F.slices_Index_Lint_int_b0 n s_0 vx_1) 0).bind fun o5 => match o5 with
    | (.inl v8_0) => some (-1)
    | (.inr q) => some q)

def slices_Insert_Lint_int (n : Nat) (s_0 : List Int) (i_1 : Int) (v_2 : List Int) : Option (List Int) := insF s_0 i_1 v_2

def gridlink_Braid_j2 (n : Nat) (b_0_0 : Int) (l7_1 : List (Int × Int)) (l8_1 : List Int) (v61_1 : Int) (qF9_0_1 : List Int) (v14_2 : Int) (v15_2 : Int) (v16_2 : Int) (v74_2 : Bool) : Option (((List (Int × Int)) × (List Int) × Int × (List Int)) ⊕ (((List (Int × Int)) × (List Int) × Int × (List Int)))) :=
  (get qF9_0_1 v14_2).bind fun x136 => (chk (b_0_0 + v61_1)).bind fun z142 => (get l7_1 x136).bind fun x144 => (get qF9_0_1 v15_2).bind fun x157 => (F.slices_Index_Lint_int n l8_1 x157).bind fun y163 => (chk (y163 + v16_2)).bind fun z167 => (F.slices_Insert_Lint_int n l8_1 z167 ([(l7_1.length : Int)] : List Int)).bind fun y175 => (get qF9_0_1 v15_2).bind fun x186 => (get qF9_0_1 v14_2).bind fun x192 => (get (qF9_0_1.set v14_2.toNat x186) v15_2).bind fun x199 => (chk (b_0_0 + v61_1)).bind fun z207 => (lim ((l7_1.set x136.toNat (x144.1, z142)).length + ([(z207, 0)] : List (Int × Int)).length)).bind fun u215 => (chk (v61_1 + 1)).bind fun z222 => some (.inl (((l7_1.set x136.toNat (x144.1, z142)) ++ ([(z207, 0)] : List (Int × Int))), y175, z222, ((qF9_0_1.set v14_2.toNat x186).set v15_2.toNat (l7_1.length : Int))))

def gridlink_Braid_b5 (n : Nat) (b_0_0 : Int) (z26 : Int) : Int × (List Int) × (List Int) → Option ((Int × (List Int) × (List Int)) ⊕ ((Int × (List Int) × (List Int))))
  | (v170_5, kf286_0_5, kf286_1_5) => cond (decide (v170_5 < b_0_0)) ((chk (b_0_0 - 1)).bind fun z383 => (chk (z383 - v170_5)).bind fun z385 => (chk (z26 - 1)).bind fun z388 => (chk (z388 - z385)).bind fun z390 => (lim (kf286_0_5.length + ([z390] : List Int).length)).bind fun u398 => (lim (kf286_1_5.length + ([z385] : List Int).length)).bind fun u413 => (chk (v170_5 + 1)).bind fun z421 => some (.inl (z421, (kf286_0_5 ++ ([z390] : List Int)), (kf286_1_5 ++ ([z385] : List Int))))) (some (.inr (v170_5, kf286_0_5, kf286_1_5)))

def gridlink_Braid_b4 (n : Nat) (l8_1 : List Int) (qF7_1_3 : List (Int × Int)) : Int × (List Int) × (List Int) → Option ((Int × (List Int) × (List Int)) ⊕ ((Int × (List Int) × (List Int))))
  | (v144_4, kf286_0_4, kf286_1_4) => cond (decide (v144_4 < (l8_1.length : Int))) ((get l8_1 v144_4).bind fun x302 => (get qF7_1_3 x302).bind fun x311 => (lim (kf286_0_4.length + ([x311.1] : List Int).length)).bind fun u328 => (get qF7_1_3 x302).bind fun x339 => (lim (kf286_1_4.length + ([x339.2] : List Int).length)).bind fun u356 => (chk (v144_4 + 1)).bind fun z364 => some (.inl (z364, (kf286_0_4 ++ ([x311.1] : List Int)), (kf286_1_4 ++ ([x339.2] : List Int))))) (some (.inr (v144_4, kf286_0_4, kf286_1_4)))

def gridlink_Braid_b3 (n : Nat) (z26 : Int) (l9_0 : List Int) (qF9_0_1 : List Int) : Int × (List (Int × Int)) → Option ((Int × (List (Int × Int))) ⊕ ((Int × (List (Int × Int)))))
  | (v123_3, qF7_1_3) => cond (decide (v123_3 < (l9_0.length : Int))) ((get qF9_0_1 v123_3).bind fun x240 => (chk (z26 - 1)).bind fun z246 => (chk (z246 - v123_3)).bind fun z248 => (get qF7_1_3 x240).bind fun x250 => (chk (v123_3 + 1)).bind fun z261 => some (.inl (z261, (qF7_1_3.set x240.toNat (x250.1, z248))))) (some (.inr (v123_3, qF7_1_3)))

def gridlink_Braid_b1 (n : Nat) (b_0_0 : Int) (b_0_1 : List Int) : (List (Int × Int)) × (List Int) × Int × (List Int) → Option (((List (Int × Int)) × (List Int) × Int × (List Int)) ⊕ (((List (Int × Int)) × (List Int) × Int × (List Int))))
  | (l7_1, l8_1, v61_1, qF9_0_1) => cond (decide (v61_1 < (b_0_1.length : Int))) ((get b_0_1 v61_1).bind fun x115 => (chk (-x115)).bind fun z122 => (chk ((max x115 z122) - 1)).bind fun z126 => cond (decide (x115 < 0)) ((chk ((max x115 z122) - 1)).bind fun z131 => F.gridlink_Braid_j2 n b_0_0 l7_1 l8_1 v61_1 qF9_0_1 z131 (max x115 z122) 1 (decide (x115 < 0))) (F.gridlink_Braid_j2 n b_0_0 l7_1 l8_1 v61_1 qF9_0_1 (max x115 z122) z126 0 (decide (x115 < 0)))) (some (.inr (l7_1, l8_1, v61_1, qF9_0_1)))

def gridlink_Braid_b0 (n : Nat) (b_0_0 : Int) : (List (Int × Int)) × (List Int) × (List Int) × Int → Option (((List (Int × Int)) × (List Int) × (List Int) × Int) ⊕ (((List (Int × Int)) × (List Int) × (List Int) × Int)))
  | (l7_0, l8_0, l9_0, v41_0) => cond (decide (v41_0 < b_0_0)) ((lim (l7_0.length + ([(v41_0, 0)] : List (Int × Int)).length)).bind fun u62 => (lim (l8_0.length + ([v41_0] : List Int).length)).bind fun u76 => (lim (l9_0.length + ([v41_0] : List Int).length)).bind fun u90 => (chk (v41_0 + 1)).bind fun z97 => some (.inl ((l7_0 ++ ([(v41_0, 0)] : List (Int × Int))), (l8_0 ++ ([v41_0] : List Int)), (l9_0 ++ ([v41_0] : List Int)), z97))) (some (.inr (l7_0, l8_0, l9_0, v41_0)))

def gridlink_Braid (n : Nat) (b_0_0 : Int) (b_0_1 : List Int) : Option ((List Int) × (List Int) × Int) :=
  (F.braid_Valid n b_0_0 b_0_1).bind fun y11 => cond (!y11) (some ([], [], 1)) ((chk (2 * b_0_0)).bind fun z24 => (chk (z24 + (b_0_1.length : Int))).bind fun z26 => cond (decide (40 < z26)) (some ([], [], 5)) (((loopN n (F.gridlink_Braid_b0 n b_0_0) (([] : List (Int × Int)), ([] : List Int), ([] : List Int), 0)).bind fun o43 => match o43 with
    | (l7_0, l8_0, l9_0, v41_0) => ((loopN n (F.gridlink_Braid_b1 n b_0_0 b_0_1) (l7_0, l8_0, 0, l9_0)).bind fun o103 => match o103 with
    | (l7_1, l8_1, v61_1, qF9_0_1) => ((loopN n (F.gridlink_Braid_b3 n z26 l9_0 qF9_0_1) (0, l7_1)).bind fun o228 => match o228 with
    | (v123_3, qF7_1_3) => (pos z26).bind fun u268 => (pos z26).bind fun u276 => ((loopN n (F.gridlink_Braid_b4 n l8_1 qF7_1_3) (0, ([] : List Int), ([] : List Int))).bind fun o290 => match o290 with
    | (v144_4, kf286_0_4, kf286_1_4) => ((loopN n (F.gridlink_Braid_b5 n b_0_0 z26) (0, kf286_0_4, kf286_1_4)).bind fun o370 => match o370 with
    | (v170_5, kf286_0_5, kf286_1_5) => some (kf286_0_5, kf286_1_5, 0))))))))

def ref01_Ints_b0 (n : Nat) (a_0 : List Int) (b_1 : List Int) : Int → Option ((Int) ⊕ ((Int) ⊕ (Bool)))
  | v5_0 => cond (decide (v5_0 < (a_0.length : Int))) ((get a_0 v5_0).bind fun x24 => (get b_1 v5_0).bind fun x31 => cond (!(decide (x24 = x31))) (some (.inr (.inr false))) ((chk (v5_0 + 1)).bind fun z40 => some (.inl z40))) (some (.inr (.inl v5_0)))

def ref01_Ints (n : Nat) (a_0 : List Int) (b_1 : List Int) : Option (Bool) :=
  cond (!(decide ((a_0.length : Int) = (b_1.length : Int)))) (some false) (((loopN n (F.ref01_Ints_b0 n a_0 b_1) 0).bind fun o10 => match o10 with
    | (.inl v5_0) => some true
    | (.inr q) => some q))


def law44_awake (n : Nat) : Option (Bool) :=
  (F.gridlink_Diagram n ([0, 1, 2, 3, 4] : List Int) ([2, 3, 4, 0, 1] : List Int)).bind fun y15 => (F.gridlink_Braid n 2 ([1] : List Int)).bind fun y44 => cond (decide (y15.2.2.2 = 0)) (cond (decide ((y15.1.length : Int) = 3)) (cond (decide (y15.2.2.1 = 0)) (cond (decide (y44.2.2 = 0)) ((F.ref01_Ints n y44.1 ([2, 0, 1, 3, 4] : List Int)).bind fun y75 => cond y75 ((F.ref01_Ints n y44.2.1 ([4, 3, 2, 1, 0] : List Int)).bind fun y85 => some y85) (some false)) (some false)) (some false)) (some false)) (some false)


def law44_small (n : Nat) (g_0_0 : List Int) (g_0_1 : List Int) : Option (Int) :=
  cond (decide (45 < (g_0_0.length : Int))) (some 0) (cond (decide (45 < (g_0_1.length : Int))) (some 0) (cond (decide (12 < (g_0_0.length : Int))) (cond (decide ((g_0_0.length : Int) ≤ 40)) (some 0) (some 1)) (some 1)))

def ref01_In_b0 (n : Nat) (l_0 : List Int) (x_1 : Int) : Int → Option ((Int) ⊕ ((Int) ⊕ (Bool)))
  | v5_0 => cond (decide (v5_0 < (l_0.length : Int))) ((get l_0 v5_0).bind fun x17 => cond (decide (x17 = x_1)) (some (.inr (.inr true))) ((chk (v5_0 + 1)).bind fun z25 => some (.inl z25))) (some (.inr (.inl v5_0)))

def ref01_In (n : Nat) (l_0 : List Int) (x_1 : Int) : Option (Bool) :=
  ((loopN n (F.ref01_In_b0 n l_0 x_1) 0).bind fun o5 => match o5 with
    | (.inl v5_0) => some false
    | (.inr q) => some q)

def ref01_IsPerm_b0 (n : Nat) (l_0 : List Int) (nx_1 : Int) : Int → Option ((Int) ⊕ ((Int) ⊕ (Bool)))
  | v5_0 => cond (decide (v5_0 < nx_1)) ((F.ref01_In n l_0 v5_0).bind fun y21 => cond (!y21) (some (.inr (.inr false))) ((chk (v5_0 + 1)).bind fun z26 => some (.inl z26))) (some (.inr (.inl v5_0)))

def ref01_IsPerm (n : Nat) (l_0 : List Int) (nx_1 : Int) : Option (Bool) :=
  cond (!(decide ((l_0.length : Int) = nx_1))) (some false) (((loopN n (F.ref01_IsPerm_b0 n l_0 nx_1) 0).bind fun o9 => match o9 with
    | (.inl v5_0) => some true
    | (.inr q) => some q))

def ref42_Valid_b0 (n : Nat) (g_0_0 : List Int) (g_0_1 : List Int) : Int → Option ((Int) ⊕ ((Int) ⊕ (Bool)))
  | v4_0 => cond (decide (v4_0 < (g_0_0.length : Int))) ((get g_0_0 v4_0).bind fun x41 => (get g_0_1 v4_0).bind fun x48 => cond (decide (x41 = x48)) (some (.inr (.inr false))) ((chk (v4_0 + 1)).bind fun z57 => some (.inl z57))) (some (.inr (.inl v4_0)))

def ref42_Valid (n : Nat) (g_0_0 : List Int) (g_0_1 : List Int) : Option (Bool) :=
  cond (decide ((g_0_0.length : Int) < 2)) (some false) (cond (decide (40 < (g_0_0.length : Int))) (some false) ((F.ref01_IsPerm n g_0_0 (g_0_0.length : Int)).bind fun y14 => cond (!y14) (some false) ((F.ref01_IsPerm n g_0_1 (g_0_0.length : Int)).bind fun y19 => cond (!y19) (some false) (((loopN n (F.ref42_Valid_b0 n g_0_0 g_0_1) 0).bind fun o27 => match o27 with
    | (.inl v4_0) => some true
    | (.inr q) => some q)))))


def ref42_between (n : Nat) (x_0 : Int) (a_1 : Int) (b_2 : Int) : Option (Bool) :=
  cond (decide ((min a_1 b_2) < x_0)) (some (decide (x_0 < (max a_1 b_2)))) (some false)

def ref42_Column_b0 (n : Nat) (l_0 : List Int) (row_1 : Int) : Int → Option ((Int) ⊕ ((Int) ⊕ (Int)))
  | v5_0 => cond (decide (v5_0 < (l_0.length : Int))) ((get l_0 v5_0).bind fun x17 => cond (decide (x17 = row_1)) (some (.inr (.inr v5_0))) ((chk (v5_0 + 1)).bind fun z26 => some (.inl z26))) (some (.inr (.inl v5_0)))

def ref42_Column (n : Nat) (l_0 : List Int) (row_1 : Int) : Option (Int) :=
  ((loopN n (F.ref42_Column_b0 n l_0 row_1) 0).bind fun o5 => match o5 with
    | (.inl v5_0) => some (-1)
    | (.inr q) => some q)

def ref42_Crossings_b1 (n : Nat) (g_0_0 : List Int) (g_0_1 : List Int) (v4_0 : Int) : (List (Int × Int)) × Int → Option (((List (Int × Int)) × Int) ⊕ (((List (Int × Int)) × Int)))
  | (l3_1, v5_1) => cond (decide (v5_1 < (g_0_0.length : Int))) ((get g_0_0 v4_0).bind fun x37 => (get g_0_1 v4_0).bind fun x44 => (F.ref42_between n v5_1 x37 x44).bind fun y51 => cond y51 ((F.ref42_Column n g_0_0 v5_1).bind fun y55 => (F.ref42_Column n g_0_1 v5_1).bind fun y59 => (F.ref42_between n v4_0 y55 y59).bind fun y63 => cond y63 ((lim (l3_1.length + ([(v4_0, v5_1)] : List (Int × Int)).length)).bind fun u74 => (chk (v5_1 + 1)).bind fun z81 => some (.inl ((l3_1 ++ ([(v4_0, v5_1)] : List (Int × Int))), z81))) ((chk (v5_1 + 1)).bind fun z83 => some (.inl (l3_1, z83)))) ((chk (v5_1 + 1)).bind fun z86 => some (.inl (l3_1, z86)))) (some (.inr (l3_1, v5_1)))

def ref42_Crossings_b0 (n : Nat) (g_0_0 : List Int) (g_0_1 : List Int) : (List (Int × Int)) × Int → Option (((List (Int × Int)) × Int) ⊕ (((List (Int × Int)) × Int)))
  | (l3_0, v4_0) => cond (decide (v4_0 < (g_0_0.length : Int))) (((loopN n (F.ref42_Crossings_b1 n g_0_0 g_0_1 v4_0) (l3_0, 0)).bind fun o23 => match o23 with
    | (l3_1, v5_1) => (chk (v4_0 + 1)).bind fun z90 => some (.inl (l3_1, z90)))) (some (.inr (l3_0, v4_0)))

def ref42_Crossings (n : Nat) (g_0_0 : List Int) (g_0_1 : List Int) : Option ((List (Int × Int))) :=
  ((loopN n (F.ref42_Crossings_b0 n g_0_0 g_0_1) (([] : List (Int × Int)), 0)).bind fun o11 => match o11 with
    | (l3_0, v4_0) => some l3_0)

def ref44_number_b0 (n : Nat) (l_0 : List (Int × Int)) (col_1 : Int) (row_2 : Int) : Int → Option ((Int) ⊕ ((Int) ⊕ (Int)))
  | v7_0 => cond (decide (v7_0 < (l_0.length : Int))) ((get l_0 v7_0).bind fun x17 => cond (decide (x17.1 = col_1) && (decide (x17.2 = row_2) && true)) (some (.inr (.inr v7_0))) ((chk (v7_0 + 1)).bind fun z30 => some (.inl z30))) (some (.inr (.inl v7_0)))

def ref44_number (n : Nat) (l_0 : List (Int × Int)) (col_1 : Int) (row_2 : Int) : Option (Int) :=
  ((loopN n (F.ref44_number_b0 n l_0 col_1 row_2) 0).bind fun o5 => match o5 with
    | (.inl v7_0) => some (-1)
    | (.inr q) => some q)

def ref44_Diagram_b6 (n : Nat) (y12 : (List (Int × Int))) (x342 : Int) (y356 : Int) (v14_5 : Int) : (List Int) × (List Int) × Int → Option (((List Int) × (List Int) × Int) ⊕ (((List Int) × (List Int) × Int)))
  | (l11_6, l12_6, v19_6) => cond (!(decide (v19_6 = y356))) ((F.ref44_number n y12 v19_6 x342).bind fun y380 => cond (decide (0 ≤ y380)) ((chk (4 * y380)).bind fun z388 => (lim (l11_6.length + ([z388] : List Int).length)).bind fun u396 => (chk (4 * y380)).bind fun z403 => (chk (z403 + 2)).bind fun z405 => (lim (l12_6.length + ([z405] : List Int).length)).bind fun u413 => (chk (v19_6 + v14_5)).bind fun z421 => some (.inl ((l11_6 ++ ([z388] : List Int)), (l12_6 ++ ([z405] : List Int)), z421))) ((chk (v19_6 + v14_5)).bind fun z423 => some (.inl (l11_6, l12_6, z423)))) (some (.inr (l11_6, l12_6, v19_6)))

def ref44_Diagram_j5 (n : Nat) (g_0_0 : List Int) (g_0_1 : List Int) (y12 : (List (Int × Int))) (v13_2 : Int) (qf169_2 : List Bool) (l11_4 : List Int) (l12_4 : List Int) (x342 : Int) (y356 : Int) (v14_5 : Int) (v187_5 : Bool) : Option (((List Int) × (List Int) × Int × (List Bool)) ⊕ (((List Int) × (List Int) × Int × (List Bool)))) :=
  ((loopN n (F.ref44_Diagram_b6 n y12 x342 y356 v14_5) (l11_4, l12_4, v13_2)).bind fun o368 => match o368 with
    | (l11_6, l12_6, v19_6) => (get g_0_1 v13_2).bind fun x429 => (F.ref42_Column n g_0_0 x429).bind fun y436 => some (.inl (l11_6, l12_6, y436, (qf169_2.set v13_2.toNat true))))

def ref44_Diagram_b4 (n : Nat) (g_0_1 : List Int) (y12 : (List (Int × Int))) (kf34_0_0 : List Int) (v13_2 : Int) (v14_3 : Int) : (List Int) × (List Int) × Int → Option (((List Int) × (List Int) × Int) ⊕ (((List Int) × (List Int) × Int)))
  | (l11_4, l12_4, v15_4) => (get g_0_1 v13_2).bind fun x264 => cond (!(decide (v15_4 = x264))) ((F.ref44_number n y12 v13_2 v15_4).bind fun y273 => cond (decide (0 ≤ y273)) ((chk (4 * y273)).bind fun z281 => (chk (z281 + 2)).bind fun z283 => (get kf34_0_0 y273).bind fun x285 => (chk (z283 + x285)).bind fun z291 => (lim (l11_4.length + ([z291] : List Int).length)).bind fun u299 => (chk (4 * y273)).bind fun z307 => (chk (z307 + 2)).bind fun z309 => (get kf34_0_0 y273).bind fun x311 => (chk (z309 - x311)).bind fun z317 => (lim (l12_4.length + ([z317] : List Int).length)).bind fun u325 => (chk (v15_4 + v14_3)).bind fun z333 => some (.inl ((l11_4 ++ ([z291] : List Int)), (l12_4 ++ ([z317] : List Int)), z333))) ((chk (v15_4 + v14_3)).bind fun z335 => some (.inl (l11_4, l12_4, z335)))) (some (.inr (l11_4, l12_4, v15_4)))

def ref44_Diagram_j3 (n : Nat) (g_0_0 : List Int) (g_0_1 : List Int) (y12 : (List (Int × Int))) (kf34_0_0 : List Int) (l11_2 : List Int) (l12_2 : List Int) (v13_2 : Int) (qf169_2 : List Bool) (v14_3 : Int) (v126_3 : Bool) : Option (((List Int) × (List Int) × Int × (List Bool)) ⊕ (((List Int) × (List Int) × Int × (List Bool)))) :=
  (get g_0_0 v13_2).bind fun x249 => ((loopN n (F.ref44_Diagram_b4 n g_0_1 y12 kf34_0_0 v13_2 v14_3) (l11_2, l12_2, x249)).bind fun o255 => match o255 with
    | (l11_4, l12_4, v15_4) => (get g_0_1 v13_2).bind fun x342 => (get g_0_1 v13_2).bind fun x349 => (F.ref42_Column n g_0_0 x349).bind fun y356 => cond (decide (y356 < v13_2)) (F.ref44_Diagram_j5 n g_0_0 g_0_1 y12 v13_2 qf169_2 l11_4 l12_4 x342 y356 (-1) (decide (y356 < v13_2))) (F.ref44_Diagram_j5 n g_0_0 g_0_1 y12 v13_2 qf169_2 l11_4 l12_4 x342 y356 1 (decide (y356 < v13_2))))

def ref44_Diagram_b8 (n : Nat) (l11_2 : List Int) (l12_2 : List Int) : Int × (List Int) → Option ((Int × (List Int)) ⊕ ((Int × (List Int))))
  | (v21_8, qf31_8) => cond (decide (v21_8 < (l11_2.length : Int))) ((chk (v21_8 + 1)).bind fun z463 => (nz (l11_2.length : Int)).bind fun u465 => (get l11_2 (Int.tmod z463 (l11_2.length : Int))).bind fun x467 => (get l12_2 v21_8).bind fun x476 => (get l12_2 v21_8).bind fun x483 => (get qf31_8 x476).bind fun x490 => (get (qf31_8.set x476.toNat x467) x467).bind fun x498 => (chk (v21_8 + 1)).bind fun z505 => some (.inl (z505, ((qf31_8.set x476.toNat x467).set x467.toNat x483)))) (some (.inr (v21_8, qf31_8)))

def ref44_Diagram_j7 (n : Nat) (v10_1 : Int) (qf31_1 : List Int) (l11_2 : List Int) (l12_2 : List Int) (qf169_2 : List Bool) (v214_7 : Bool) (bf34_2_7 : Int) : Option ((Int × (List Int) × Int × (List Bool)) ⊕ ((Int × (List Int) × Int × (List Bool)))) :=
  ((loopN n (F.ref44_Diagram_b8 n l11_2 l12_2) (0, qf31_1)).bind fun o451 => match o451 with
    | (v21_8, qf31_8) => (chk (v10_1 + 1)).bind fun z509 => some (.inl (z509, qf31_8, bf34_2_7, qf169_2)))

def ref44_Diagram_b2 (n : Nat) (g_0_0 : List Int) (g_0_1 : List Int) (y12 : (List (Int × Int))) (kf34_0_0 : List Int) : (List Int) × (List Int) × Int × (List Bool) → Option (((List Int) × (List Int) × Int × (List Bool)) ⊕ (((List Int) × (List Int) × Int × (List Bool))))
  | (l11_2, l12_2, v13_2, qf169_2) => (get qf169_2 v13_2).bind fun x209 => cond (!x209) ((get qf169_2 v13_2).bind fun x218 => (get g_0_0 v13_2).bind fun x230 => (get g_0_1 v13_2).bind fun x237 => cond (decide (x237 < x230)) (F.ref44_Diagram_j3 n g_0_0 g_0_1 y12 kf34_0_0 l11_2 l12_2 v13_2 qf169_2 (-1) (decide (x237 < x230))) (F.ref44_Diagram_j3 n g_0_0 g_0_1 y12 kf34_0_0 l11_2 l12_2 v13_2 qf169_2 1 (decide (x237 < x230)))) (some (.inr (l11_2, l12_2, v13_2, qf169_2)))

def ref44_Diagram_b1 (n : Nat) (g_0_0 : List Int) (g_0_1 : List Int) (y12 : (List (Int × Int))) (kf34_0_0 : List Int) : Int × (List Int) × Int × (List Bool) → Option ((Int × (List Int) × Int × (List Bool)) ⊕ ((Int × (List Int) × Int × (List Bool))))
  | (v10_1, qf31_1, bf34_2_1, qf169_1) => cond (decide (v10_1 < (g_0_0.length : Int))) ((get qf169_1 v10_1).bind fun x185 => cond x185 ((chk (v10_1 + 1)).bind fun z192 => some (.inl (z192, qf31_1, bf34_2_1, qf169_1))) (((loopN n (F.ref44_Diagram_b2 n g_0_0 g_0_1 y12 kf34_0_0) (([] : List Int), ([] : List Int), v10_1, qf169_1)).bind fun o200 => match o200 with
    | (l11_2, l12_2, v13_2, qf169_2) => cond (decide ((l11_2.length : Int) = 0)) ((chk (bf34_2_1 + 1)).bind fun z445 => F.ref44_Diagram_j7 n v10_1 qf31_1 l11_2 l12_2 qf169_2 (decide ((l11_2.length : Int) = 0)) z445) (F.ref44_Diagram_j7 n v10_1 qf31_1 l11_2 l12_2 qf169_2 (decide ((l11_2.length : Int) = 0)) bf34_2_1)))) (some (.inr (v10_1, qf31_1, bf34_2_1, qf169_1)))

def ref44_Diagram_b0 (n : Nat) (g_0_0 : List Int) (g_0_1 : List Int) (y12 : (List (Int × Int))) : Int × (List Int) → Option ((Int × (List Int)) ⊕ ((Int × (List Int))))
  | (v6_0, kf34_0_0) => cond (decide (v6_0 < (y12.length : Int))) ((get y12 v6_0).bind fun x54 => (get g_0_0 x54.1).bind fun x65 => (get y12 v6_0).bind fun x72 => (get g_0_1 x72.1).bind fun x83 => (get y12 v6_0).bind fun x94 => (F.ref42_Column n g_0_1 x94.2).bind fun y105 => (get y12 v6_0).bind fun x109 => (F.ref42_Column n g_0_0 x109.2).bind fun y120 => cond ((decide (x83 < x65)) == (decide (y105 < y120))) ((lim (kf34_0_0.length + ([1] : List Int).length)).bind fun u133 => (chk (v6_0 + 1)).bind fun z141 => some (.inl (z141, (kf34_0_0 ++ ([1] : List Int))))) ((lim (kf34_0_0.length + ([(-1)] : List Int).length)).bind fun u149 => (chk (v6_0 + 1)).bind fun z157 => some (.inl (z157, (kf34_0_0 ++ ([(-1)] : List Int)))))) (some (.inr (v6_0, kf34_0_0)))

def ref44_Diagram (n : Nat) (g_0_0 : List Int) (g_0_1 : List Int) : Option ((List Int) × (List Int) × Int) :=
  (F.ref42_Crossings n g_0_0 g_0_1).bind fun y12 => (chk (4 * (y12.length : Int))).bind fun z22 => (pos z22).bind fun u24 => ((loopN n (F.ref44_Diagram_b0 n g_0_0 g_0_1 y12) (0, ([] : List Int))).bind fun o40 => match o40 with
    | (v6_0, kf34_0_0) => (pos (g_0_0.length : Int)).bind fun u162 => ((loopN n (F.ref44_Diagram_b1 n g_0_0 g_0_1 y12 kf34_0_0) (0, (List.replicate z22.toNat (0 : Int)), 0, (List.replicate (g_0_0.length : Int).toNat false))).bind fun o172 => match o172 with
    | (v10_1, qf31_1, bf34_2_1, qf169_1) => some (kf34_0_0, qf31_1, bf34_2_1)))


def ref01_Equal (n : Nat) (a_0_0 : List Int) (a_0_1 : List Int) (a_0_2 : Int) (b_1_0 : List Int) (b_1_1 : List Int) (b_1_2 : Int) : Option (Bool) :=
  (F.ref01_Ints n a_0_0 b_1_0).bind fun y13 => cond y13 ((F.ref01_Ints n a_0_1 b_1_1).bind fun y17 => cond y17 (some (decide (a_0_2 = b_1_2))) (some false)) (some false)


def law44_GridlinkDiagram (n : Nat) (g_0_0 : List Int) (g_0_1 : List Int) : Option (Bool) :=
  (F.law44_awake n).bind fun y9 => cond (!y9) (some false) ((F.law44_small n g_0_0 g_0_1).bind fun y16 => cond (decide (y16 = 0)) (some true) ((F.gridlink_Diagram n g_0_0 g_0_1).bind fun y23 => (F.ref42_Valid n g_0_0 g_0_1).bind fun y47 => cond (!y47) (cond (decide (y23.2.2.2 = 1)) (cond (decide ((y23.1.length : Int) = 0)) (cond (decide ((y23.2.1.length : Int) = 0)) (some (decide (y23.2.2.1 = 0))) (some false)) (some false)) (some false)) ((F.ref42_Crossings n g_0_0 g_0_1).bind fun y57 => cond (decide (64 < (y57.length : Int))) (some (decide (y23.2.2.2 = 5))) (cond (decide (y23.2.2.2 = 0)) ((F.ref44_Diagram n g_0_0 g_0_1).bind fun y72 => (F.ref01_Equal n y23.1 y23.2.1 y23.2.2.1 y72.1 y72.2.1 y72.2.2).bind fun y88 => some y88) (some false)))))

def ref33_Valid_b0 (n : Nat) (strands_0 : Int) (word_1 : List Int) : Int → Option ((Int) ⊕ ((Int) ⊕ (Bool)))
  | v5_0 => cond (decide (v5_0 < (word_1.length : Int))) ((get word_1 v5_0).bind fun x26 => cond (decide (x26 = 0)) (some (.inr (.inr false))) ((get word_1 v5_0).bind fun x34 => cond (decide (strands_0 ≤ x34)) (some (.inr (.inr false))) ((get word_1 v5_0).bind fun x42 => (chk (-strands_0)).bind fun z48 => cond (decide (x42 ≤ z48)) (some (.inr (.inr false))) ((chk (v5_0 + 1)).bind fun z52 => some (.inl z52))))) (some (.inr (.inl v5_0)))

def ref33_Valid (n : Nat) (strands_0 : Int) (word_1 : List Int) : Option (Bool) :=
  cond (decide (strands_0 < 1)) (some false) (cond (decide (10 < strands_0)) (some false) (cond (decide (200 < (word_1.length : Int))) (some false) (((loopN n (F.ref33_Valid_b0 n strands_0 word_1) 0).bind fun o14 => match o14 with
    | (.inl v5_0) => some true
    | (.inr q) => some q))))

def ref44_Braid_j4 (n : Nat) (l6_1 : List Int) (l7_1 : List Int) (qF9_0_1 : List Int) (v14_2 : Int) (v15_2 : Int) (v18_3 : Int) (l17_4 : List Int) (v102_4 : Bool) : Option (((List Int) × Int) ⊕ (((List Int) × Int))) :=
  (get l6_1 v18_3).bind fun x222 => (lim (l17_4.length + ([x222] : List Int).length)).bind fun u234 => (get l6_1 v18_3).bind fun x244 => (get qF9_0_1 v14_2).bind fun x251 => cond (decide (x244 = x251)) (cond (decide (v15_2 = 1)) ((lim ((l17_4 ++ ([x222] : List Int)).length + ([(l7_1.length : Int)] : List Int).length)).bind fun u267 => (chk (v18_3 + 1)).bind fun z274 => some (.inl (((l17_4 ++ ([x222] : List Int)) ++ ([(l7_1.length : Int)] : List Int)), z274))) ((chk (v18_3 + 1)).bind fun z276 => some (.inl ((l17_4 ++ ([x222] : List Int)), z276)))) ((chk (v18_3 + 1)).bind fun z279 => some (.inl ((l17_4 ++ ([x222] : List Int)), z279)))

def ref44_Braid_b3 (n : Nat) (l6_1 : List Int) (l7_1 : List Int) (qF9_0_1 : List Int) (v14_2 : Int) (v15_2 : Int) : (List Int) × Int → Option (((List Int) × Int) ⊕ (((List Int) × Int)))
  | (l17_3, v18_3) => cond (decide (v18_3 < (l6_1.length : Int))) ((get l6_1 v18_3).bind fun x188 => (get qF9_0_1 v14_2).bind fun x195 => cond (decide (x188 = x195)) (cond (decide (v15_2 = 0)) ((lim (l17_3.length + ([(l7_1.length : Int)] : List Int).length)).bind fun u211 => F.ref44_Braid_j4 n l6_1 l7_1 qF9_0_1 v14_2 v15_2 v18_3 (l17_3 ++ ([(l7_1.length : Int)] : List Int)) (decide (v15_2 = 0))) (F.ref44_Braid_j4 n l6_1 l7_1 qF9_0_1 v14_2 v15_2 v18_3 l17_3 (decide (v15_2 = 0)))) (F.ref44_Braid_j4 n l6_1 l7_1 qF9_0_1 v14_2 v15_2 v18_3 l17_3 false)) (some (.inr (l17_3, v18_3)))

def ref44_Braid_j2 (n : Nat) (strands_0 : Int) (l6_1 : List Int) (l7_1 : List Int) (l8_1 : List Int) (v11_1 : Int) (qF9_0_1 : List Int) (v13_2 : Int) (v14_2 : Int) (v15_2 : Int) (v58_2 : Bool) : Option (((List Int) × (List Int) × (List Int) × Int × (List Int)) ⊕ (((List Int) × (List Int) × (List Int) × Int × (List Int)))) :=
  (get qF9_0_1 v13_2).bind fun x122 => (chk (strands_0 + v11_1)).bind fun z128 => (get l8_1 x122).bind fun x130 => (chk (strands_0 + v11_1)).bind fun z139 => (lim (l7_1.length + ([z139] : List Int).length)).bind fun u147 => (lim ((l8_1.set x122.toNat z128).length + ([(-1)] : List Int).length)).bind fun u161 => ((loopN n (F.ref44_Braid_b3 n l6_1 l7_1 qF9_0_1 v14_2 v15_2) (([] : List Int), 0)).bind fun o173 => match o173 with
    | (l17_3, v18_3) => (get qF9_0_1 v14_2).bind fun x284 => (get qF9_0_1 v13_2).bind fun x290 => (get (qF9_0_1.set v13_2.toNat x284) v14_2).bind fun x297 => (chk (v11_1 + 1)).bind fun z304 => some (.inl (l17_3, (l7_1 ++ ([z139] : List Int)), ((l8_1.set x122.toNat z128) ++ ([(-1)] : List Int)), z304, ((qF9_0_1.set v13_2.toNat x284).set v14_2.toNat (l7_1.length : Int)))))

def ref44_Braid_b7 (n : Nat) (strands_0 : Int) (word_1 : List Int) : Int × (List Int) × (List Int) → Option ((Int × (List Int) × (List Int)) ⊕ ((Int × (List Int) × (List Int))))
  | (v22_7, kf311_0_7, kf311_1_7) => cond (decide (0 ≤ v22_7)) ((chk (2 * strands_0)).bind fun z447 => (chk (z447 + (word_1.length : Int))).bind fun z449 => (chk (z449 - 1)).bind fun z451 => (chk (z451 - v22_7)).bind fun z453 => (lim (kf311_0_7.length + ([z453] : List Int).length)).bind fun u461 => (lim (kf311_1_7.length + ([v22_7] : List Int).length)).bind fun u476 => (chk (v22_7 - 1)).bind fun z484 => some (.inl (z484, (kf311_0_7 ++ ([z453] : List Int)), (kf311_1_7 ++ ([v22_7] : List Int))))) (some (.inr (v22_7, kf311_0_7, kf311_1_7)))

def ref44_Braid_b6 (n : Nat) (l6_1 : List Int) (l7_1 : List Int) (qF8_1_5 : List Int) : Int × (List Int) × (List Int) → Option ((Int × (List Int) × (List Int)) ⊕ ((Int × (List Int) × (List Int))))
  | (v21_6, kf311_0_6, kf311_1_6) => cond (decide (v21_6 < (l6_1.length : Int))) ((get l6_1 v21_6).bind fun x368 => (get l7_1 x368).bind fun x375 => (lim (kf311_0_6.length + ([x375] : List Int).length)).bind fun u388 => (get l6_1 v21_6).bind fun x399 => (get qF8_1_5 x399).bind fun x406 => (lim (kf311_1_6.length + ([x406] : List Int).length)).bind fun u419 => (chk (v21_6 + 1)).bind fun z427 => some (.inl (z427, (kf311_0_6 ++ ([x375] : List Int)), (kf311_1_6 ++ ([x406] : List Int))))) (some (.inr (v21_6, kf311_0_6, kf311_1_6)))

def ref44_Braid_b5 (n : Nat) (strands_0 : Int) (word_1 : List Int) (qF9_0_1 : List Int) : Int × (List Int) → Option ((Int × (List Int)) ⊕ ((Int × (List Int))))
  | (v20_5, qF8_1_5) => cond (decide (v20_5 < strands_0)) ((get qF9_0_1 v20_5).bind fun x325 => (chk (2 * strands_0)).bind fun z331 => (chk (z331 + (word_1.length : Int))).bind fun z333 => (chk (z333 - 1)).bind fun z335 => (chk (z335 - v20_5)).bind fun z337 => (get qF8_1_5 x325).bind fun x339 => (chk (v20_5 + 1)).bind fun z346 => some (.inl (z346, (qF8_1_5.set x325.toNat z337)))) (some (.inr (v20_5, qF8_1_5)))

def ref44_Braid_b1 (n : Nat) (strands_0 : Int) (word_1 : List Int) : (List Int) × (List Int) × (List Int) × Int × (List Int) → Option (((List Int) × (List Int) × (List Int) × Int × (List Int)) ⊕ (((List Int) × (List Int) × (List Int) × Int × (List Int))))
  | (l6_1, l7_1, l8_1, v11_1, qF9_0_1) => cond (decide (v11_1 < (word_1.length : Int))) ((get word_1 v11_1).bind fun x99 => (chk (x99 - 1)).bind fun z106 => cond (decide (x99 < 0)) ((chk (-x99)).bind fun z112 => (chk (z112 - 1)).bind fun z114 => (chk (-x99)).bind fun z116 => F.ref44_Braid_j2 n strands_0 l6_1 l7_1 l8_1 v11_1 qF9_0_1 z114 z116 1 (decide (x99 < 0))) (F.ref44_Braid_j2 n strands_0 l6_1 l7_1 l8_1 v11_1 qF9_0_1 x99 z106 0 (decide (x99 < 0)))) (some (.inr (l6_1, l7_1, l8_1, v11_1, qF9_0_1)))

def ref44_Braid_b0 (n : Nat) (strands_0 : Int) : (List Int) × (List Int) × (List Int) × (List Int) × Int → Option (((List Int) × (List Int) × (List Int) × (List Int) × Int) ⊕ (((List Int) × (List Int) × (List Int) × (List Int) × Int)))
  | (l6_0, l7_0, l8_0, l9_0, v10_0) => cond (decide (v10_0 < strands_0)) ((lim (l6_0.length + ([v10_0] : List Int).length)).bind fun u32 => (lim (l7_0.length + ([v10_0] : List Int).length)).bind fun u46 => (lim (l8_0.length + ([(-1)] : List Int).length)).bind fun u61 => (lim (l9_0.length + ([v10_0] : List Int).length)).bind fun u74 => (chk (v10_0 + 1)).bind fun z81 => some (.inl ((l6_0 ++ ([v10_0] : List Int)), (l7_0 ++ ([v10_0] : List Int)), (l8_0 ++ ([(-1)] : List Int)), (l9_0 ++ ([v10_0] : List Int)), z81))) (some (.inr (l6_0, l7_0, l8_0, l9_0, v10_0)))

def ref44_Braid (n : Nat) (strands_0 : Int) (word_1 : List Int) : Option ((List Int) × (List Int)) :=
  ((loopN n (F.ref44_Braid_b0 n strands_0) (([] : List Int), ([] : List Int), ([] : List Int), ([] : List Int), 0)).bind fun o14 => match o14 with
    | (l6_0, l7_0, l8_0, l9_0, v10_0) => ((loopN n (F.ref44_Braid_b1 n strands_0 word_1) (l6_0, l7_0, l8_0, 0, l9_0)).bind fun o87 => match o87 with
    | (l6_1, l7_1, l8_1, v11_1, qF9_0_1) => ((loopN n (F.ref44_Braid_b5 n strands_0 word_1 qF9_0_1) (0, l8_1)).bind fun o314 => match o314 with
    | (v20_5, qF8_1_5) => ((loopN n (F.ref44_Braid_b6 n l6_1 l7_1 qF8_1_5) (0, ([] : List Int), ([] : List Int))).bind fun o354 => match o354 with
    | (v21_6, kf311_0_6, kf311_1_6) => (chk (strands_0 - 1)).bind fun z433 => ((loopN n (F.ref44_Braid_b7 n strands_0 word_1) (z433, kf311_0_6, kf311_1_6)).bind fun o435 => match o435 with
    | (v22_7, kf311_0_7, kf311_1_7) => some (kf311_0_7, kf311_1_7))))))


def ref42_Same (n : Nat) (a_0_0 : List Int) (a_0_1 : List Int) (b_1_0 : List Int) (b_1_1 : List Int) : Option (Bool) :=
  (F.ref01_Ints n a_0_0 b_1_0).bind fun y13 => cond y13 ((F.ref01_Ints n a_0_1 b_1_1).bind fun y17 => some y17) (some false)


def law44_GridlinkBraid (n : Nat) (strands_0 : Int) (word_1 : List Int) : Option (Bool) :=
  (F.law44_awake n).bind fun y5 => cond (!y5) (some false) (cond (decide (60 < (word_1.length : Int))) (some true) ((F.gridlink_Braid n strands_0 word_1).bind fun y15 => (F.ref33_Valid n strands_0 word_1).bind fun y38 => cond (!y38) (cond (decide (y15.2.2 = 1)) (cond (decide ((y15.1.length : Int) = 0)) (some (decide ((y15.2.1.length : Int) = 0))) (some false)) (some false)) ((chk (2 * strands_0)).bind fun z46 => (chk (z46 + (word_1.length : Int))).bind fun z48 => cond (decide (40 < z48)) (cond (decide (y15.2.2 = 5)) (cond (decide ((y15.1.length : Int) = 0)) (some (decide ((y15.2.1.length : Int) = 0))) (some false)) (some false)) (cond (decide (y15.2.2 = 0)) ((F.ref44_Braid n strands_0 word_1).bind fun y59 => (F.ref42_Same n y15.1 y15.2.1 y59.1 y59.2).bind fun y74 => some y74) (some false)))))

def law44_GridlinkWrithe_b0 (n : Nat) (word_1 : List Int) (y53 : (List Int) × (List Int) × Int × Int) : Int × Int → Option ((Int × Int) ⊕ ((Int × Int)))
  | (v10_0, v70_0) => cond (decide (v70_0 < (word_1.length : Int))) ((get y53.1 v70_0).bind fun x106 => (chk (v10_0 + x106)).bind fun z112 => (get word_1 v70_0).bind fun x116 => cond (decide (0 < x116)) ((chk (z112 - 1)).bind fun z123 => (chk (v70_0 + 1)).bind fun z125 => some (.inl (z123, z125))) ((chk (z112 + 1)).bind fun z127 => (chk (v70_0 + 1)).bind fun z129 => some (.inl (z127, z129)))) (some (.inr (v10_0, v70_0)))

def law44_GridlinkWrithe (n : Nat) (strands_0 : Int) (word_1 : List Int) : Option (Bool) :=
  (F.law44_awake n).bind fun y5 => cond (!y5) (some false) (cond (decide (20 < (word_1.length : Int))) (some true) ((F.braid_Valid n strands_0 word_1).bind fun y19 => cond (!y19) (some true) ((chk (2 * strands_0)).bind fun z24 => (chk (z24 + (word_1.length : Int))).bind fun z26 => cond (decide (40 < z26)) (some true) ((F.gridlink_Braid n strands_0 word_1).bind fun y32 => (F.gridlink_Diagram n y32.1 y32.2.1).bind fun y53 => cond (!(decide (y32.2.2 = 0))) (some false) (cond (!(decide (y53.2.2.2 = 0))) (some false) (cond (!(decide ((y53.1.length : Int) = (word_1.length : Int)))) (some false) ((chk (2 * strands_0)).bind fun z83 => (chk (z83 + (word_1.length : Int))).bind fun z85 => cond (!(decide ((y32.1.length : Int) = z85))) (some false) (((loopN n (F.law44_GridlinkWrithe_b0 n word_1 y53) (0, 0)).bind fun o93 => match o93 with
    | (v10_0, v70_0) => some (decide (v10_0 = 0)))))))))))


def slices_Clone_Lint_int (n : Nat) (s_0 : List Int) : Option ((List Int)) :=
  (lim (([] : List Int).length + s_0.length)).bind fun u16 => some (([] : List Int) ++ s_0)


def gridlink_Reverse (n : Nat) (g_0_0 : List Int) (g_0_1 : List Int) : Option ((List Int) × (List Int) × Int) :=
  (F.grid_Valid n g_0_0 g_0_1).bind fun y12 => cond (!y12) (some ([], [], 1)) ((F.slices_Clone_Lint_int n g_0_1).bind fun y23 => (F.slices_Clone_Lint_int n g_0_0).bind fun y32 => some (y23, y32, 0))

def slices_Reverse_Lint_int_b0 (n : Nat) : Int × Int × (List Int) → Option ((Int × Int × (List Int)) ⊕ ((Int × Int × (List Int))))
  | (v2_0, v3_0, qf1_0) => cond (decide (v2_0 < v3_0)) ((get qf1_0 v3_0).bind fun x18 => (get qf1_0 v2_0).bind fun x25 => (get qf1_0 v2_0).bind fun x32 => (get (qf1_0.set v2_0.toNat x18) v3_0).bind fun x40 => (chk (v2_0 + 1)).bind fun z48 => (chk (v3_0 - 1)).bind fun z50 => some (.inl (z48, z50, ((qf1_0.set v2_0.toNat x18).set v3_0.toNat x25)))) (some (.inr (v2_0, v3_0, qf1_0)))

def slices_Reverse_Lint_int (n : Nat) (s_0 : List Int) : Option ((List Int)) :=
  (chk ((s_0.length : Int) - 1)).bind fun z3 => ((loopN n (F.slices_Reverse_Lint_int_b0 n) (0, z3, s_0)).bind fun o5 => match o5 with
    | (v2_0, v3_0, qf1_0) => some qf1_0)


def gridlink_Reflect (n : Nat) (g_0_0 : List Int) (g_0_1 : List Int) : Option ((List Int) × (List Int) × Int) :=
  (F.grid_Valid n g_0_0 g_0_1).bind fun y12 => cond (!y12) (some ([], [], 1)) ((F.slices_Clone_Lint_int n g_0_0).bind fun y23 => (F.slices_Clone_Lint_int n g_0_1).bind fun y32 => (F.slices_Reverse_Lint_int n y23).bind fun y47 => (F.slices_Reverse_Lint_int n y32).bind fun y51 => some (y47, y51, 0))

def law44_GridlinkErrors_j0 (n : Nat) (g_0_0 : List Int) (g_0_1 : List Int) (l3_0 : List Int) (l4_0 : List Int) : Option (Bool) :=
  (F.gridlink_Reverse n g_0_0 g_0_1).bind fun y100 => (F.gridlink_Reflect n g_0_0 g_0_1).bind fun y121 => (F.gridlink_Diagram n g_0_0 g_0_1).bind fun y143 => (F.ref01_Ints n l3_0 g_0_0).bind fun y166 => cond (!y166) (some false) ((F.ref01_Ints n l4_0 g_0_1).bind fun y171 => cond (!y171) (some false) ((F.ref42_Valid n g_0_0 g_0_1).bind fun y179 => cond y179 (cond (decide (y100.2.2 = 0)) (cond (decide (y121.2.2 = 0)) (cond (decide (y143.2.2.2 = 0)) (some true) (some (decide (y143.2.2.2 = 5)))) (some false)) (some false)) (cond (decide (y100.2.2 = 1)) (cond (decide (y121.2.2 = 1)) (cond (decide (y143.2.2.2 = 1)) (cond (decide ((y100.1.length : Int) = 0)) (some (decide ((y121.1.length : Int) = 0))) (some false)) (some false)) (some false)) (some false))))

def law44_GridlinkErrors (n : Nat) (g_0_0 : List Int) (g_0_1 : List Int) : Option (Bool) :=
  (F.law44_awake n).bind fun y9 => cond (!y9) (some false) ((F.law44_small n g_0_0 g_0_1).bind fun y16 => cond (decide (y16 = 0)) (some true) ((lim (([] : List Int).length + g_0_0.length)).bind fun u31 => (lim (([] : List Int).length + g_0_1.length)).bind fun u44 => F.law44_GridlinkErrors_j0 n g_0_0 g_0_1 (([] : List Int) ++ g_0_0) (([] : List Int) ++ g_0_1)))


def diagram_outgoing (n : Nat) (d_0_0 : List Int) (d_0_1 : List Int) (d_0_2 : Int) (h_1 : Int) : Option (Bool) :=
  (nz 4).bind fun u9 => cond (decide ((Int.tmod h_1 4) = 1)) ((nz 4).bind fun u14 => (chk (Int.tdiv h_1 4)).bind fun z16 => (get d_0_0 z16).bind fun x18 => some (decide (x18 = 1))) (cond (decide ((Int.tmod h_1 4) = 2)) (some true) (cond (decide ((Int.tmod h_1 4) = 3)) ((nz 4).bind fun u31 => (chk (Int.tdiv h_1 4)).bind fun z33 => (get d_0_0 z33).bind fun x35 => some (decide (x35 = (-1)))) (some false)))

def diagram_label_b3 (n : Nat) (d_0_1 : List Int) (v6_1 : Int) (x96 : Int) : (List Int) × Int × (List Int) → Option (((List Int) × Int × (List Int)) ⊕ (((List Int) × Int × (List Int))))
  | (l8_3, v49_3, qf15_3) => cond (decide (v49_3 < 4)) ((chk (4 * x96)).bind fun z125 => (chk (z125 + v49_3)).bind fun z127 => (get d_0_1 z127).bind fun x129 => (nz 4).bind fun u135 => (chk (Int.tdiv x129 4)).bind fun z137 => (get qf15_3 z137).bind fun x141 => cond (decide (x141 < 0)) ((get qf15_3 z137).bind fun x149 => (lim (l8_3.length + ([z137] : List Int).length)).bind fun u162 => (chk (v49_3 + 1)).bind fun z169 => some (.inl ((l8_3 ++ ([z137] : List Int)), z169, (qf15_3.set z137.toNat v6_1)))) ((chk (v49_3 + 1)).bind fun z171 => some (.inl (l8_3, z171, qf15_3)))) (some (.inr (l8_3, v49_3, qf15_3)))

def diagram_label_b2 (n : Nat) (d_0_1 : List Int) (v6_1 : Int) : (List Int) × (List Int) → Option (((List Int) × (List Int)) ⊕ (((List Int) × (List Int))))
  | (l8_2, qf15_2) => cond (decide (0 < (l8_2.length : Int))) ((get l8_2 0).bind fun x96 => (cut 1 (l8_2.length : Int) l8_2.length).bind fun u103 => ((loopN n (F.diagram_label_b3 n d_0_1 v6_1 x96) ((l8_2.drop (1 : Int).toNat), 0, qf15_2)).bind fun o112 => match o112 with
    | (l8_3, v49_3, qf15_3) => some (.inl (l8_3, qf15_3)))) (some (.inr (l8_2, qf15_2)))

def diagram_label_b1 (n : Nat) (d_0_0 : List Int) (d_0_1 : List Int) : Int × Int × (List Int) → Option ((Int × Int × (List Int)) ⊕ ((Int × Int × (List Int))))
  | (v6_1, v27_1, qf15_1) => cond (decide (v27_1 < (((List.replicate (d_0_0.length : Int).toNat (0 : Int))).length : Int))) ((get qf15_1 v27_1).bind fun x59 => cond (decide (0 ≤ x59)) ((chk (v27_1 + 1)).bind fun z66 => some (.inl (v6_1, z66, qf15_1))) ((get qf15_1 v27_1).bind fun x69 => ((loopN n (F.diagram_label_b2 n d_0_1 v6_1) (([v27_1] : List Int), (qf15_1.set v27_1.toNat v6_1))).bind fun o85 => match o85 with
    | (l8_2, qf15_2) => (chk (v6_1 + 1)).bind fun z177 => (chk (v27_1 + 1)).bind fun z179 => some (.inl (z177, z179, qf15_2))))) (some (.inr (v6_1, v27_1, qf15_1)))

def diagram_label_b0 (n : Nat) (d_0_0 : List Int) : Int × (List Int) → Option ((Int × (List Int)) ⊕ ((Int × (List Int))))
  | (v18_0, qf15_0) => cond (decide (v18_0 < (((List.replicate (d_0_0.length : Int).toNat (0 : Int))).length : Int))) ((get qf15_0 v18_0).bind fun x31 => (chk (v18_0 + 1)).bind fun z38 => some (.inl (z38, (qf15_0.set v18_0.toNat (-1))))) (some (.inr (v18_0, qf15_0)))

def diagram_label (n : Nat) (d_0_0 : List Int) (d_0_1 : List Int) (d_0_2 : Int) : Option ((List Int) × Int) :=
  (pos (d_0_0.length : Int)).bind fun u8 => ((loopN n (F.diagram_label_b0 n d_0_0) (0, (List.replicate (d_0_0.length : Int).toNat (0 : Int)))).bind fun o19 => match o19 with
    | (v18_0, qf15_0) => ((loopN n (F.diagram_label_b1 n d_0_0 d_0_1) (0, 0, qf15_0)).bind fun o45 => match o45 with
    | (v6_1, v27_1, qf15_1) => some (qf15_1, v6_1)))


def diagram_Turn (n : Nat) (h_0 : Int) (by_1 : Int) : Option (Int) :=
  cond (decide (h_0 < 0)) (some (-1)) ((nz 4).bind fun u7 => (chk (h_0 - (Int.tmod h_0 4))).bind fun z9 => (nz 4).bind fun u11 => (nz 4).bind fun u13 => (chk ((Int.tmod h_0 4) + (Int.tmod by_1 4))).bind fun z15 => (chk (z15 + 4)).bind fun z17 => (nz 4).bind fun u19 => (chk (z9 + (Int.tmod z17 4))).bind fun z21 => some z21)

def diagram_spherical_b2 (n : Nat) (d_0_1 : List Int) : Int × (List Bool) → Option ((Int × (List Bool)) ⊕ ((Int × (List Bool))))
  | (v10_2, qf75_2) => (get qf75_2 v10_2).bind fun x138 => cond (!x138) ((get qf75_2 v10_2).bind fun x146 => (get d_0_1 v10_2).bind fun x153 => (F.diagram_Turn n x153 (-1)).bind fun y159 => some (.inl (y159, (qf75_2.set v10_2.toNat true)))) (some (.inr (v10_2, qf75_2)))

def diagram_spherical_b3 (n : Nat) (y8 : (List Int) × Int) (qf26_1 : List Int) : Int → Option ((Int) ⊕ ((Int) ⊕ (Bool)))
  | v75_3 => cond (decide (v75_3 < (((List.replicate y8.2.toNat (0 : Int))).length : Int))) ((get qf26_1 v75_3).bind fun x183 => cond (!(decide (x183 = 2))) (some (.inr (.inr false))) ((chk (v75_3 + 1)).bind fun z192 => some (.inl z192))) (some (.inr (.inl v75_3)))

def diagram_spherical_b1 (n : Nat) (d_0_1 : List Int) (y8 : (List Int) × Int) : Int × (List Int) × (List Bool) → Option ((Int × (List Int) × (List Bool)) ⊕ ((Int × (List Int) × (List Bool))))
  | (v40_1, qf26_1, qf75_1) => cond (decide (v40_1 < (d_0_1.length : Int))) ((get qf75_1 v40_1).bind fun x92 => cond x92 ((chk (v40_1 + 1)).bind fun z99 => some (.inl (z99, qf26_1, qf75_1))) ((nz 4).bind fun u102 => (chk (Int.tdiv v40_1 4)).bind fun z104 => (get y8.1 z104).bind fun x106 => (get qf26_1 x106).bind fun x112 => (chk (x112 + 1)).bind fun z118 => (get qf26_1 x106).bind fun x120 => ((loopN n (F.diagram_spherical_b2 n d_0_1) (v40_1, qf75_1)).bind fun o129 => match o129 with
    | (v10_2, qf75_2) => (chk (v40_1 + 1)).bind fun z165 => some (.inl (z165, (qf26_1.set x106.toNat z118), qf75_2))))) (some (.inr (v40_1, qf26_1, qf75_1)))

def diagram_spherical_b0 (n : Nat) (y8 : (List Int) × Int) : Int × (List Int) → Option ((Int × (List Int)) ⊕ ((Int × (List Int))))
  | (v22_0, qf26_0) => cond (decide (v22_0 < (y8.1.length : Int))) ((get y8.1 v22_0).bind fun x42 => (get qf26_0 x42).bind fun x48 => (chk (x48 - 1)).bind fun z54 => (get qf26_0 x42).bind fun x56 => (chk (v22_0 + 1)).bind fun z63 => some (.inl (z63, (qf26_0.set x42.toNat z54)))) (some (.inr (v22_0, qf26_0)))

def diagram_spherical (n : Nat) (d_0_0 : List Int) (d_0_1 : List Int) (d_0_2 : Int) : Option (Bool) :=
  (F.diagram_label n d_0_0 d_0_1 d_0_2).bind fun y8 => (pos y8.2).bind fun u19 => ((loopN n (F.diagram_spherical_b0 n y8) (0, (List.replicate y8.2.toNat (0 : Int)))).bind fun o30 => match o30 with
    | (v22_0, qf26_0) => (pos (d_0_1.length : Int)).bind fun u68 => ((loopN n (F.diagram_spherical_b1 n d_0_1 y8) (0, qf26_0, (List.replicate (d_0_1.length : Int).toNat false))).bind fun o78 => match o78 with
    | (v40_1, qf26_1, qf75_1) => ((loopN n (F.diagram_spherical_b3 n y8 qf26_1) 0).bind fun o171 => match o171 with
    | (.inl v75_3) => some true
    | (.inr q) => some q)))

def diagram_Valid_b1 (n : Nat) (d_0_0 : List Int) (d_0_1 : List Int) (d_0_2 : Int) : Int → Option ((Int) ⊕ ((Int) ⊕ (Bool)))
  | v48_1 => cond (decide (v48_1 < (d_0_1.length : Int))) ((get d_0_1 v48_1).bind fun x65 => cond (decide (x65 < 0)) (some (.inr (.inr false))) ((chk (4 * (d_0_0.length : Int))).bind fun z75 => cond (decide (z75 ≤ x65)) (some (.inr (.inr false))) (cond (decide (x65 = v48_1)) (some (.inr (.inr false))) ((get d_0_1 x65).bind fun x81 => cond (!(decide (x81 = v48_1))) (some (.inr (.inr false))) ((F.diagram_outgoing n d_0_0 d_0_1 d_0_2 v48_1).bind fun y93 => (F.diagram_outgoing n d_0_0 d_0_1 d_0_2 x65).bind fun y96 => cond (y93 == y96) (some (.inr (.inr false))) ((chk (v48_1 + 1)).bind fun z101 => some (.inl z101))))))) (some (.inr (.inl v48_1)))

def diagram_Valid_b0 (n : Nat) (d_0_0 : List Int) : Int → Option ((Int) ⊕ ((Int) ⊕ (Bool)))
  | v34_0 => cond (decide (v34_0 < (d_0_0.length : Int))) ((get d_0_0 v34_0).bind fun x35 => cond (!(decide (x35 = 1))) (cond (!(decide (x35 = (-1)))) (some (.inr (.inr false))) ((chk (v34_0 + 1)).bind fun z45 => some (.inl z45))) ((chk (v34_0 + 1)).bind fun z47 => some (.inl z47))) (some (.inr (.inl v34_0)))

def diagram_Valid (n : Nat) (d_0_0 : List Int) (d_0_1 : List Int) (d_0_2 : Int) : Option (Bool) :=
  cond (decide (64 < (d_0_0.length : Int))) (some false) ((chk (4 * (d_0_0.length : Int))).bind fun z12 => cond (!(decide ((d_0_1.length : Int) = z12))) (some false) (cond (decide (d_0_2 < 0)) (some false) (cond (decide (64 < d_0_2)) (some false) (((loopN n (F.diagram_Valid_b0 n d_0_0) 0).bind fun o23 => match o23 with
    | (.inl v34_0) => ((loopN n (F.diagram_Valid_b1 n d_0_0 d_0_1 d_0_2) 0).bind fun o53 => match o53 with
    | (.inl v48_1) => (F.diagram_spherical n d_0_0 d_0_1 d_0_2).bind fun y106 => some y106
    | (.inr q) => some q)
    | (.inr q) => some q)))))


def diagram_Strands_c1 (n : Nat) (h_0 : Int) (u_1_0 : List Int) (u_1_1 : List Int) (u_1_2 : Int) : Option (Bool) :=
  (F.diagram_outgoing n u_1_0 u_1_1 u_1_2 h_0).bind fun y6 => some y6


def diagram_Opposite (n : Nat) (h_0 : Int) : Option (Int) :=
  (F.diagram_Turn n h_0 2).bind fun y3 => some y3


def diagram_Strands_c2 (n : Nat) (h_0 : Int) (u_1_0 : List Int) (u_1_1 : List Int) (u_1_2 : Int) : Option (Int) :=
  (get u_1_1 h_0).bind fun x6 => (F.diagram_Opposite n x6).bind fun y12 => some y12

def diagram_cycle_diagram_Strands_c2_b0 (n : Nat) (start_0 : Int) (next_1_0_0 : List Int) (next_1_0_1 : List Int) (next_1_0_2 : Int) : (List Int) × Int → Option (((List Int) × Int) ⊕ (((List Int) × Int)))
  | (l5_0, v6_0) => cond (!(decide (v6_0 = start_0))) ((lim (l5_0.length + ([v6_0] : List Int).length)).bind fun u35 => (F.diagram_Strands_c2 n v6_0 next_1_0_0 next_1_0_1 next_1_0_2).bind fun y42 => some (.inl ((l5_0 ++ ([v6_0] : List Int)), y42))) (some (.inr (l5_0, v6_0)))

def diagram_cycle_diagram_Strands_c2 (n : Nat) (start_0 : Int) (next_1_0_0 : List Int) (next_1_0_1 : List Int) (next_1_0_2 : Int) : Option ((List Int)) :=
  (F.diagram_Strands_c2 n start_0 next_1_0_0 next_1_0_1 next_1_0_2).bind fun y14 => ((loopN n (F.diagram_cycle_diagram_Strands_c2_b0 n start_0 next_1_0_0 next_1_0_1 next_1_0_2) (([start_0] : List Int), y14)).bind fun o18 => match o18 with
    | (l5_0, v6_0) => some l5_0)

def diagram_cycles_diagram_Strands_c1_diagram_Strands_c2_b1 (n : Nat) (y49 : (List Int)) : Int × (List Bool) → Option ((Int × (List Bool)) ⊕ ((Int × (List Bool))))
  | (v34_1, qf14_1) => cond (decide (v34_1 < (y49.length : Int))) ((get y49 v34_1).bind fun x72 => (get qf14_1 x72).bind fun x78 => (chk (v34_1 + 1)).bind fun z85 => some (.inl (z85, (qf14_1.set x72.toNat true)))) (some (.inr (v34_1, qf14_1)))

def diagram_cycles_diagram_Strands_c1_diagram_Strands_c2_b0 (n : Nat) (count_0 : Int) (wanted_1_0_0 : List Int) (wanted_1_0_1 : List Int) (wanted_1_0_2 : Int) : (List (List Int)) × Int × (List Bool) → Option (((List (List Int)) × Int × (List Bool)) ⊕ (((List (List Int)) × Int × (List Bool))))
  | (l7_0, v16_0, qf14_0) => cond (decide (v16_0 < count_0)) ((get qf14_0 v16_0).bind fun x32 => cond x32 ((chk (v16_0 + 1)).bind fun z39 => some (.inl (l7_0, z39, qf14_0))) ((F.diagram_Strands_c1 n v16_0 wanted_1_0_0 wanted_1_0_1 wanted_1_0_2).bind fun y41 => cond (!y41) ((chk (v16_0 + 1)).bind fun z45 => some (.inl (l7_0, z45, qf14_0))) ((F.diagram_cycle_diagram_Strands_c2 n v16_0 wanted_1_0_0 wanted_1_0_1 wanted_1_0_2).bind fun y49 => ((loopN n (F.diagram_cycles_diagram_Strands_c1_diagram_Strands_c2_b1 n y49) (0, qf14_0)).bind fun o60 => match o60 with
    | (v34_1, qf14_1) => (lim (l7_0.length + ([y49] : List (List Int)).length)).bind fun u95 => (chk (v16_0 + 1)).bind fun z102 => some (.inl ((l7_0 ++ ([y49] : List (List Int))), z102, qf14_1)))))) (some (.inr (l7_0, v16_0, qf14_0)))

def diagram_cycles_diagram_Strands_c1_diagram_Strands_c2 (n : Nat) (count_0 : Int) (wanted_1_0_0 : List Int) (wanted_1_0_1 : List Int) (wanted_1_0_2 : Int) : Option ((List (List Int))) :=
  (pos count_0).bind fun u7 => ((loopN n (F.diagram_cycles_diagram_Strands_c1_diagram_Strands_c2_b0 n count_0 wanted_1_0_0 wanted_1_0_1 wanted_1_0_2) (([] : List (List Int)), 0, (List.replicate count_0.toNat false))).bind fun o18 => match o18 with
    | (l7_0, v16_0, qf14_0) => some l7_0)


def diagram_Strands (n : Nat) (d_0_0 : List Int) (d_0_1 : List Int) (d_0_2 : Int) : Option ((List (List Int))) :=
  (F.diagram_Valid n d_0_0 d_0_1 d_0_2).bind fun y9 => cond (!y9) (some ([])) ((F.diagram_cycles_diagram_Strands_c1_diagram_Strands_c2 n (d_0_1.length : Int) d_0_0 d_0_1 d_0_2).bind fun y17 => some y17)


def diagram_Components (n : Nat) (d_0_0 : List Int) (d_0_1 : List Int) (d_0_2 : Int) : Option (Int) :=
  (F.diagram_Valid n d_0_0 d_0_1 d_0_2).bind fun y9 => cond (!y9) (some 0) ((F.diagram_Strands n d_0_0 d_0_1 d_0_2).bind fun y17 => (chk ((y17.length : Int) + d_0_2)).bind fun z26 => some z26)

def grid_Components_b1 (n : Nat) (g_0_1 : List Int) (y15 : (List Int)) : Int × (List Bool) → Option ((Int × (List Bool)) ⊕ ((Int × (List Bool))))
  | (v6_1, qf34_1) => (get qf34_1 v6_1).bind fun x75 => cond (!x75) ((get qf34_1 v6_1).bind fun x83 => (get g_0_1 v6_1).bind fun x90 => (F.grid_columns_c1 n x90 y15).bind fun y96 => some (.inl (y96, (qf34_1.set v6_1.toNat true)))) (some (.inr (v6_1, qf34_1)))

def grid_Components_b0 (n : Nat) (g_0_0 : List Int) (g_0_1 : List Int) (y15 : (List Int)) : Int × Int × (List Bool) → Option ((Int × Int × (List Bool)) ⊕ ((Int × Int × (List Bool))))
  | (v5_0, v20_0, qf34_0) => cond (decide (v20_0 < (g_0_0.length : Int))) ((get qf34_0 v20_0).bind fun x53 => cond x53 ((chk (v20_0 + 1)).bind fun z60 => some (.inl (v5_0, z60, qf34_0))) ((chk (v5_0 + 1)).bind fun z63 => ((loopN n (F.grid_Components_b1 n g_0_1 y15) (v20_0, qf34_0)).bind fun o66 => match o66 with
    | (v6_1, qf34_1) => (chk (v20_0 + 1)).bind fun z102 => some (.inl (z63, z102, qf34_1))))) (some (.inr (v5_0, v20_0, qf34_0)))

def grid_Components (n : Nat) (g_0_0 : List Int) (g_0_1 : List Int) : Option (Int) :=
  (F.grid_Valid n g_0_0 g_0_1).bind fun y9 => cond (!y9) (some 0) ((F.grid_columns n g_0_0).bind fun y15 => (pos (g_0_0.length : Int)).bind fun u27 => ((loopN n (F.grid_Components_b0 n g_0_0 g_0_1 y15) (0, 0, (List.replicate (g_0_0.length : Int).toNat false))).bind fun o39 => match o39 with
    | (v5_0, v20_0, qf34_0) => some v5_0))


def law44_GridlinkValid (n : Nat) (g_0_0 : List Int) (g_0_1 : List Int) : Option (Bool) :=
  (F.law44_awake n).bind fun y9 => cond (!y9) (some false) ((F.law44_small n g_0_0 g_0_1).bind fun y16 => cond (decide (y16 = 0)) (some true) ((F.grid_Valid n g_0_0 g_0_1).bind fun y22 => cond (!y22) (some true) ((F.gridlink_Diagram n g_0_0 g_0_1).bind fun y29 => cond (decide (y29.2.2.2 = 5)) ((F.grid_Crossings n g_0_0 g_0_1).bind fun y54 => some (decide (64 < (y54.length : Int)))) (cond (decide (y29.2.2.2 = 0)) ((F.diagram_Valid n y29.1 y29.2.1 y29.2.2.1).bind fun y67 => cond y67 ((F.grid_Crossings n g_0_0 g_0_1).bind fun y71 => cond (decide ((y29.1.length : Int) = (y71.length : Int))) ((F.diagram_Components n y29.1 y29.2.1 y29.2.2.1).bind fun y81 => (F.grid_Components n g_0_0 g_0_1).bind fun y85 => some (decide (y81 = y85))) (some false)) (some false)) (some false)))))

end F
end Go.Proofs.Yticemffhlapnnaa
