/- Arrays; components of boxes and of elements. -/
import Derived.Test.YtmlkiafidahnbaaMore
import Derived.ChangeKeysEq
set_option linter.unusedVariables false
namespace Go.Proofs.Ytmlkiafidahnbaa
namespace Ev
theorem chunk_ne {i j n o q : Nat} (h : j ≠ i) (ho : o < n) (hq : q < n) : i * n + o ≠ j * n + q := by
 intro e
 rcases Nat.lt_or_ge i j with hij | hij
 ·
  have := Nat.mul_le_mul_right n (show i + 1 ≤ j by omega)
  rw [Nat.succ_mul] at this; omega
 ·
  have := Nat.mul_le_mul_right n (show j + 1 ≤ i by omega)
  rw [Nat.succ_mul] at this; omega
theorem set_chunk {α : Type} {cs : List α} {i n o : Nat} {u : α} (ho : o < n) (j : Nat) : ((cs.set (i * n + o) u).drop (j * n)).take n = if j = i then ((cs.drop (i * n)).take n).set o u else (cs.drop (j * n)).take n := by
 apply List.ext_getElem?
 intro q
 by_cases hj : j = i
 ·
  rw [if_pos hj]
  subst hj
  rcases Nat.lt_or_ge q n with hq | hq
  ·
   rw [List.getElem?_take_of_lt hq, List.getElem?_drop, List.getElem?_set, List.getElem?_set]
   by_cases e : o = q
   ·
    subst e
    rw [if_pos rfl, if_pos rfl, List.length_take, List.length_drop]
    by_cases h : j * n + o < cs.length
    · rw [if_pos h, if_pos (by omega)]
    · rw [if_neg h, if_neg (by omega)]
   · rw [if_neg (by omega), if_neg e, List.getElem?_take_of_lt hq, List.getElem?_drop]
  · rw [List.getElem?_eq_none (by rw [List.length_take]; omega), List.getElem?_eq_none (by rw [List.length_set, List.length_take]; omega)]
 ·
  rw [if_neg hj]
  rcases Nat.lt_or_ge q n with hq | hq
  · rw [List.getElem?_take_of_lt hq, List.getElem?_take_of_lt hq, List.getElem?_drop, List.getElem?_drop, List.getElem?_set_ne (chunk_ne hj ho hq)]
  · rw [List.getElem?_eq_none (by rw [List.length_take]; omega), List.getElem?_eq_none (by rw [List.length_take]; omega)]
theorem store_at {O : List Nat} {w : World} {e : TypeId} {s : Sh} {A : Option Addr} {m c : Nat} {xs : List s.T} {G : Option Nat} (hown : Own O w e s (.slice A m c) xs G) (hG : ∀ g, G = some g → g ∈ O)
  {i o : Nat} (hi : i < xs.length) (ho : o < s.n) (u : Value) :
  ∃ (ad : Addr) (cs0 : List Value), A = some ad ∧ cs0.length = s.n ∧ (∀ j v, cs0[j]? = some v → w.cell? ((ad.add (i * s.n)).add j) = some v) ∧ w.frozen? ((ad.add (i * s.n)).add o) = false ∧
   Fr (fun k => G = some k) w (w.setCell ((ad.add (i * s.n)).add o) u) ∧ ∀ x : s.T, Rep O w s (cs0.set o u) x → Own O (w.setCell ((ad.add (i * s.n)).add o) u) e s (.slice A m c) (xs.set i x) G := by
 obtain ⟨cs, h1, h2⟩ := hown
 rcases h1.2 with ⟨h0, h00, _⟩ | ⟨g, b, cap, cur, hv, hg, hb, hnc, hcm, hsz, ht⟩
 · omega
 ·
  injection hv with hA hm hc
  subst hA hm hc hg
  have hin : i * s.n + s.n ≤ xs.length * s.n := by
   have := Nat.mul_le_mul_right s.n (show i + 1 ≤ xs.length by omega)
   rwa [Nat.succ_mul] at this
  have hcn : xs.length * s.n ≤ c * s.n := Nat.mul_le_mul_right s.n hnc
  have hfr : Fr (fun k => some g = some k) w (w.setCell ⟨g, b + i * s.n + o, none⟩ u) := Fr.setCell (S := fun k => some g = some k) w (.inl rfl) u
  have hcell : ∀ p, p < xs.length * s.n → cur[b + p]? = cs[p]? := fun p hp => by
   have : ((cur.toList.drop b).take (xs.length * s.n))[p]? = cs[p]? := by rw [ht]
   rw [List.getElem?_take_of_lt hp, List.getElem?_drop] at this
   rw [← this]; simp
  refine ⟨⟨g, b, none⟩, (cs.drop (i * s.n)).take s.n, rfl, ?_, fun j v hj => ?_, ?_, ?_, fun x hx => ?_⟩
  · rw [List.length_take, List.length_drop, h1.1]; omega
  ·
   rw [add_lit, add_lit, cell_of_row w g _ cur e (0, 0) hb]
   have hjn : j < s.n := by
    have := (List.getElem?_eq_some_iff.1 hj).1
    rw [List.length_take] at this; omega
   rw [List.getElem?_take_of_lt hjn, List.getElem?_drop] at hj
   rw [Nat.add_assoc, hcell _ (by omega)]
   exact hj
  · rw [add_lit, add_lit]; exact frozen_of_row w g _ cur e hb
  · rw [add_lit, add_lit]; exact hfr
  ·
   rw [add_lit, add_lit]
   refine ⟨cs.set (i * s.n + o) u, ⟨by rw [List.length_set, List.length_set]; exact h1.1, .inr ⟨g, b, c, cur.setIfInBounds (b + i * s.n + o) u, by rw [List.length_set], rfl, ?_, by rw [List.length_set]; exact hnc, hcm, by simpa using hsz, ?_⟩⟩, by rw [List.length_set, List.length_set]; exact h2.1, fun j y hj => ?_⟩
   · rw [setCell_eq_setRow w g (b + i * s.n + o) cur e (0, 0) u hb]; exact setRow_heap w g cur _ e _ hb
   ·
    rw [List.length_set]
    apply List.ext_getElem?
    intro p
    rcases Nat.lt_or_ge p (xs.length * s.n) with hp | hp
    ·
     rw [List.getElem?_take_of_lt hp, List.getElem?_drop, Array.toList_setIfInBounds, List.getElem?_set, List.getElem?_set]
     have hs : b + p < cur.size := by omega
     have hc2 := hcell p hp
     by_cases e : i * s.n + o = p
     ·
      subst e
      rw [if_pos (by omega), if_pos rfl, if_pos (by rw [Array.length_toList]; omega), if_pos (by rw [h1.1]; omega)]
     · rw [if_neg (by omega), if_neg e, ← hc2]; simp
    · rw [List.getElem?_eq_none (by rw [List.length_take]; omega), List.getElem?_eq_none (by rw [List.length_set, h1.1]; omega)]
   ·
    rw [set_chunk ho j]
    have hfr' : Fr (fun k => some g = some k) w (w.setCell ⟨g, b + i * s.n + o, none⟩ u) := hfr
    rw [List.getElem?_set] at hj
    by_cases e : i = j
    ·
     subst e
     rw [if_pos rfl, if_pos hi] at hj
     obtain rfl := Option.some.inj hj
     rw [if_pos rfl]
     exact Rep.fr hfr' (fun k hk => hG k hk) hx
    ·
     rw [if_neg e] at hj
     rw [if_neg (Ne.symm e)]
     exact Rep.fr hfr' (fun k hk => hG k hk) (h2.2 j y hj)
section
variable {P : Program} {ρ : Operand → Value} {d : Option Tmp} {ty : TypeId} {pos : String} {af : Array Edge} {gd : Option (Nat × Bool)} {x y : Operand}
variable {I : Nat → Prop} {O0 : List Nat} {w0 w : World} {L : List Fact}
/-- A component of an element turns. -/
theorem Cx.putAt (h : Cx I O0 w0 w L) {i : Nat} {e te : TypeId} {s : Sh} {ad : Addr} {m c : Nat} {xs : List s.T} (hi : L[i]? = some (.own te s (.slice (some ad) m c) xs)) (hs : ∀ w, (sizeOf e).run P w = .ok 1 w)
  {k o : Nat} {a0 a : s.T} (hk : xs[k]? = some a0) {cs0 : List Value} (hl0 : cs0.length = s.n) (hc0 : ∀ j u, cs0[j]? = some u → w.cell? ((ad.add (k * s.n)).add j) = some u) (ho : o < s.n) {u : Value} (h1 : u.oneCell' = true)
  (hu : Rep (O0 ++ blocks L) w s (cs0.set o u) a) (hx : ρ x = .pointer (some ((ad.add (k * s.n)).add o))) (hy : ρ y = u) :
  Sk P ρ ⟨d, .store e x y, ty, pos, af, gd⟩ w fun w' => Cx I O0 w0 w' (L.set i (.own te s (.slice (some ad) m c) (xs.set k a))) ∧ Fr (fun k => blkOf (.slice (some ad) m c) = some k) w w' := by
 have hown : Own (O0 ++ blocks L) w te s (.slice (some ad) m c) xs (blkOf (.slice (some ad) m c)) := h.at_ hi
 have hmem : ∀ g, blkOf (.slice (some ad) m c) = some g → g ∈ O0 ++ blocks L := fun g hg => List.mem_append_right _ (List.mem_filterMap.2 ⟨_, List.mem_of_getElem? hi, hg⟩)
 obtain ⟨ad', cs1, hA', hl, hc, hf, hfr, hnew⟩ := store_at hown hmem (List.getElem?_eq_some_iff.1 hk).1 ho u
 have : ad' = ad := by injection hA' with hA'; exact hA'.symm
 subst this
 have e1 : cs0 = cs1 := by
  apply List.ext_getElem
  · omega
  ·
   intro j hj1 hj2
   have a1 := hc0 j _ (List.getElem?_eq_getElem hj1)
   have a2 := hc j _ (List.getElem?_eq_getElem hj2)
   rw [a1] at a2
   exact Option.some.inj a2
 subst e1
 have hcell : w.cell? ((ad'.add (k * s.n)).add o) = some (cs0[o]'(by omega)) := hc o _ (List.getElem?_eq_getElem _)
 refine ⟨_, st_one hs h1 hx hy hcell hf, h.turn hi hfr (.inl rfl) fun O hO => ?_, hfr⟩
 refine (Own.step (O := O0 ++ blocks L) (S := fun _ => False) (hnew a hu) (Fr.refl _ _) (fun _ h => h.elim) (fun k hk => ?_) (fun _ _ h => h))
 rcases hO k hk with h2 | h2
 · exact .inl h2
 · exact .inr (by simpa using h2)
/-! Arrays. -/
theorem pu_builda {ps : Array (Nat × Operand)} {pv : List (Nat × Value)} {cs : Array Value} {t1 e : TypeId} {k sz : Nat} {it ie : TypeInfo} {z : Value}
  (hi : P.info? t1 = some it) (hu : P.underlying t1 = some (.array k e)) (hz : it.zero = some z) (he : P.info? e = some ie) (hsz : ie.size = sz)
  (hv : ps.toList.map (fun p => (p.1, ρ p.2)) = pv) (h : Instr.fill (fun i => some (i * sz, sz)) z.cells pv = some cs) : Pu P ρ ⟨d, .build t1 ps, ty, pos, af, gd⟩ (.agg cs) := pu_build (by
 subst hsz
 simp only [Program.built, hi, hu, hz, he]
 subst hv
 simpa using h)
theorem pu_ixa {t1 e : TypeId} {k sz : Nat} {A : Addr} {a : Int} (ht : P.underlying t1 = some (.array k e)) (hs : ∀ w, (sizeOf e).run P w = .ok sz w) (hx : ρ x = .pointer (some A)) (hy : ρ y = .int .i64 a) (h : 0 ≤ a ∧ a < (k : Int)) :
  Pu P ρ ⟨d, .indexAddr t1 x y, ty, pos, af, gd⟩ (.pointer (some (A.add (a.toNat * sz)))) := fun w => by
 unfold Yv
 simp [execOp, hx, hy, Instr.indexAt, Instr.sureAddr, asIntOf, run_underlying ht, hs, h]
theorem pu_ix1 {t1 e : TypeId} {k : Nat} {a : Int} {cs : Array Value} {v : Value} (ht : P.underlying t1 = some (.array k e)) (hs : ∀ w, (sizeOf e).run P w = .ok 1 w) (hg : ∀ w, (isAgg e).run P w = .ok false w) (hx : ρ x = .agg cs) (hy : ρ y = .int .i64 a) (h : 0 ≤ a ∧ a < (k : Int)) (hc : cs[a.toNat]? = some v) :
  Pu P ρ ⟨d, .index t1 x y, ty, pos, af, gd⟩ v := fun w => by
 unfold Yv
 simp [execOp, hx, hy, Instr.index, asIntOf, run_underlying ht, hs, hg, h, part, hc]
theorem pu_ixn {t1 e : TypeId} {k sz : Nat} {a : Int} {cs : Array Value} (ht : P.underlying t1 = some (.array k e)) (hs : ∀ w, (sizeOf e).run P w = .ok sz w) (hg : ∀ w, (isAgg e).run P w = .ok true w) (hx : ρ x = .agg cs) (hy : ρ y = .int .i64 a) (h : 0 ≤ a ∧ a < (k : Int)) :
  Pu P ρ ⟨d, .index t1 x y, ty, pos, af, gd⟩ (.agg (cs.extract (a.toNat * sz) (a.toNat * sz + sz))) := fun w => by
 unfold Yv
 simp [execOp, hx, hy, Instr.index, asIntOf, run_underlying ht, hs, hg, h, part]
theorem flat_drop {α β : Type} {enc : α → List β} {n : Nat} : ∀ {l : List α} {i : Nat} {q : α}, (∀ x ∈ l, (enc x).length = n) → l[i]? = some q → ((l.flatMap enc).drop (i * n)).take n = enc q
 | [], i, q, _, h => by simp at h
 | b :: l, 0, q, hl, h => by
  simp at h; subst h
  have hb := hl b (by simp)
  rw [Nat.zero_mul, List.drop_zero, List.flatMap_cons, List.take_append_of_le_length (by omega), List.take_of_length_le (by omega)]
 | b :: l, i + 1, q, hl, h => by
  have hb := hl b (by simp)
  have ih := flat_drop (l := l) (i := i) (q := q) (fun x hx => hl x (by simp [hx])) (by simpa using h)
  have e : (enc b ++ l.flatMap enc).drop n = l.flatMap enc := by rw [← hb]; exact List.drop_left
  rw [List.flatMap_cons, Nat.succ_mul, Nat.add_comm, ← List.drop_drop, e]
  exact ih
theorem flat_at {α : Type} {enc : α → List Value} {n : Nat} {l : List α} {i : Nat} {q : α} (hl : ∀ x ∈ l, (enc x).length = n) (h : l[i]? = some q) : (l.flatMap enc).toArray.extract (i * n) (i * n + n) = (enc q).toArray := by
 rw [← flat_drop hl h, List.extract_toArray]
 congr 1
 rw [List.extract_eq_take_drop, Nat.add_sub_cancel_left]
/-- A part of a box. -/
theorem ld_part {e te : TypeId} {gb o n : Nat} {cs ds : List Value} {w : World} (hb : Blk w gb te cs) (hg : ∀ w, (isAgg e).run P w = .ok true w) (hs : ∀ w, (sizeOf e).run P w = .ok n w) (hd : (cs.drop o).take n = ds) (hl : ds.length = n) (hx : ρ x = .pointer (some ((⟨gb, 0, none⟩ : Addr).add o))) :
  Yv P ρ ⟨d, .load e x, ty, pos, af, gd⟩ w (.agg ds.toArray) := ld_agg hg hs hx hl fun j u hu => by
 have hj : j < n := by have := (List.getElem?_eq_some_iff.1 hu).1; omega
 rw [← hd, List.getElem?_take_of_lt hj, List.getElem?_drop] at hu
 have := hb.cell hu
 rw [add_lit] at this
 rw [add_lit, add_lit, Nat.add_assoc]
 exact this
theorem sub_cells {A : Addr} {o n : Nat} {cs ds : List Value} {w : World} (hc : ∀ j u, cs[j]? = some u → w.cell? (A.add j) = some u) (hd : (cs.drop o).take n = ds) (hl : ds.length = n) : ∀ j u, ds[j]? = some u → w.cell? ((A.add o).add j) = some u := fun j u hu => by
 have hj : j < n := by have := (List.getElem?_eq_some_iff.1 hu).1; omega
 rw [← hd, List.getElem?_take_of_lt hj, List.getElem?_drop] at hu
 rw [add_add]
 exact hc _ _ hu
theorem ixa_int {k : IntKind} {ds : List Int} {i : Nat} {q : Int} (h : ds[i]? = some q) : ((ds.map (Value.int k)).toArray)[i]? = some (.int k q) := by simp [h]
theorem all_get {α : Type} {p : α → Prop} {ds : List α} {i : Int} {q : α} (h : ∀ x ∈ ds, p x) (hg : get ds i = some q) : p q := h q (List.mem_of_getElem? (get_some hg).2)
theorem eqI_nil {k : Nat} {e : TypeId} {c : Nat} {xs ys : Array Value} (w : World) : (Op.eqItems (k + 1) e c xs ys []).run P w = .ok true w := by simp [Op.eqItems]
theorem eqI_cons {e : TypeId} {k j : Nat} {js : List Nat} {kd : IntKind} {xs ys : Array Value} {a b : Int} {q : Bool} (hu : P.underlying e = some (.int kd)) (ha : ∀ w, (isAgg e).run P w = .ok false w)
  (hx : xs[j * 1]? = some (.int kd a)) (hy : ys[j * 1]? = some (.int kd b)) (h : ∀ w, (Op.eqItems (k + 1) e 1 xs ys js).run P w = .ok q w) (w : World) : (Op.eqItems (k + 1) e 1 xs ys (j :: js)).run P w = .ok (decide (a = b) && q) w := by
 simp only [Op.eqItems, Sem.run_bind, part_one ha hx, part_one ha hy, Result.andThen_ok, run_equalIn_int w k e kd kd a b hu]
 by_cases e : a = b
 · simp [e, h]
 · simp [e]
theorem pu_eqla {t1 t2 e : TypeId} {n c : Nat} {it : TypeInfo} {xs ys : Array Value} {js : List Nat} {q : Bool} (ht : P.underlying t1 = some (.array n e)) (hi : P.info? e = some it) (hm : P.eqGuardType P.depth t1 = false) (hc : P.cellsOf e = c) (hj : List.range n = js) (hx : ρ x = .agg xs) (hy : ρ y = .agg ys)
  (h : ∀ w, (Op.eqItems 9999 e c xs ys js).run P w = .ok q w) : Pu P ρ ⟨d, .binOp .eql t1 x y t2, ty, pos, af, gd⟩ (.bool q) := fun w => by
 have h1 := run_equalIn_array (P := P) w 9999 xs ys ht hi
 rw [hc, hj, h] at h1
 unfold Yv
 simp [execOp, hx, hy, run_eqGuard_agg w .eql t1 x y xs ys hm, run_eql_struct, h1]
theorem get_nn {α : Type} {xs : List α} {i : Int} {q : α} (h : get xs i = some q) : 0 ≤ i := by
 unfold get at h
 split at h
 · assumption
 · cases h
theorem kv_nil {ρ : Operand → Value} : ([] : List (Nat × Operand)).map (fun p => (p.1, ρ p.2)) = [] := rfl
theorem kv_cons {ρ : Operand → Value} {i : Nat} {q : Operand} {v : Value} {l : List (Nat × Operand)} {r : List (Nat × Value)} (h : ρ q = v) (hr : l.map (fun p => (p.1, ρ p.2)) = r) : ((i, q) :: l).map (fun p => (p.1, ρ p.2)) = (i, v) :: r := by rw [List.map_cons, h, hr]
theorem pu_ixs {t1 e : TypeId} {k sz : Nat} {a : Int} {α : Type} {ds : List α} {enc : α → List Value} {q : α} {vs : Array Value} (ht : P.underlying t1 = some (.array k e)) (hs : ∀ w, (sizeOf e).run P w = .ok sz w) (hg : ∀ w, (isAgg e).run P w = .ok true w) (hx : ρ x = .agg (ds.flatMap enc).toArray) (hy : ρ y = .int .i64 a) (h : 0 ≤ a ∧ a < (k : Int))
  (hl : ∀ b ∈ ds, (enc b).length = sz) (hq : ds[a.toNat]? = some q) (hv : (enc q).toArray = vs) : Pu P ρ ⟨d, .index t1 x y, ty, pos, af, gd⟩ (.agg vs) := by
 subst hv
 have := pu_ixn (d := d) (ty := ty) (pos := pos) (af := af) (gd := gd) ht hs hg hx hy h
 rwa [flat_at hl hq] at this
theorem flat_dt {α : Type} {enc : α → List Value} {sz : Nat} : ∀ {ds : List α} {k : Nat} {q : α}, (∀ b ∈ ds, (enc b).length = sz) → ds[k]? = some q → ((ds.flatMap enc).drop (k * sz)).take sz = enc q
 | [], k, q, _, h => by simp at h
 | b :: ds, 0, q, hl, h => by
  obtain rfl := Option.some.inj h
  rw [Nat.zero_mul, List.drop_zero, List.flatMap_cons, List.take_left' (hl b (by simp))]
 | b :: ds, k + 1, q, hl, h => by
  rw [List.flatMap_cons, Nat.succ_mul, Nat.add_comm, ← List.drop_drop, List.drop_left' (hl b (by simp))]
  exact flat_dt (fun c hc => hl c (by simp [hc])) (by simpa using h)
theorem pu_max3 {ts : Array TypeId} {a b c : Int} {z : Operand} (hx : ρ x = .int .i64 a) (hy : ρ y = .int .i64 b) (hz : ρ z = .int .i64 c) :
  Pu P ρ ⟨d, .call { callee := .builtin .max, args := #[x, y, z], argTypes := ts }, ty, pos, af, gd⟩ (.int .i64 (max (max a b) c)) := fun w => by
 unfold Yv
 simp [execOp, resolve, invoke, builtin, hx, hy, hz, Builtin.max_, Builtin.max2]
 (repeat' split) <;> omega
theorem pu_min3 {ts : Array TypeId} {a b c : Int} {z : Operand} (hx : ρ x = .int .i64 a) (hy : ρ y = .int .i64 b) (hz : ρ z = .int .i64 c) :
  Pu P ρ ⟨d, .call { callee := .builtin .min, args := #[x, y, z], argTypes := ts }, ty, pos, af, gd⟩ (.int .i64 (min (min a b) c)) := fun w => by
 unfold Yv
 simp [execOp, resolve, invoke, builtin, hx, hy, hz, Builtin.min_, Builtin.min2]
 (repeat' split) <;> omega
end
end Ev
end Go.Proofs.Ytmlkiafidahnbaa
