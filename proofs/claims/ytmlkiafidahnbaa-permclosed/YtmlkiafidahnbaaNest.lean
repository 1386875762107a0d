/- Lists of rows whose rows turn in place: one own fact for each row, in a tail of the facts. -/
import Derived.Test.YtmlkiafidahnbaaCall
set_option linter.unusedVariables false
namespace Go.Proofs.Ytmlkiafidahnbaa
namespace Ev
def rowsF (e : TypeId) (s : Sh) (hs : List Value) (xss : List (List s.T)) : List Fact := List.zipWith (fun h x => .own e s h x) hs xss
section
variable {I : Nat → Prop} {O0 : List Nat} {w0 w w' : World} {L L1 L2 L' : List Fact} {e : TypeId} {s : Sh} {hs : List Value} {xss : List (List s.T)}
theorem rowsF_get (h1 : hs.length = xss.length) {i : Nat} {x : List s.T} (hx : xss[i]? = some x) : ∃ h, hs[i]? = some h ∧ (rowsF e s hs xss)[i]? = some (.own e s h x) := by
 have hlt := (List.getElem?_eq_some_iff.1 hx).1
 refine ⟨hs[i], List.getElem?_eq_getElem (by omega), ?_⟩
 unfold rowsF
 rw [List.getElem?_zipWith, hx, List.getElem?_eq_getElem (by omega)]
theorem rowsF_set {i : Nat} {h : Value} {x' : List s.T} (hh : hs[i]? = some h) : (rowsF e s hs xss).set i (.own e s h x') = rowsF e s hs (xss.set i x') := by
 unfold rowsF
 induction hs generalizing i xss with
 | nil => simp at hh
 | cons a hs ih =>
  cases xss with
  | nil => simp
  | cons b xss =>
   cases i with
   | zero => simp at hh; subst hh; simp
   | succ i => simp at hh; simpa using ih hh
theorem rowsF_app (hl : hs.length = xss.length) (h : Value) (x : List s.T) : rowsF e s hs xss ++ [.own e s h x] = rowsF e s (hs ++ [h]) (xss ++ [x]) := by
 unfold rowsF
 rw [List.zipWith_append hl]
 rfl
theorem rowsF_take (k : Nat) : (rowsF e s hs xss).take k = rowsF e s (hs.take k) (xss.take k) := by
 unfold rowsF; rw [List.take_zipWith]
theorem rowsF_drop (k : Nat) : (rowsF e s hs xss).drop k = rowsF e s (hs.drop k) (xss.drop k) := by
 unfold rowsF; rw [List.drop_zipWith]
/-- Fewer facts. -/
theorem Cx.sublist (h : Cx I O0 w0 w L) (hs : L'.Sublist L) : Cx I O0 w0 w L' := by
 have hb : (blocks L').Sublist (blocks L) := hs.filterMap _
 have ho : ∀ k ∈ O0 ++ blocks L', k ∈ O0 ++ blocks L ∨ w.heap.size ≤ k := fun k hk => .inl (by
  rcases List.mem_append.1 hk with h1 | h1
  · exact List.mem_append_left _ h1
  · exact List.mem_append_right _ (hb.subset h1))
 exact ⟨h.fr, h.lt0, hb.nodup h.nd, fun k hk => h.fresh k (hb.subset hk), fun f hf => Fact.step (Fr.refl (fun _ => False) w) (fun _ h => h.elim) ho (h.all f (hs.subset hf)) (fun _ _ h => h)⟩
/-- The facts in another order. -/
theorem Cx.perm (h : Cx I O0 w0 w L) (hp : L'.Perm L) : Cx I O0 w0 w L' := by
 have hb : (blocks L').Perm (blocks L) := hp.filterMap _
 have ho : ∀ k ∈ O0 ++ blocks L', k ∈ O0 ++ blocks L ∨ w.heap.size ≤ k := fun k hk => .inl (by
  rcases List.mem_append.1 hk with h1 | h1
  · exact List.mem_append_left _ h1
  · exact List.mem_append_right _ (hb.subset h1))
 exact ⟨h.fr, h.lt0, hb.nodup_iff.2 h.nd, fun k hk => h.fresh k (hb.subset hk), fun f hf => Fact.step (Fr.refl (fun _ => False) w) (fun _ h => h.elim) ho (h.all f (hp.subset hf)) (fun _ _ h => h)⟩
theorem tail_get {T : List Fact} {i : Nat} : (L ++ T)[L.length + i]? = T[i]? := by
 rw [List.getElem?_append_right (by omega)]; congr 1; omega
theorem tail_set {T : List Fact} {i : Nat} {f : Fact} : (L ++ T).set (L.length + i) f = L ++ T.set i f := by
 rw [List.set_append_right _ _ (by omega)]; congr 2; omega
theorem fm_tail {T : List Fact} : (List.range' L.length T.length).filterMap ((L ++ T)[·]?) = T := by
 induction T generalizing L with
 | nil => rfl
 | cons t T ih =>
  have h1 := ih (L := L ++ [t])
  rw [List.length_append, List.append_assoc] at h1
  rw [List.length_cons, List.range'_succ, List.filterMap_cons]
  have h2 : (L ++ t :: T)[L.length]? = some t := by rw [List.getElem?_append_right (Nat.le_refl _)]; simp
  rw [h2]
  simp only
  congr 1
theorem fm_head {T : List Fact} (is : List Nat) : (is.filter (· < L.length)).filterMap ((L ++ T)[·]?) = is.filterMap (L[·]?) := by
 induction is with
 | nil => rfl
 | cons i is ih =>
  by_cases hi : i < L.length
  · rw [List.filter_cons_of_pos (by simpa using hi), List.filterMap_cons, List.filterMap_cons, ih, List.getElem?_append_left hi]
  · rw [List.filter_cons_of_neg (by simpa using hi), List.filterMap_cons, ih, List.getElem?_eq_none (by omega)]
theorem Cx.selT {T : List Fact} (h : Cx I O0 w0 w (L ++ T)) (is : List Nat) (hn : is.Nodup) : Cx I O0 w0 w (is.filterMap (L[·]?) ++ T) := by
 have h1 := h.sel (is.filter (· < L.length) ++ List.range' L.length T.length) (List.nodup_append.2 ⟨hn.filter _, List.nodup_range', fun a ha b hb e => by
  have h1 := (List.mem_filter.1 ha).2
  have h2 := (List.mem_range'_1.1 hb).1
  simp at h1
  omega⟩)
 rwa [List.filterMap_append, fm_head, fm_tail] at h1
/-- A call has turned row i of the tail. -/
theorem Cx.row1 (h : Cx I O0 w0 w (L ++ rowsF e s hs xss)) {i : Nat} {v : Value} {x x' : List s.T} (hh : hs[i]? = some v) (hx : xss[i]? = some x) (k : Cx (fun b => b ∈ blocks [.own e s v x]) (O0 ++ blocks (L ++ rowsF e s hs xss)) w w' [.own e s v x']) (hf : s.flat = true) :
  Cx I O0 w0 w' (L ++ rowsF e s hs (xss.set i x')) := by
 have hi : (L ++ rowsF e s hs xss)[L.length + i]? = some (.own e s v x) := by
  rw [tail_get]; unfold rowsF; rw [List.getElem?_zipWith, hh, hx]
 have := h.io1 hi k rfl hf
 rwa [tail_set, rowsF_set hh] at this
theorem Cx.rowIO (h : Cx I O0 w0 w (L ++ rowsF e s hs xss)) {i : Nat} {v : Value} {x : List s.T} (hh : hs[i]? = some v) (hx : xss[i]? = some x) : Tk (O0 ++ blocks (L ++ rowsF e s hs xss)) w [.own e s v x] := by
 have hi : (L ++ rowsF e s hs xss)[L.length + i]? = some (.own e s v x) := by
  rw [tail_get]; unfold rowsF; rw [List.getElem?_zipWith, hh, hx]
 have := h.io [L.length + i] (by simp)
 simpa [hi] using this
theorem Cx.row2 (h : Cx I O0 w0 w (L ++ rowsF e s hs xss)) {i j : Nat} (hij : i ≠ j) {v u : Value} {x x' y y' : List s.T} (hh : hs[i]? = some v) (hx : xss[i]? = some x) (hh' : hs[j]? = some u) (hy : xss[j]? = some y)
  (k : Cx (fun b => b ∈ blocks [.own e s v x, .own e s u y]) (O0 ++ blocks (L ++ rowsF e s hs xss)) w w' [.own e s v x', .own e s u y']) (hf : s.flat = true) :
  Cx I O0 w0 w' (L ++ rowsF e s hs ((xss.set i x').set j y')) := by
 have hi : (L ++ rowsF e s hs xss)[L.length + i]? = some (.own e s v x) := by
  rw [tail_get]; unfold rowsF; rw [List.getElem?_zipWith, hh, hx]
 have hj : (L ++ rowsF e s hs xss)[L.length + j]? = some (.own e s u y) := by
  rw [tail_get]; unfold rowsF; rw [List.getElem?_zipWith, hh', hy]
 have := h.io2 (by omega) hi hj k rfl hf rfl hf
 rwa [tail_set, rowsF_set hh, tail_set, rowsF_set hh'] at this
theorem Cx.rowIO2 (h : Cx I O0 w0 w (L ++ rowsF e s hs xss)) {i j : Nat} (hij : i ≠ j) {v u : Value} {x y : List s.T} (hh : hs[i]? = some v) (hx : xss[i]? = some x) (hh' : hs[j]? = some u) (hy : xss[j]? = some y) : Tk (O0 ++ blocks (L ++ rowsF e s hs xss)) w [.own e s v x, .own e s u y] := by
 have hi : (L ++ rowsF e s hs xss)[L.length + i]? = some (.own e s v x) := by
  rw [tail_get]; unfold rowsF; rw [List.getElem?_zipWith, hh, hx]
 have hj : (L ++ rowsF e s hs xss)[L.length + j]? = some (.own e s u y) := by
  rw [tail_get]; unfold rowsF; rw [List.getElem?_zipWith, hh', hy]
 have := h.io [L.length + i, L.length + j] (by simp; omega)
 simpa [hi, hj] using this
/-- An own fact goes over into the tail. -/
theorem Cx.into {v : Value} {x : List s.T} (h : Cx I O0 w0 w (.own e s v x :: (L ++ rowsF e s hs xss))) (hl : hs.length = xss.length) : Cx I O0 w0 w (L ++ rowsF e s (hs ++ [v]) (xss ++ [x])) := by
 rw [← rowsF_app hl]
 refine h.perm ?_
 rw [← List.append_assoc]
 exact List.perm_append_singleton _ _
theorem Cx.tailTake (h : Cx I O0 w0 w (L ++ rowsF e s hs xss)) (k : Nat) : Cx I O0 w0 w (L ++ rowsF e s (hs.take k) (xss.take k)) := by
 rw [← rowsF_take]
 exact h.sublist ((List.Sublist.refl L).append (List.take_sublist _ _))
theorem Cx.tailDrop (h : Cx I O0 w0 w (L ++ rowsF e s hs xss)) (k : Nat) : Cx I O0 w0 w (L ++ rowsF e s (hs.drop k) (xss.drop k)) := by
 rw [← rowsF_drop]
 exact h.sublist ((List.Sublist.refl L).append (List.drop_sublist _ _))
/-- A row that is lent. -/
theorem Cx.rowOw (h : Cx I O0 w0 w (L ++ rowsF e s hs xss)) {i : Nat} {v : Value} {x : List s.T} (hh : hs[i]? = some v) (hx : xss[i]? = some x) : Own (O0 ++ blocks (L ++ rowsF e s hs xss)) w e s v x (blkOf v) := by
 have hi : (L ++ rowsF e s hs xss)[L.length + i]? = some (.own e s v x) := by
  rw [tail_get]; unfold rowsF; rw [List.getElem?_zipWith, hh, hx]
 exact h.ow hi
/-- All rows and their list become a reading. -/
theorem Cx.nestFreeze {e2 : TypeId} {v : Value} (h : Cx (fun _ => False) O0 w0 w (.own e2 .raw v hs :: (L ++ rowsF e s hs xss))) (hl : hs.length = xss.length) : Cx (fun _ => False) O0 w0 w (.ro (.sl (.sl s)) [v] xss :: L) := by
 have hL : Cx (fun _ => False) O0 w0 w L := h.sublist ((List.sublist_append_left L _).trans (List.sublist_cons_self _ _))
 have hsub : ∀ k ∈ O0 ++ blocks L, k ∈ O0 ++ blocks (.own e2 .raw v hs :: (L ++ rowsF e s hs xss)) ∨ w.heap.size ≤ k := fun k hk => .inl (by
  rcases List.mem_append.1 hk with h1 | h1
  · exact List.mem_append_left _ h1
  · exact List.mem_append_right _ ((((List.sublist_append_left L _).trans (List.sublist_cons_self _ _)).filterMap Fact.blk).subset h1))
 -- a block of a fact outside L is none of L, none of O0
 have hout : ∀ (i : Nat) (f : Fact), (Fact.own e2 .raw v hs :: (L ++ rowsF e s hs xss))[i]? = some f → (i = 0 ∨ L.length < i) → ∀ g, f.blk = some g → g ∉ O0 ++ blocks L := fun i f hi hp g hg hin => by
  rcases List.mem_append.1 hin with h1 | h1
  ·
   have h2 := h.lt0 g h1
   have h3 := (h.fresh g (List.mem_filterMap.2 ⟨f, List.mem_of_getElem? hi, hg⟩)).resolve_right id
   omega
  ·
   obtain ⟨f', hf', hb⟩ := List.mem_filterMap.1 h1
   obtain ⟨j, hj⟩ := List.mem_iff_getElem?.1 hf'
   have hjl := (List.getElem?_eq_some_iff.1 hj).1
   have hj' : (Fact.own e2 .raw v hs :: (L ++ rowsF e s hs xss))[j + 1]? = some f' := by rw [List.getElem?_cons_succ, List.getElem?_append_left hjl]; exact hj
   exact nd_other h.nd hi hj' (by omega) hg hb
 refine hL.ro ?_
 have h0 : Own (O0 ++ blocks (.own e2 .raw v hs :: (L ++ rowsF e s hs xss))) w e2 .raw v hs (blkOf v) := h.ow (i := 0) rfl
 have hr : Rep (O0 ++ blocks L) w (.sl .raw) [v] hs := Own.freeze h0 hsub fun g hg => hout 0 _ rfl (.inl rfl) g hg
 obtain ⟨A, c, h1, h2, h3, h4⟩ := hr
 refine ⟨A, c, by rw [h1, hl], by omega, h3, fun hp => ?_⟩
 obtain ⟨ad, hA, hO, hi⟩ := h4 (by omega)
 refine ⟨ad, hA, hO, fun i x hx => ?_⟩
 obtain ⟨u, hu, hrow⟩ := rowsF_get (e := e) (s := s) hl hx
 obtain ⟨cs, hc, hcs⟩ := hi i u hu
 refine ⟨cs, hc, ?_⟩
 have hcs1 : cs = [u] := hcs.1
 rw [hcs1]
 have hi' : (Fact.own e2 .raw v hs :: (L ++ rowsF e s hs xss))[L.length + i + 1]? = some (.own e s u x) := by rw [List.getElem?_cons_succ, tail_get]; exact hrow
 exact Own.freeze (h.ow hi') hsub fun g hg => hout _ _ hi' (.inr (by omega)) g hg
/-! Operations on a list of rows: its facts stand in L, its rows in the tail. -/
variable {P : Program} {ρ : Operand → Value} {d : Option Tmp} {ty : TypeId} {pos : String} {af : Array Edge} {gd : Option (Nat × Bool)} {x y : Operand}
theorem getL {T : List Fact} {i : Nat} {f : Fact} (hi : L[i]? = some f) : (L ++ T)[i]? = some f := by
 rw [List.getElem?_append_left (List.getElem?_eq_some_iff.1 hi).1]; exact hi
theorem setL {T : List Fact} {i : Nat} {f f' : Fact} (hi : L[i]? = some f) : (L ++ T).set i f' = L.set i f' ++ T := by
 rw [List.set_append_left _ _ (List.getElem?_eq_some_iff.1 hi).1]
theorem Cx.eloT {T : List Fact} (h : Cx I O0 w0 w (L ++ T)) {i : Nat} {e : TypeId} {s : Sh} {A : Option Addr} {m c : Nat} {xs : List s.T} (hi : L[i]? = some (.own e s (.slice A m c) xs)) {j : Nat} {x : s.T} (hx : xs[j]? = some x) :
  ∃ ad cs, A = some ad ∧ ad.block ∉ blocks T ∧ (∀ j' u, cs[j']? = some u → w.cell? ((ad.add (j * s.n)).add j') = some u) ∧ Rep (O0 ++ blocks (L ++ T)) w s cs x := by
 obtain ⟨ad, cs, hA, hc, hr⟩ := h.elo (getL hi) hx
 refine ⟨ad, cs, hA, fun hin => ?_, hc, hr⟩
 have hnd := h.nd
 rw [blocks_append] at hnd
 exact (List.nodup_append.1 hnd).2.2 _ (List.mem_filterMap.2 ⟨_, List.mem_of_getElem? hi, by subst hA; rfl⟩) _ hin rfl
theorem rows_in {i : Nat} {v : Value} {x : List s.T} (hh : hs[i]? = some v) (hx : xss[i]? = some x) : ∀ g, blkOf v = some g → g ∈ blocks (rowsF e s hs xss) := fun g hg => by
 refine List.mem_filterMap.2 ⟨.own e s v x, List.mem_of_getElem? (i := i) ?_, hg⟩
 unfold rowsF; rw [List.getElem?_zipWith, hh, hx]
theorem Fr.row1 {wS w w' : World} {i : Nat} {v : Value} {x : List s.T} (hM : Fr (fun k => k ∈ blocks (rowsF e s hs xss)) wS w) (hh : hs[i]? = some v) (hx : xss[i]? = some x) (hF : Fr (fun k => k ∈ blocks [.own e s v x]) w w') : Fr (fun k => k ∈ blocks (rowsF e s hs xss)) wS w' :=
 hM.besideL (fun f hf g _ hg => by
  simp only [List.mem_singleton] at hf
  subst hf
  exact rows_in hh hx g hg) hF
theorem Fr.row2 {wS w w' : World} {i j : Nat} {v u : Value} {x y : List s.T} (hM : Fr (fun k => k ∈ blocks (rowsF e s hs xss)) wS w) (hh : hs[i]? = some v) (hx : xss[i]? = some x) (hh' : hs[j]? = some u) (hy : xss[j]? = some y) (hF : Fr (fun k => k ∈ blocks [.own e s v x, .own e s u y]) w w') : Fr (fun k => k ∈ blocks (rowsF e s hs xss)) wS w' :=
 hM.besideL (fun f hf g _ hg => by
  simp only [List.mem_cons, List.not_mem_nil, or_false] at hf
  rcases hf with rfl | rfl
  · exact rows_in hh hx g hg
  · exact rows_in hh' hy g hg) hF
theorem Cx.tailFront {T : List Fact} {f : Fact} {L2 : List Fact} (h : Cx I O0 w0 w ((f :: L2) ++ T)) : Cx I O0 w0 w (([f] ++ T) ++ L2) := h.perm (by
 simp only [List.cons_append, List.nil_append]
 exact List.Perm.cons _ List.perm_append_comm)
theorem Cx.tailBack {T : List Fact} {f : Fact} {L2 : List Fact} (h : Cx I O0 w0 w (([f] ++ T) ++ L2)) : Cx I O0 w0 w ((f :: L2) ++ T) := h.perm (by
 simp only [List.cons_append, List.nil_append]
 exact List.Perm.cons _ List.perm_append_comm)
theorem Cx.nestTake (h : Cx I O0 w0 w (L ++ rowsF e s hs xss)) {i : Nat} {e2 : TypeId} {A : Option Addr} {m c : Nat} (hi : L[i]? = some (.own e2 .raw (.slice A m c) hs)) (hl : hs.length = xss.length) {k : Nat} (hk : k ≤ xss.length) :
  Cx I O0 w0 w (L.set i (.own e2 .raw (.slice A (xss.take k).length c) (hs.take k)) ++ rowsF e s (hs.take k) (xss.take k)) := by
 have h1 := h.cuth (getL hi) (k := k) (by omega)
 rw [setL hi] at h1
 have e1 : (hs.take k).length = (xss.take k).length := by rw [List.length_take, List.length_take, hl]
 rw [← e1]
 exact h1.tailTake k
/-- An owned slice without its first elements. -/
theorem Own.drop {O : List Nat} {w : World} {e : TypeId} {s : Sh} {A : Option Addr} {m c : Nat} {xs : List s.T} (h : Own O w e s (.slice A m c) xs (blkOf (.slice A m c))) {k : Nat} (hk : k ≤ xs.length) :
  Own O w e s (.slice (if c = k then A else A.map (·.add (k * s.n))) (xs.length - k) (c - k)) (xs.drop k) (blkOf (.slice A m c)) := by
 obtain ⟨cs, h1, h2⟩ := h
 have hle : k * s.n ≤ xs.length * s.n := Nat.mul_le_mul_right _ hk
 refine ⟨cs.drop (k * s.n), ⟨?_, ?_⟩, ?_, fun i x hx => ?_⟩
 · rw [List.length_drop, h1.1, List.length_drop, Nat.sub_mul]
 ·
  rcases h1.2 with ⟨h0, h00, h000⟩ | ⟨g, o, cap, cur, hv, hG, hb, hn, hc, hsz, ht⟩
  ·
   injection h0 with e1 e2 e3
   subst e1 e2 e3
   obtain rfl : k = 0 := by omega
   exact .inl ⟨by rw [h00]; rfl, by rw [List.length_drop]; omega, rfl⟩
  ·
   injection hv with e1 e2 e3
   subst e1 e2 e3
   by_cases hck : c = k
   ·
    subst hck
    refine .inr ⟨g, o, 0, cur, ?_, rfl, hb, by rw [List.length_drop]; omega, by omega, by omega, ?_⟩
    · rw [if_pos rfl, List.length_drop, Nat.sub_self]
    ·
     have e0 : xs.length - c = 0 := by omega
     rw [List.length_drop, e0, Nat.zero_mul, List.take_zero, List.drop_eq_nil_of_le (by rw [h1.1]; exact Nat.mul_le_mul_right _ (by omega))]
   ·
    refine .inr ⟨g, o + k * s.n, c - k, cur, ?_, rfl, hb, by rw [List.length_drop]; omega, by omega, ?_, ?_⟩
    · rw [if_neg hck, List.length_drop, Option.map_some, add_lit]
    ·
     rw [Nat.sub_mul]
     have := Nat.mul_le_mul_right s.n (show k ≤ c by omega)
     omega
    · rw [List.length_drop, Nat.sub_mul, ← ht, List.drop_take, List.drop_drop]
 · rw [List.length_drop, h2.1, List.length_drop, Nat.sub_mul]
 ·
  rw [List.getElem?_drop] at hx
  have := h2.2 _ x hx
  rwa [List.drop_drop, ← Nat.add_mul]
theorem blk_drop {A : Option Addr} {m c k n m' c' : Nat} : blkOf (.slice (if c = k then A else A.map (·.add n)) m' c') = blkOf (.slice A m c) := by
 cases A with
 | none => split <;> rfl
 | some a => split <;> simp [blkOf, add_block]
theorem Cx.nestDrop (h : Cx I O0 w0 w (L ++ rowsF e s hs xss)) {i : Nat} {e2 : TypeId} {A : Option Addr} {m c : Nat} (hi : L[i]? = some (.own e2 .raw (.slice A m c) hs)) (hl : hs.length = xss.length) {t1 : TypeId} {a : Int} (ht : P.underlying t1 = some (.slice e2)) (hsz : ∀ w, (sizeOf e2).run P w = .ok 1 w) (ha : 0 ≤ a ∧ a ≤ (xss.length : Int) ∧ (xss.length : Int) ≤ xss.length) :
  ∃ A' c', (∀ {ρ : Operand → Value} {d : Option Tmp} {ty : TypeId} {pos : String} {af : Array Edge} {gd : Option (Nat × Bool)} {x lo : Operand}, ρ x = .slice A m c → ρ lo = .int .i64 a → Pu P ρ ⟨d, .slice t1 x (some lo) none none, ty, pos, af, gd⟩ (.slice A' (xss.drop a.toNat).length c')) ∧ (xss.drop a.toNat).length ≤ c' ∧ c' ≤ 9223372036854775807 ∧
   Cx I O0 w0 w (L.set i (.own e2 .raw (.slice A' (xss.drop a.toNat).length c') (hs.drop a.toNat)) ++ rowsF e s (hs.drop a.toNat) (xss.drop a.toNat)) := by
 have hown : Own (O0 ++ blocks (L ++ rowsF e s hs xss)) w e2 .raw (.slice A m c) hs (blkOf (.slice A m c)) := h.ow (getL hi)
 obtain ⟨hm, hc1, hc2⟩ := hown.sl_len
 have e1 : (xss.drop a.toNat).length = hs.length - a.toNat := by rw [List.length_drop, hl]
 have e3 : (xss.drop a.toNat).length = m - a.toNat := by rw [List.length_drop, hm, hl]
 refine ⟨if c = a.toNat then A else A.map (·.add (a.toNat * 1)), c - a.toNat, ?_, by omega, by omega, ?_⟩
 rotate_left
 ·
  have h1 : Cx I O0 w0 w ((L ++ rowsF e s hs xss).set i (.own e2 .raw (.slice (if c = a.toNat then A else A.map (·.add (a.toNat * 1))) (xss.drop a.toNat).length (c - a.toNat)) (hs.drop a.toNat))) := by
   refine h.turn (getL hi) (Fr.refl _ w) (.inl blk_drop) fun O hO => ?_
   have h2 := Own.drop hown (k := a.toNat) (by omega)
   rw [e1]
   show Own O w e2 .raw _ _ (blkOf _)
   rw [blk_drop (m := m)]
   exact Own.sub h2 hO
  rw [setL hi] at h1
  exact h1.tailDrop a.toNat
 ·
  intro ρ d ty pos af gd x lo hx hlo
  rw [e3]
  exact pu_slice_l ht hsz hx hlo ⟨ha.1, by omega⟩
/-- append of one row: its header is a literal of one cell; its own fact goes over into the tail later. -/
theorem Cx.nestApp (h : Cx I O0 w0 w (L ++ rowsF e s hs xss)) {i il : Nat} {t t2 e1 e2 el : TypeId} {ti : TypeInfo} {z v u : Value} {Al : Option Addr} {ml cl : Nat} (x1 : List s.T) (hi : L[i]? = some (.own e1 .raw v hs)) (hil : L[il]? = some (.own el .raw (.slice Al ml cl) [u])) (hl : hs.length = xss.length)
  (ht : P.underlying t = some (.slice e1)) (ht2 : P.underlying t2 = some (.slice e2)) (hti : P.info? e1 = some ti) (hz : ti.zero = some z) (hzs : z.cells.size = 1) (hsz : ti.size = 1) (hx : ρ x = v) (hy : ρ y = .slice Al ml cl)
  (hb : xss.length + 1 ≤ 1099511627776) (hby : ti.bytes ≤ 64) :
  Op P ρ ⟨d, .call { callee := .builtin .append, args := #[x, y], argTypes := #[t, t2] }, ty, pos, af, gd⟩ w fun v' w' => ∃ A' c', v' = .slice A' (xss ++ [x1]).length c' ∧ (xss ++ [x1]).length ≤ c' ∧ c' ≤ 9223372036854775807 ∧
   Cx I O0 w0 w' (L.set i (.own e1 .raw (.slice A' (xss ++ [x1]).length c') (hs ++ [u])) ++ rowsF e s hs xss) := by
 obtain ⟨hml, _, _⟩ := (h.ow (getL hil)).sl_len
 have hml1 : ml = 1 := hml
 subst hml1
 obtain ⟨v', w', h1, A', c', h2, h3, h4, h5, _⟩ := h.app (s := .raw) (xs := hs) (ys := [u]) (m := 1) (ty := ty) (pos := pos) (af := af) (gd := gd) (d := d) (getL hi) ht ht2 hti hz hzs hsz (h.srco (getL hil)) hx hy (by omega) hby
 have e3 : (hs ++ [u]).length = (xss ++ [x1]).length := by rw [List.length_append, List.length_append, hl]; rfl
 rw [e3] at h2 h3 h5
 rw [setL hi] at h5
 exact ⟨v', w', h1, A', c', h2, h3, h4, h5⟩
theorem Cx.intoT {v : Value} {x : List s.T} (h : Cx I O0 w0 w ((.own e s v x :: L) ++ rowsF e s hs xss)) (hl : hs.length = xss.length) : Cx I O0 w0 w (L ++ rowsF e s (hs ++ [v]) (xss ++ [x])) := Cx.into h hl
theorem Cx.freezeT {e2 : TypeId} {v : Value} (h : Cx (fun _ => False) O0 w0 w ((.own e2 .raw v hs :: L) ++ rowsF e s hs xss)) (hl : hs.length = xss.length) : Cx (fun _ => False) O0 w0 w (.ro (.sl (.sl s)) [v] xss :: L) := Cx.nestFreeze h hl
end
end Ev
end Go.Proofs.Ytmlkiafidahnbaa
