/- One letter: the two programs keep the same columns. -/
import Derived.Test.YticemffhlapnnaaPRscan
set_option linter.unusedVariables false
set_option linter.unusedSimpArgs false
namespace Go.Proofs.Yticemffhlapnnaa
namespace Gl
open Ev
structure BI (s k : Nat) (mk : List (Int × Int)) (od bot top pr : List Int) : Prop where
  fs : mk.map Prod.fst = bot
  tl : top.length = s + k
  ml : mk.length = s + k
  bl : bot.length = s + k
  pl : pr.length = s
  pb : ∀ c ∈ pr, 0 ≤ c ∧ c < (s + k : Int)
  nd : od.Nodup
  po : ∀ c ∈ pr, c ∈ od
  ob : ∀ c ∈ od, 0 ≤ c ∧ c < (s + k : Int)
  ol : od.length = s + k
  ag : ∀ i, i < s + k → (i : Int) ∈ pr ∨ (mk[i]?).map Prod.snd = top[i]?
theorem BI.step {s k : Nat} {mk : List (Int × Int)} {od bot top pr : List Int} (h : BI s k mk od bot top pr) {e b : Nat} {v : Int} (he : e < s) (hb : b < s) (hne : e ≠ b) (hv : v = 0 ∨ v = 1) (hs : s + k < 1000) (n : Nat) (hn : 2000 < n) (f1 f2 : Bool) :
    ∃ mk' od' bot' top' pr', F.gridlink_Braid_j2 n s mk od k pr e b v f1 = some (.inl (mk', od', ((k + 1 : Nat) : Int), pr')) ∧
      F.ref44_Braid_j2 n s od bot top k pr e b v f2 = some (.inl (od', bot', top', ((k + 1 : Nat) : Int), pr')) ∧ BI s (k + 1) mk' od' bot' top' pr' := by
  have hel : e < pr.length := by rw [h.pl]; exact he
  have hbl : b < pr.length := by rw [h.pl]; exact hb
  obtain ⟨pe, hpe⟩ : ∃ pe, pr[e]? = some pe := ⟨_, List.getElem?_eq_getElem hel⟩
  obtain ⟨pb, hpb⟩ : ∃ pb, pr[b]? = some pb := ⟨_, List.getElem?_eq_getElem hbl⟩
  have hpem := List.mem_of_getElem? hpe
  have hpbm := List.mem_of_getElem? hpb
  have be := h.pb pe hpem
  obtain ⟨L, R, hod⟩ := List.append_of_mem (h.po pb hpbm)
  have hnd := h.nd
  rw [hod, List.perm_middle.nodup_iff, List.nodup_cons] at hnd
  have hL : pb ∉ L := fun m => hnd.1 (List.mem_append_left _ m)
  have hR : pb ∉ R := fun m => hnd.1 (List.mem_append_right _ m)
  obtain ⟨te, hte⟩ : ∃ te, top[pe.toNat]? = some te := ⟨_, List.getElem?_eq_getElem (by rw [h.tl]; omega)⟩
  obtain ⟨me, hme⟩ : ∃ me, mk[pe.toNat]? = some me := ⟨_, List.getElem?_eq_getElem (by rw [h.ml]; omega)⟩
  have g1 : Ev.get pr (e : Int) = some pe := get_at rfl hpe
  have g2 : Ev.get pr (b : Int) = some pb := get_at rfl hpb
  have g3 : Ev.get mk pe = some me := get_at (k := pe.toNat) (by omega) hme
  have g4 : Ev.get top pe = some te := get_at (k := pe.toNat) (by omega) hte
  have hset : (pr.set e pb)[b]? = some pb := by rw [List.getElem?_set_ne hne]; exact hpb
  have g5 : Ev.get (pr.set (e : Int).toNat pb) (b : Int) = some pb := get_at rfl hset
  have hol := h.ol
  have hlen : (L ++ pb :: R).length = s + k := by rw [← hod]; exact hol
  have hLl : L.length < s + k := by rw [List.length_append, List.length_cons] at hlen; omega
  have hml := h.ml
  have hbl2 := h.bl
  have htl := h.tl
  have hidx := index_eq (L := L) (R := R) (x := pb) n hL (by omega) (by omega)
  have hins : F.slices_Insert_Lint_int n (L ++ pb :: R) ((L.length : Int) + v) [(mk.length : Int)] = some (L ++ (beside pb (mk.length : Int) v pb ++ R)) := by
    unfold beside
    rw [if_pos rfl]
    rcases hv with e2 | e2
    · rw [if_pos e2, e2, Int.add_zero, insert0 n (by omega)]; simp
    · rw [if_neg (by omega), e2, insert1 n (by omega)]; simp
  have hscan := scan_eq n (l7 := bot) (q := pr) (v14 := (b : Int)) (v15 := v) hL hR g2 hv (by omega) (by omega)
  have hbm : (bot.length : Int) = (mk.length : Int) := by rw [hbl2, hml]
  refine ⟨(mk.set pe.toNat (me.1, ((s : Int) + k))) ++ [((s : Int) + k, 0)], L ++ (beside pb (mk.length : Int) v pb ++ R), bot ++ [(s : Int) + k], (top.set pe.toNat ((s : Int) + k)) ++ [-1], (pr.set e pb).set b (mk.length : Int), ?_, ?_, ?_⟩
  · unfold F.gridlink_Braid_j2
    rw [hod, g1, g2, Option.bind_some, chk_ok (z := (s : Int) + k) (by omega) (by omega), Option.bind_some, g3, Option.bind_some, Option.bind_some, hidx, Option.bind_some,
      chk_ok (by rcases hv with e2 | e2 <;> omega) (by rcases hv with e2 | e2 <;> omega), Option.bind_some, hins, Option.bind_some, Option.bind_some, Option.bind_some, g5, Option.bind_some, Option.bind_some,
      lim_ok (by rw [List.length_set]; simp only [List.length_cons, List.length_nil]; omega), Option.bind_some, chk_ok (by omega) (by omega), Option.bind_some]
    rfl
  · unfold F.ref44_Braid_j2
    rw [hod, g1, g2, Option.bind_some, chk_ok (z := (s : Int) + k) (by omega) (by omega), Option.bind_some, g4, Option.bind_some, Option.bind_some,
      lim_ok (by simp only [List.length_cons, List.length_nil]; omega), Option.bind_some, lim_ok (by rw [List.length_set]; simp only [List.length_cons, List.length_nil]; omega), Option.bind_some, hscan, Option.bind_some]
    dsimp only
    rw [Option.bind_some, Option.bind_some, g5, Option.bind_some, chk_ok (by omega) (by omega), Option.bind_some, hbm]
    rfl
  · have hperm : (L ++ (beside pb (mk.length : Int) v pb ++ R)).Perm ((mk.length : Int) :: od) := by
      unfold beside
      rw [if_pos rfl, hod]
      rcases hv with e2 | e2
      · rw [if_pos e2]; exact List.perm_middle
      · rw [if_neg (by omega)]
        have := List.perm_middle (l₁ := L ++ [pb]) (l₂ := R) (a := (mk.length : Int))
        simpa using this
    have hfn : (mk.length : Int) ∉ od := fun m => by have := (h.ob _ m).2; rw [hml] at this; omega
    refine ⟨?_, ?_, ?_, ?_, ?_, ?_, ?_, ?_, ?_, ?_, ?_⟩
    · rw [List.map_append, List.map_set, h.fs]
      congr 1
      have : bot[pe.toNat]? = some me.1 := by rw [← h.fs, List.getElem?_map, hme]; rfl
      apply List.ext_getElem?
      intro i
      rw [List.getElem?_set]
      by_cases e1 : pe.toNat = i
      · subst e1
        rw [if_pos rfl, if_pos (by omega), this]
      · rw [if_neg e1]
    · rw [List.length_append, List.length_set, htl]; rfl
    · rw [List.length_append, List.length_set, hml]; rfl
    · rw [List.length_append, hbl2]; rfl
    · rw [List.length_set, List.length_set, h.pl]
    · intro c hc
      rcases List.mem_or_eq_of_mem_set hc with hc | hc
      · rcases List.mem_or_eq_of_mem_set hc with hc | hc
        · have := h.pb c hc; omega
        · have := h.pb pb hpbm; omega
      · omega
    · exact hperm.nodup_iff.2 (List.nodup_cons.2 ⟨hfn, h.nd⟩)
    · intro c hc
      refine hperm.mem_iff.2 ?_
      rcases List.mem_or_eq_of_mem_set hc with hc | hc
      · rcases List.mem_or_eq_of_mem_set hc with hc | hc
        · exact List.mem_cons_of_mem _ (h.po c hc)
        · rw [hc]; exact List.mem_cons_of_mem _ (h.po pb hpbm)
      · rw [hc]; exact List.mem_cons_self
    · intro c hc
      rcases List.mem_cons.1 (hperm.mem_iff.1 hc) with hc | hc
      · omega
      · have := h.ob c hc; omega
    · rw [hperm.length_eq, List.length_cons, hol]; rfl
    · intro i hi
      rcases Nat.lt_or_ge i (s + k) with hlt | hge
      · by_cases e1 : i = pe.toNat
        · right
          rw [List.getElem?_append_left (by rw [List.length_set]; omega), List.getElem?_append_left (by rw [List.length_set]; omega), e1, List.getElem?_set_self (by omega), List.getElem?_set_self (by omega)]
          rfl
        · rcases h.ag i hlt with hm | hm
          · left
            obtain ⟨j, hj, hji⟩ := List.getElem_of_mem hm
            have hje : j ≠ e := fun x => by
              subst x
              have : some pe = some (i : Int) := by rw [← hpe, List.getElem?_eq_getElem hj, hji]
              have := Option.some.inj this
              omega
            by_cases hjb : j = b
            · have hpi : pb = (i : Int) := by
                have : some pb = some (i : Int) := by rw [← hpb, ← hjb, List.getElem?_eq_getElem hj, hji]
                exact Option.some.inj this
              refine List.mem_of_getElem? (i := e) ?_
              rw [List.getElem?_set_ne (Ne.symm hne), List.getElem?_set_self hel, hpi]
            · refine List.mem_of_getElem? (i := j) ?_
              rw [List.getElem?_set_ne (Ne.symm hjb), List.getElem?_set_ne (Ne.symm hje), List.getElem?_eq_getElem hj, hji]
          · right
            rw [List.getElem?_append_left (by rw [List.length_set]; omega), List.getElem?_append_left (by rw [List.length_set]; omega), List.getElem?_set_ne (Ne.symm e1), List.getElem?_set_ne (Ne.symm e1)]
            exact hm
      · left
        have : (i : Int) = (mk.length : Int) := by omega
        rw [this]
        refine List.mem_of_getElem? (i := b) ?_
        rw [List.getElem?_set_self (by rw [List.length_set]; exact hbl)]
end Gl
end Go.Proofs.Yticemffhlapnnaa
