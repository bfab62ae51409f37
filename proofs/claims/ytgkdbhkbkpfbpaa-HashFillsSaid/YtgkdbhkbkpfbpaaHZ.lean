/- Heaps as lists, plain: what container/heap's up and down make of a list of whole numbers; no conditions beyond each theorem's own. -/
import Derived.RowKit
set_option linter.unusedVariables false
set_option linter.unusedSimpArgs false
namespace Go.Proofs.Hh
/-- Two places change their values. -/
def swp (l : List Int) (i j : Nat) : List Int := (l.set i (l.getD j 0)).set j (l.getD i 0)
def upF : Nat → Nat → List Int → List Int
  | 0, _, l => l
  | f + 1, j, l => if j = 0 then l else if l.getD j 0 < l.getD ((j - 1) / 2) 0 then upF f ((j - 1) / 2) (swp l ((j - 1) / 2) j) else l
/-- The lesser child. -/
def kid (n i : Nat) (l : List Int) : Nat := if 2 * i + 2 < n ∧ l.getD (2 * i + 2) 0 < l.getD (2 * i + 1) 0 then 2 * i + 2 else 2 * i + 1
def downF : Nat → Nat → Nat → List Int → List Int
  | 0, _, _, l => l
  | f + 1, n, i, l => if n ≤ 2 * i + 1 then l else if l.getD (kid n i l) 0 < l.getD i 0 then downF f n (kid n i l) (swp l i (kid n i l)) else l
def pushF (l : List Int) (x : Int) : List Int := upF (l.length + 1) l.length (l ++ [x])
def popF (l : List Int) : List Int := (downF (l.length + 1) (l.length - 1) 0 (swp l 0 (l.length - 1))).take (l.length - 1)
theorem swp_len (l : List Int) (i j : Nat) : (swp l i j).length = l.length := by simp [swp]
theorem swp_at {l : List Int} {i j : Nat} (hi : i < l.length) (hj : j < l.length) (k : Nat) : (swp l i j).getD k 0 = if k = j then l.getD i 0 else if k = i then l.getD j 0 else l.getD k 0 := by
  unfold swp
  simp only [List.getD_eq_getElem?_getD, List.getElem?_set, List.length_set]
  by_cases h1 : j = k
  · subst h1; simp [hj]
  · rw [if_neg h1, if_neg (Ne.symm h1)]
    by_cases h2 : i = k
    · subst h2; simp [hi]
    · rw [if_neg h2, if_neg (Ne.symm h2)]
theorem swp_perm {l : List Int} {i j : Nat} (hi : i < l.length) (hj : j < l.length) : (swp l i j).Perm l := by
  unfold swp
  have e1 : l.getD j 0 = l[j] := by simp [List.getD_eq_getElem?_getD, List.getElem?_eq_getElem hj]
  have e2 : l.getD i 0 = l[i] := by simp [List.getD_eq_getElem?_getD, List.getElem?_eq_getElem hi]
  rw [e1, e2]
  exact List.set_set_perm hi hj
theorem upF_len : ∀ (f j : Nat) (l : List Int), (upF f j l).length = l.length
  | 0, _, _ => rfl
  | f + 1, j, l => by
    unfold upF
    split
    · rfl
    · split
      · rw [upF_len, swp_len]
      · rfl
theorem upF_perm : ∀ (f j : Nat) (l : List Int), j < l.length → (upF f j l).Perm l
  | 0, _, _, _ => List.Perm.refl _
  | f + 1, j, l, h => by
    unfold upF
    split
    · exact List.Perm.refl _
    · split
      · refine (upF_perm f _ _ ?_).trans (swp_perm (by omega) h)
        rw [swp_len]; omega
      · exact List.Perm.refl _
theorem downF_len : ∀ (f n i : Nat) (l : List Int), (downF f n i l).length = l.length
  | 0, _, _, _ => rfl
  | f + 1, n, i, l => by
    unfold downF
    split
    · rfl
    · split
      · rw [downF_len, swp_len]
      · rfl
theorem kid_lt {n i : Nat} {l : List Int} (h : ¬ n ≤ 2 * i + 1) : kid n i l < n ∧ i < kid n i l := by
  unfold kid
  split <;> omega
theorem downF_perm : ∀ (f n i : Nat) (l : List Int), n ≤ l.length → (downF f n i l).Perm l
  | 0, _, _, _, _ => List.Perm.refl _
  | f + 1, n, i, l, h => by
    unfold downF
    split
    · exact List.Perm.refl _
    · rename_i h1
      have hk := kid_lt (l := l) h1
      split
      · exact (downF_perm f n _ _ (by rw [swp_len]; exact h)).trans (swp_perm (by omega) (by omega))
      · exact List.Perm.refl _
theorem downF_ge : ∀ (f n i : Nat) (l : List Int) (k : Nat), n ≤ l.length → n ≤ k → (downF f n i l).getD k 0 = l.getD k 0
  | 0, _, _, _, _, _, _ => rfl
  | f + 1, n, i, l, k, h, hk => by
    unfold downF
    split
    · rfl
    · rename_i h1
      have hq := kid_lt (l := l) h1
      split
      · rw [downF_ge f n _ _ k (by rw [swp_len]; exact h) hk, swp_at (by omega) (by omega), if_neg (by omega), if_neg (by omega)]
      · rfl
/-- No place is below its parent. -/
def Heap (l : List Int) : Prop := ∀ k, 0 < k → k < l.length → l.getD ((k - 1) / 2) 0 ≤ l.getD k 0
theorem up_heap : ∀ (f j : Nat) (l : List Int), j < l.length → j < f → (∀ k, 0 < k → k < l.length → k ≠ j → l.getD ((k - 1) / 2) 0 ≤ l.getD k 0) → (∀ k, 0 < k → k < l.length → (k - 1) / 2 = j → 0 < j → l.getD ((j - 1) / 2) 0 ≤ l.getD k 0) → Heap (upF f j l)
  | 0, _, _, _, h, _, _ => by omega
  | f + 1, j, l, hj, hf, h1, h2 => by
    unfold upF
    split
    · rename_i h0
      intro k hk hl
      exact h1 k hk hl (by omega)
    · rename_i h0
      split
      · rename_i hlt
        refine up_heap f ((j - 1) / 2) _ (by rw [swp_len]; omega) (by omega) ?_ ?_
        · intro k hk hl hne
          rw [swp_len] at hl
          rw [swp_at (by omega) hj, swp_at (by omega) hj]
          by_cases e1 : k = j
          · subst e1
            rw [if_neg (by omega), if_pos rfl, if_pos rfl]
            omega
          · rw [if_neg e1, if_neg hne]
            by_cases e2 : (k - 1) / 2 = j
            · rw [if_pos e2]
              exact h2 k hk hl e2 (by omega)
            · rw [if_neg e2]
              by_cases e3 : (k - 1) / 2 = (j - 1) / 2
              · rw [if_pos e3]
                have := h1 k hk hl e1
                rw [e3] at this
                omega
              · rw [if_neg e3]
                exact h1 k hk hl e1
        · intro k hk hl he hp
          rw [swp_len] at hl
          rw [swp_at (by omega) hj, swp_at (by omega) hj]
          have hpp := h1 ((j - 1) / 2) hp (by omega) (by omega)
          rw [if_neg (by omega), if_neg (by omega)]
          by_cases e1 : k = j
          · rw [if_pos e1]; exact hpp
          · rw [if_neg e1, if_neg (by omega)]
            have := h1 k hk hl e1
            rw [he] at this
            omega
      · rename_i hge
        intro k hk hl
        by_cases e : k = j
        · subst e; omega
        · exact h1 k hk hl e
theorem down_heap : ∀ (f n i : Nat) (l : List Int), n ≤ l.length → n - i < f → (∀ k, 0 < k → k < n → (k - 1) / 2 ≠ i → l.getD ((k - 1) / 2) 0 ≤ l.getD k 0) → (∀ k, 0 < k → k < n → (k - 1) / 2 = i → 0 < i → l.getD ((i - 1) / 2) 0 ≤ l.getD k 0) → ∀ k, 0 < k → k < n → (downF f n i l).getD ((k - 1) / 2) 0 ≤ (downF f n i l).getD k 0
  | 0, _, _, _, _, h, _, _ => by omega
  | f + 1, n, i, l, hn, hf, h1, h2 => by
    intro k hk hkn
    unfold downF
    by_cases c1 : n ≤ 2 * i + 1
    · rw [if_pos c1]
      exact h1 k hk hkn (by omega)
    · rw [if_neg c1]
      have hq := kid_lt (l := l) c1
      have hpar : (kid n i l - 1) / 2 = i := by unfold kid; split <;> omega
      have hmin : ∀ k, 0 < k → k < n → (k - 1) / 2 = i → l.getD (kid n i l) 0 ≤ l.getD k 0 := by
        intro k hk hkn he
        have hk2 : k = 2 * i + 1 ∨ k = 2 * i + 2 := by omega
        unfold kid
        rcases hk2 with rfl | rfl
        · split
          · rename_i hc; exact Int.le_of_lt hc.2
          · exact Int.le_refl _
        · split
          · exact Int.le_refl _
          · rename_i hc
            rcases Int.lt_or_le (l.getD (2 * i + 2) 0) (l.getD (2 * i + 1) 0) with h | h
            · exact absurd ⟨hkn, h⟩ hc
            · exact h
      by_cases c2 : l.getD (kid n i l) 0 < l.getD i 0
      · rw [if_pos c2]
        refine down_heap f n _ _ (by rw [swp_len]; exact hn) (by omega) ?_ ?_ k hk hkn
        · intro k hk hkn hne
          rw [swp_at (by omega) (by omega), swp_at (by omega) (by omega)]
          rw [if_neg hne]
          by_cases e1 : (k - 1) / 2 = i
          · rw [if_pos e1]
            by_cases e2 : k = kid n i l
            · rw [if_pos e2]; omega
            · rw [if_neg e2, if_neg (by omega)]
              exact hmin k hk hkn e1
          · rw [if_neg e1]
            have e2 : k ≠ kid n i l := fun e => e1 (by rw [e]; exact hpar)
            rw [if_neg e2]
            by_cases e3 : k = i
            · rw [if_pos e3, e3]
              exact h2 _ (by omega) hq.1 hpar (by omega)
            · rw [if_neg e3]
              exact h1 k hk hkn e1
        · intro k hk hkn he hp
          rw [swp_at (by omega) (by omega), swp_at (by omega) (by omega), hpar]
          rw [if_neg (by omega), if_pos rfl, if_neg (by omega), if_neg (by omega)]
          have := h1 k hk hkn (by omega)
          rw [he] at this
          exact this
      · rw [if_neg c2]
        by_cases e : (k - 1) / 2 = i
        · have := hmin k hk hkn e
          rw [e]; omega
        · exact h1 k hk hkn e
theorem getD_app_lt {l r : List Int} {k : Nat} (h : k < l.length) : (l ++ r).getD k 0 = l.getD k 0 := by
  simp only [List.getD_eq_getElem?_getD, List.getElem?_append_left h]
theorem push_len (l : List Int) (x : Int) : (pushF l x).length = l.length + 1 := by unfold pushF; rw [upF_len]; simp
theorem push_perm (l : List Int) (x : Int) : (pushF l x).Perm (x :: l) := by
  unfold pushF
  refine (upF_perm _ _ _ (by simp)).trans ?_
  exact List.perm_append_comm
theorem push_heap {l : List Int} (h : Heap l) (x : Int) : Heap (pushF l x) := by
  unfold pushF
  refine up_heap _ _ _ (by simp) (by omega) ?_ ?_
  · intro k hk hl hne
    simp only [List.length_append, List.length_singleton] at hl
    rw [getD_app_lt (by omega), getD_app_lt (by omega)]
    exact h k hk (by omega)
  · intro k hk hl he hp
    simp only [List.length_append, List.length_singleton] at hl
    omega
theorem heap_min {l : List Int} (h : Heap l) : ∀ k, k < l.length → l.getD 0 0 ≤ l.getD k 0 := by
  intro k
  induction k using Nat.strongRecOn with
  | _ k ih =>
    intro hk
    rcases Nat.eq_zero_or_pos k with rfl | hp
    · exact Int.le_refl _
    · exact Int.le_trans (ih ((k - 1) / 2) (by omega) (by omega)) (h k hp hk)
theorem heap_min_mem {l : List Int} (h : Heap l) : ∀ x ∈ l, l.getD 0 0 ≤ x := by
  intro x hx
  obtain ⟨k, hk, rfl⟩ := List.mem_iff_getElem.1 hx
  have := heap_min h k hk
  simpa [List.getD_eq_getElem?_getD, List.getElem?_eq_getElem hk] using this
theorem pop_len {l : List Int} (h : l ≠ []) : (popF l).length = l.length - 1 := by
  unfold popF
  rw [List.length_take, downF_len, swp_len]
  omega
theorem take_at {l : List Int} {m k : Nat} (h : k < m) : (l.take m).getD k 0 = l.getD k 0 := by
  simp only [List.getD_eq_getElem?_getD, List.getElem?_take, if_pos h]
theorem pop_heap {l : List Int} (h : Heap l) (hl : l ≠ []) : Heap (popF l) := by
  have hpos : 0 < l.length := List.length_pos_iff.2 hl
  intro k hk hkl
  rw [pop_len hl] at hkl
  unfold popF
  rw [take_at (by omega), take_at hkl]
  refine down_heap _ _ _ _ (by rw [swp_len]; omega) (by omega) ?_ ?_ k hk hkl
  · intro k hk hkn hne
    rw [swp_at hpos (by omega), swp_at hpos (by omega), if_neg (by omega), if_neg hne, if_neg (by omega), if_neg (by omega)]
    exact h k hk (by omega)
  · intro k hk hkn he hp
    omega
theorem pop_last {l : List Int} (hl : l ≠ []) : (downF (l.length + 1) (l.length - 1) 0 (swp l 0 (l.length - 1))).getD (l.length - 1) 0 = l.getD 0 0 := by
  have hpos : 0 < l.length := List.length_pos_iff.2 hl
  rw [downF_ge _ _ _ _ _ (by rw [swp_len]; omega) (Nat.le_refl _), swp_at hpos (by omega), if_pos rfl]
theorem pop_perm {l : List Int} (hl : l ≠ []) : l.Perm (l.getD 0 0 :: popF l) := by
  have hpos : 0 < l.length := List.length_pos_iff.2 hl
  have h1 : (downF (l.length + 1) (l.length - 1) 0 (swp l 0 (l.length - 1))).Perm l := (downF_perm _ _ _ _ (by rw [swp_len]; omega)).trans (swp_perm hpos (by omega))
  refine h1.symm.trans ?_
  have hlen : (downF (l.length + 1) (l.length - 1) 0 (swp l 0 (l.length - 1))).length = l.length := by rw [downF_len, swp_len]
  have hd := pop_last hl
  unfold popF
  generalize downF (l.length + 1) (l.length - 1) 0 (swp l 0 (l.length - 1)) = d at *
  have e : d = d.take (l.length - 1) ++ [l.getD 0 0] := by
    have h2 : l.length - 1 < d.length := by omega
    have h3 : d[l.length - 1] = l.getD 0 0 := by rw [← hd]; simp [List.getD_eq_getElem?_getD, List.getElem?_eq_getElem h2]
    have h4 : d.take (l.length - 1 + 1) = d.take (l.length - 1) ++ [d[l.length - 1]] := List.take_succ_eq_append_getElem h2
    rw [← h3, ← h4, List.take_of_length_le (by omega)]
  rw [e]
  have : (d.take (l.length - 1) ++ [l.getD 0 0]).take (l.length - 1) = d.take (l.length - 1) := by
    rw [List.take_left' (by rw [List.length_take]; omega)]
  rw [this]
  exact List.perm_append_comm
end Go.Proofs.Hh
