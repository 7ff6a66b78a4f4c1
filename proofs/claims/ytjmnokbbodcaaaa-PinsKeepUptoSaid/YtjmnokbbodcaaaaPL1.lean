/- Plain law: the two packages' Sane agree; places and finds at increasing ids. -/
import Derived.Test.YtjmnokbbodcaaaaPK
namespace Go.Proofs.Ytjmnokbbodcaaaa.Lg
set_option linter.unusedVariables false
set_option linter.unusedSimpArgs false
open Go

theorem pSaneL_eq {next : Int} (hn : next ≤ 2147483647) : ∀ (l : List Snap) (a : Int), 0 ≤ a → a ≤ next → pSaneL next l a = rSaneL next l a
  | [], _, _, _ => rfl
  | s :: r, a, h0, h1 => by
    have hw : IntKind.i64.wrap (a + 1) = a + 1 := IntWalk.i64_in _ (by omega)
    rw [pSaneL, rSaneL, hw]
    by_cases h2 : a + 1 ≤ s.id ∧ s.id ≤ next
    · rw [pSaneL_eq hn r s.id (by omega) h2.2]
      congr 1
      rw [Bool.eq_iff_iff]
      by_cases hr : r = []
      · simp only [within, hr, if_true, ne_eq, not_true, decide_false, Bool.and_false, Bool.or_false, Bool.and_eq_true, Bool.not_eq_true', Bool.or_eq_false_iff, decide_eq_true_eq, decide_eq_false_iff_not]
        omega
      · simp only [within, hr, if_false, ne_eq, not_false_eq_true, decide_true, Bool.and_true, Bool.and_eq_true, Bool.not_eq_true', Bool.or_eq_false_iff, decide_eq_true_eq, decide_eq_false_iff_not]
        omega
    · have e1 : within s.id (a + 1) next = false := by
        simp only [within, Bool.and_eq_false_iff, decide_eq_false_iff_not]; omega
      have e2 : (decide (s.id ≤ a) || decide (next < s.id)) = true := by
        simp only [Bool.or_eq_true, decide_eq_true_eq]; omega
      rw [e1, e2]; simp
theorem pSane_eq (p : Pins) : pSane p = rSane p := by
  unfold pSane rSane
  by_cases h : 0 ≤ p.next' ∧ p.next' ≤ 2147483647
  · rw [pSaneL_eq h.2 _ 0 (by omega) h.1]
    generalize rSaneL p.next' p.snaps 0 = b
    rw [Bool.eq_iff_iff]
    simp only [within, Bool.and_eq_true, Bool.not_eq_true', Bool.or_eq_false_iff, decide_eq_true_eq, decide_eq_false_iff_not]
    constructor
    · rintro ⟨h1, _, h2⟩; exact ⟨⟨⟨by omega, by omega⟩, by omega⟩, h1⟩
    · rintro ⟨⟨⟨_, _⟩, h2⟩, h1⟩; exact ⟨h1, h, by omega⟩
  · have e1 : within p.next' 0 2147483647 = false := by
      simp only [within, Bool.and_eq_false_iff, decide_eq_false_iff_not]; omega
    have e2 : (decide (p.next' < 0) || decide (2147483647 < p.next')) = true := by
      simp only [Bool.or_eq_true, decide_eq_true_eq]; omega
    rw [e1, e2]; simp
theorem psane_eq (p : Pins) : psane p = rsane p := by unfold psane rsane; rw [pSane_eq]

/-- Ids go up. -/
theorem rSaneL_up {next : Int} : ∀ {l : List Snap} {a : Int}, rSaneL next l a = true → l.Pairwise (fun x y => x.id < y.id) ∧ ∀ x ∈ l, a < x.id ∧ x.id ≤ next ∧ 0 ≤ x.pins ∧ x.pins ≤ 10000
  | [], _, _ => ⟨.nil, by simp⟩
  | s :: r, a, h => by
    rw [rSaneL] at h
    simp only [Bool.and_eq_true, Bool.not_eq_true', Bool.or_eq_false_iff, decide_eq_false_iff_not] at h
    obtain ⟨⟨⟨⟨⟨h1, h2⟩, h3⟩, h4⟩, _⟩, h5⟩ := h
    obtain ⟨h6, h7⟩ := rSaneL_up h5
    refine ⟨.cons (fun x hx => (h7 x hx).1) h6, fun x hx => ?_⟩
    rcases List.mem_cons.1 hx with rfl | hx
    · omega
    · have := h7 x hx; omega
theorem rSaneL_pos {next : Int} : ∀ {l : List Snap} {a : Int}, rSaneL next l a = true → ∀ x ∈ l.dropLast, 0 < x.pins
  | [], _, _ => by simp
  | s :: r, a, h => by
    rw [rSaneL] at h
    simp only [Bool.and_eq_true, Bool.not_eq_true', Bool.or_eq_false_iff, decide_eq_false_iff_not, Bool.and_eq_false_iff] at h
    obtain ⟨⟨⟨⟨⟨h1, h2⟩, h3⟩, h4⟩, h8⟩, h5⟩ := h
    cases r with
    | nil => simp
    | cons y r =>
      intro x hx
      rw [List.dropLast_cons_cons, List.mem_cons] at hx
      rcases hx with rfl | hx
      · simp at h8; omega
      · exact rSaneL_pos h5 x hx

theorem placeN_none {xs : List Snap} {id : Int} : ∀ {n : Nat}, n ≤ xs.length → placeN xs id n = -1 → ∀ k, (h : k < xs.length) → k < n → xs[k].id ≠ id
  | 0, _, _, k, _, hk => by omega
  | n + 1, hn, h, k, hkl, hk => by
    rw [placeN] at h
    split at h
    · omega
    · rename_i hne
      by_cases e : k = n
      · subst e
        have : xs.getD k default = xs[k] := by simp [hkl]
        rwa [this] at hne
      · exact placeN_none (by omega) h k hkl (by omega)
theorem placeN_some {xs : List Snap} {id : Int} : ∀ {n : Nat}, n ≤ xs.length → placeN xs id n ≠ -1 → ∃ k, ∃ h : k < xs.length, placeN xs id n = k ∧ xs[k].id = id
  | 0, _, h => by simp [placeN] at h
  | n + 1, hn, h => by
    rw [placeN] at h ⊢
    by_cases e : (xs.getD n default).id = id
    · rw [if_pos e]
      have hlt : n < xs.length := by omega
      have e2 : xs.getD n default = xs[n] := by simp [hlt]
      exact ⟨n, hlt, rfl, by rwa [e2] at e⟩
    · rw [if_neg e] at h ⊢
      exact placeN_some (by omega) h
/-- At ids that go up there is one place at the most. -/
theorem up_one {xs : List Snap} (hu : xs.Pairwise (fun x y => x.id < y.id)) {i j : Nat} (hi : i < xs.length) (hj : j < xs.length) (h : xs[i].id = xs[j].id) : i = j := by
  rw [List.pairwise_iff_getElem] at hu
  rcases Nat.lt_trichotomy i j with h1 | h1 | h1
  · have := hu i j hi hj h1; omega
  · exact h1
  · have := hu j i hj hi h1; omega
theorem place_eq {xs : List Snap} (hu : xs.Pairwise (fun x y => x.id < y.id)) {k : Nat} (hk : k < xs.length) : placeN xs xs[k].id xs.length = k := by
  by_cases h : placeN xs xs[k].id xs.length = -1
  · exact absurd rfl (placeN_none (Nat.le_refl _) h k hk hk)
  · obtain ⟨j, hj, e, hid⟩ := placeN_some (Nat.le_refl _) h
    rw [e, up_one hu hj hk hid]
theorem find_eq {xs : List Snap} (hu : xs.Pairwise (fun x y => x.id < y.id)) {k : Nat} (hk : k < xs.length) : xs.find? (fun x => decide (x.id = xs[k].id)) = some xs[k] := by
  cases hf : xs.find? (fun x => decide (x.id = xs[k].id)) with
  | none =>
    have := List.find?_eq_none.1 hf xs[k] (List.getElem_mem hk)
    simp at this
  | some y =>
    have h1 := List.find?_some hf
    have h2 := List.mem_of_find?_eq_some hf
    obtain ⟨j, hj, rfl⟩ := List.getElem_of_mem h2
    have : j = k := up_one hu hj hk (by simpa using h1)
    subst this; rfl
theorem rsane_up (p : Pins) : (rsane p).snaps.Pairwise (fun x y => x.id < y.id) := by
  unfold rsane
  split
  · rename_i h
    unfold rSane at h
    simp only [Bool.and_eq_true] at h
    exact (rSaneL_up h.2).1
  · exact .nil
theorem pget_eq (p : Pins) (id : Int) : pget p id = rget p id := by
  unfold pget rget
  rw [psane_eq]
  simp only
  have hu := rsane_up p
  generalize (rsane p).snaps = xs at *
  by_cases h : placeN xs id xs.length = -1
  · have hn := placeN_none (Nat.le_refl _) h
    rw [h, if_pos (by omega)]
    have : xs.find? (fun x => decide (x.id = id)) = none := by
      rw [List.find?_eq_none]
      intro x hx
      obtain ⟨j, hj, rfl⟩ := List.getElem_of_mem hx
      simpa using hn j hj hj
    rw [this]
  · obtain ⟨k, hk, e, rfl⟩ := placeN_some (Nat.le_refl _) h
    rw [e, if_neg (by omega), find_eq hu hk]
    simp [hk]
theorem pcurrent_eq (p : Pins) : pcurrent p = rcurrent p := by unfold pcurrent rcurrent; rw [psane_eq]; cases (rsane p).snaps.getLast? <;> rfl
end Go.Proofs.Ytjmnokbbodcaaaa.Lg
