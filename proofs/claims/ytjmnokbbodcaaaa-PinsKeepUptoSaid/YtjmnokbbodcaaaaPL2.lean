/- Plain law: what the program's pins do is what the document's do. -/
import Derived.Test.YtjmnokbbodcaaaaPL1
namespace Go.Proofs.Ytjmnokbbodcaaaa.Lg
set_option linter.unusedVariables false
set_option linter.unusedSimpArgs false
open Go

theorem rSaneL_iff {next : Int} : ∀ (l : List Snap) (a : Int), rSaneL next l a = true ↔ l.Pairwise (fun x y => x.id < y.id) ∧ (∀ x ∈ l, a < x.id ∧ x.id ≤ next ∧ 0 ≤ x.pins ∧ x.pins ≤ 10000) ∧ ∀ x ∈ l.dropLast, 0 < x.pins
  | [], a => by simp [rSaneL]
  | s :: r, a => by
    rw [rSaneL, Bool.and_eq_true, rSaneL_iff r s.id, List.pairwise_cons]
    cases r with
    | nil => simp; omega
    | cons y r =>
      simp only [List.dropLast_cons_cons]
      grind

/-- What may be. -/
structure OkP (p : Pins) : Prop where
  lo : 0 ≤ p.next'
  hi : p.next' ≤ 2147483647
  len : p.snaps.length ≤ 1000
  up : p.snaps.Pairwise (fun x y => x.id < y.id)
  mem : ∀ x ∈ p.snaps, 0 < x.id ∧ x.id ≤ p.next' ∧ 0 ≤ x.pins ∧ x.pins ≤ 10000
  pos : ∀ x ∈ p.snaps.dropLast, 0 < x.pins
theorem rSane_iff (p : Pins) : rSane p = true ↔ OkP p := by
  unfold rSane
  rw [Bool.and_eq_true, rSaneL_iff]
  simp only [Bool.not_eq_true', Bool.or_eq_false_iff, decide_eq_false_iff_not]
  constructor
  · rintro ⟨⟨⟨h1, h2⟩, h3⟩, h4, h5, h6⟩
    exact ⟨by omega, by omega, by omega, h4, h5, h6⟩
  · rintro ⟨h1, h2, h3, h4, h5, h6⟩
    exact ⟨⟨⟨by omega, by omega⟩, by omega⟩, h4, h5, h6⟩
theorem pSane_iff (p : Pins) : pSane p = true ↔ OkP p := by rw [pSane_eq, rSane_iff]
theorem okP_empty : OkP ⟨0, []⟩ := ⟨by simp, by simp, by simp, .nil, by simp, by simp⟩
theorem okP_rsane (p : Pins) : OkP (rsane p) := by
  unfold rsane
  split
  · exact (rSane_iff p).1 (by assumption)
  · exact okP_empty
theorem rsane_of {p : Pins} (h : OkP p) : rsane p = p := by unfold rsane; rw [if_pos ((rSane_iff p).2 h)]
theorem psane_of {p : Pins} (h : OkP p) : psane p = p := by rw [psane_eq, rsane_of h]

theorem ppublish_eq (p : Pins) (l : List Res) : ppublish p l = rpublish p l := by
  have h := okP_rsane p
  unfold ppublish rpublish
  rw [psane_eq]
  have e : (rsane p).snaps.filter (fun x => !decide (x.pins = 0)) = (rsane p).snaps.filter (fun x => decide (0 < x.pins)) := by
    apply List.filter_congr
    intro x hx
    have := h.mem x hx
    rw [Bool.eq_iff_iff]
    simp only [Bool.not_eq_true', decide_eq_false_iff_not, decide_eq_true_eq]
    omega
  simp only [e]
theorem set_take_drop {α : Type} (l : List α) (i : Nat) (x : α) (h : i < l.length) : l.set i x = l.take i ++ [x] ++ l.drop (i + 1) := by
  rw [List.set_eq_take_append_cons_drop, if_pos h]; simp
theorem ppin_eq (p : Pins) : ppin p = rpin p := by
  unfold ppin rpin
  rw [psane_eq]
  cases hg : (rsane p).snaps.getLast? with
  | none => simp [hg]
  | some s =>
    have hne : 0 < (rsane p).snaps.length := by
      cases h0 : (rsane p).snaps with
      | nil => rw [h0] at hg; simp at hg
      | cons => simp
    simp only [hg]
    split
    · rfl
    · rw [rwith, set_take_drop _ _ _ (by omega), if_pos (.inr (by omega))]

theorem relR_none {q : Pins} {id : Int} : ∀ {l : List Snap} {i : Nat}, (∀ x ∈ l, x.id ≠ id) → relR q id l i = (q, 10)
  | [], _, _ => rfl
  | s :: r, i, h => by
    rw [relR, if_neg (h s (by simp)), relR_none fun x hx => h x (by simp [hx])]
theorem relR_at {q : Pins} {id : Int} : ∀ {l : List Snap} {i k : Nat} (hk : k < l.length), l[k].id = id → (∀ j, (h : j < k) → l[j].id ≠ id) →
    relR q id l i = if l[k].pins = 0 then (q, 15) else (rwith q (i + k) ⟨l[k].id, IntKind.i64.wrap (l[k].pins - 1), l[k].l⟩, 0)
  | [], _, _, hk, _, _ => by simp at hk
  | s :: r, i, 0, hk, h1, _ => by
    rw [relR, if_pos (by simpa using h1)]; simp
  | s :: r, i, k + 1, hk, h1, h2 => by
    rw [relR, if_neg (by simpa using h2 0 (by omega)), relR_at (k := k) (by simpa using hk) (by simpa using h1) (fun j hj => by simpa using h2 (j + 1) (by omega))]
    have : i + 1 + k = i + (k + 1) := by omega
    rw [this]; simp
theorem prelease_eq (p : Pins) (id : Int) : prelease p id = rrelease p id := by
  have hok := okP_rsane p
  have hu := rsane_up p
  unfold prelease rrelease
  rw [psane_eq]
  generalize rsane p = q at *
  simp only
  by_cases h : placeN q.snaps id q.snaps.length = -1
  · have hn := placeN_none (Nat.le_refl _) h
    rw [h, if_pos (by omega), relR_none]
    intro x hx
    obtain ⟨j, hj, rfl⟩ := List.getElem_of_mem hx
    exact hn j hj hj
  · obtain ⟨k, hk, e, rfl⟩ := placeN_some (Nat.le_refl _) h
    have hb := hok.mem _ (List.getElem_mem hk)
    rw [e, if_neg (by omega), relR_at hk rfl (fun j hj hid => by
      have := up_one hu (by omega) hk hid
      omega)]
    have hgd : q.snaps.getD k default = q.snaps[k] := by simp [hk]
    simp only [Int.toNat_natCast, hgd, Nat.zero_add]
    by_cases h0 : q.snaps[k].pins = 0
    · simp [h0]
    · have hw : IntKind.i64.wrap (q.snaps[k].pins - 1) = q.snaps[k].pins - 1 := IntWalk.i64_in _ (by omega)
      simp only [h0, if_false, hw]
      unfold rwith
      by_cases h1 : (k : Int) ≠ (q.snaps.length : Int) - 1 ∧ q.snaps[k].pins - 1 = 0
      · rw [if_pos h1, if_neg (show ¬ (0 < q.snaps[k].pins - 1 ∨ k + 1 = q.snaps.length) by omega), set_take_drop _ _ _ hk]
        simp [List.take_append, List.drop_append, Nat.min_eq_left (Nat.le_of_lt hk)]
      · rw [if_neg h1, if_pos (by show 0 < q.snaps[k].pins - 1 ∨ k + 1 = q.snaps.length; omega), set_take_drop _ _ _ hk]

/-! ### What is held -/
theorem ncmp_eq : ∀ a b : List UInt8, ncmp a b = Lib.compareBytes a b
  | [], [] => rfl
  | [], _ :: _ => rfl
  | _ :: _, [] => rfl
  | x :: a, y :: b => by
    simp only [ncmp, Lib.compareBytes, UInt8.lt_iff_toNat_lt, ncmp_eq a b]
theorem kcmp3_eq (a b : Key) : kcmp3 a b = kcmp a b := by rw [kcmp_def, kcmp3, ncmp_eq]

/-- Keys that go up, each once. -/
def Up (l : List Key) : Prop := l.Pairwise fun x y => kcmp x y < 0
theorem up_ext : ∀ {l r : List Key}, Up l → Up r → (∀ x, x ∈ l ↔ x ∈ r) → l = r
  | [], [], _, _, _ => rfl
  | [], y :: r, _, _, h => by have := (h y).2 (by simp); simp at this
  | x :: l, [], _, _, h => by have := (h x).1 (by simp); simp at this
  | x :: l, y :: r, hl, hr, h => by
    obtain ⟨hl1, hl2⟩ := List.pairwise_cons.1 hl
    obtain ⟨hr1, hr2⟩ := List.pairwise_cons.1 hr
    have hxy : x = y := by
      rcases List.mem_cons.1 ((h x).1 (by simp)) with e | hx
      · exact e
      · rcases List.mem_cons.1 ((h y).2 (by simp)) with e | hy
        · exact e.symm
        · exact absurd (kcmp_trans _ _ _ (hl1 y hy) (hr1 x hx)) (kcmp_irrefl _)
    subst hxy
    rw [up_ext hl2 hr2 fun z => ?_]
    constructor
    · intro hz
      rcases List.mem_cons.1 ((h z).1 (List.mem_cons_of_mem _ hz)) with e | hz'
      · subst e; exact absurd (hl1 z hz) (kcmp_irrefl _)
      · exact hz'
    · intro hz
      rcases List.mem_cons.1 ((h z).2 (List.mem_cons_of_mem _ hz)) with e | hz'
      · subst e; exact absurd (hr1 z hz) (kcmp_irrefl _)
      · exact hz'

theorem putL_true (k : Key) : ∀ {l : List Key}, (∀ x ∈ l, kcmp3 x k ≠ 0) → putL k l true = l
  | [], _ => rfl
  | x :: r, h => by
    rw [putL, if_neg (h x (by simp))]
    simp only [Bool.not_true, Bool.and_false, Bool.true_or, Bool.false_eq_true, if_false, List.nil_append]
    rw [putL_true k fun y hy => h y (by simp [hy])]; rfl
theorem mem_putL (k : Key) : ∀ {l : List Key}, Up l → ∀ x, x ∈ putL k l false ↔ x = k ∨ x ∈ l
  | [], _, x => by simp [putL]
  | y :: r, h, x => by
    obtain ⟨h1, h2⟩ := List.pairwise_cons.1 h
    rw [putL, kcmp3_eq]
    by_cases h0 : kcmp y k < 0
    · have e1 : ¬ 0 ≤ kcmp y k := by omega
      have e2 : ¬ kcmp y k = 0 := by omega
      simp only [e1, decide_false, Bool.false_and, Bool.or_false, Bool.false_eq_true, if_false, e2, List.nil_append, List.cons_append, List.mem_cons]
      rw [mem_putL k h2]; grind
    · have e1 : 0 ≤ kcmp y k := by omega
      have hr : ∀ z ∈ r, kcmp3 z k ≠ 0 := fun z hz => by
        rw [kcmp3_eq]
        intro h3
        have := kcmp_zero _ _ h3
        subst this
        have := h1 z hz
        omega
      simp only [e1, decide_true, Bool.or_true, Bool.not_false, Bool.and_true, if_true]
      rw [putL_true k hr]
      by_cases e2 : kcmp y k = 0
      · have := kcmp_zero _ _ e2
        subst this
        simp [e2]
      · simp [e2]
theorem up_putL (k : Key) : ∀ {l : List Key}, Up l → Up (putL k l false)
  | [], _ => by simp [putL, Up]
  | y :: r, h => by
    obtain ⟨h1, h2⟩ := List.pairwise_cons.1 h
    have hm := mem_putL k h2
    have hu := up_putL k h2
    rw [putL, kcmp3_eq]
    by_cases h0 : kcmp y k < 0
    · have e1 : ¬ 0 ≤ kcmp y k := by omega
      have e2 : ¬ kcmp y k = 0 := by omega
      simp only [e1, decide_false, Bool.false_and, Bool.or_false, Bool.false_eq_true, if_false, e2, List.nil_append, List.cons_append]
      refine List.pairwise_cons.2 ⟨fun z hz => ?_, hu⟩
      rcases (hm z).1 hz with rfl | hz
      · exact h0
      · exact h1 z hz
    · have e1 : 0 ≤ kcmp y k := by omega
      have hr : ∀ z ∈ r, kcmp3 z k ≠ 0 := fun z hz => by
        rw [kcmp3_eq]
        intro h3
        have := kcmp_zero _ _ h3
        subst this
        have := h1 z hz
        omega
      simp only [e1, decide_true, Bool.or_true, Bool.not_false, Bool.and_true, if_true]
      rw [putL_true k hr]
      by_cases e2 : kcmp y k = 0
      · have := kcmp_zero _ _ e2
        subst this
        simp only [e2, if_true, List.append_nil, List.cons_append, List.nil_append]
        exact h
      · simp only [e2, if_false, List.cons_append, List.nil_append]
        have hky : kcmp k y < 0 := by have := kcmp_swap y k; omega
        refine List.pairwise_cons.2 ⟨fun z hz => ?_, h⟩
        rcases List.mem_cons.1 hz with rfl | hz
        · exact hky
        · exact kcmp_trans _ _ _ hky (h1 z hz)
theorem fold_put : ∀ (K : List Key) {ys : List Key}, Up ys → Up (K.foldl kput ys) ∧ ∀ x, x ∈ K.foldl kput ys ↔ x ∈ ys ∨ x ∈ K
  | [], ys, h => ⟨h, by simp⟩
  | k :: K, ys, h => by
    obtain ⟨h1, h2⟩ := fold_put K (up_putL k h)
    refine ⟨h1, fun x => ?_⟩
    rw [List.foldl_cons]
    have := h2 x
    rw [show kput ys k = putL k ys false from rfl, this, mem_putL k h]
    simp only [List.mem_cons]; grind

/-- Keys that never go down. -/
def Le (l : List Key) : Prop := l.Pairwise fun x y => ¬ kcmp y x < 0
theorem ksort_le (K : List Key) : Le (ksort K) := by
  have := List.pairwise_mergeSort (le := fun x y : Key => !decide (kcmp y x < 0)) (fun a b c h k => by
    simp only [Bool.not_eq_true', decide_eq_false_iff_not] at h k ⊢
    intro h3
    by_cases h4 : kcmp b c = 0
    · have := kcmp_zero _ _ h4; subst this; exact h h3
    · have : kcmp b c < 0 := by have := kcmp_swap b c; omega
      exact h (kcmp_trans _ _ _ this h3)) (fun a b => by
    simp only [Bool.or_eq_true, Bool.not_eq_true', decide_eq_false_iff_not]
    have := kcmp_swap a b; omega) K
  unfold Le ksort
  exact this.imp fun h => by simpa using h
theorem ksort_mem (K : List Key) (x : Key) : x ∈ ksort K ↔ x ∈ K := by unfold ksort; exact List.mem_mergeSort
theorem kcT_mem : ∀ {l : List Key} {x : Key}, x ∈ kcT l → x ∈ l
  | [], _, h => by simp [kcT] at h
  | [_], _, h => by simp [kcT] at h
  | a :: b :: r, x, h => by
    rw [kcT] at h
    split at h
    · exact List.mem_cons_of_mem _ (kcT_mem h)
    · rcases List.mem_cons.1 h with e | h
      · simp [e]
      · exact List.mem_cons_of_mem _ (kcT_mem h)
theorem kcT_up : ∀ {a : Key} {r : List Key}, Le (a :: r) → Up (a :: kcT (a :: r)) ∧ ∀ x, x ∈ a :: kcT (a :: r) ↔ x ∈ a :: r
  | a, [], _ => by simp [kcT, Up]
  | a, b :: r, h => by
    obtain ⟨h1, h2⟩ := List.pairwise_cons.1 h
    obtain ⟨u, m⟩ := kcT_up h2
    rw [kcT]
    by_cases e : b = a
    · subst e
      rw [if_pos rfl]
      exact ⟨u, fun x => by rw [m]; simp⟩
    · rw [if_neg e]
      refine ⟨List.pairwise_cons.2 ⟨fun z hz => ?_, u⟩, fun x => ?_⟩
      · have hab : kcmp a b < 0 := by
          have h3 := h1 b (by simp)
          have h4 := kcmp_swap a b
          by_cases h5 : kcmp a b = 0
          · exact absurd (kcmp_zero _ _ h5).symm e
          · omega
        rcases List.mem_cons.1 hz with rfl | hz
        · exact hab
        · exact kcmp_trans _ _ _ hab ((List.pairwise_cons.1 u).1 z hz)
      · rw [List.mem_cons, m, ← List.mem_cons]
theorem kcompact_up {l : List Key} (h : Le l) : Up (kcompact l) ∧ ∀ x, x ∈ kcompact l ↔ x ∈ l := by
  unfold kcompact
  cases l with
  | nil => simp [kcT, Up]
  | cons a r => simpa using kcT_up h
theorem pheld_up (p : Pins) : Up (pheld p) ∧ ∀ x, x ∈ pheld p ↔ x ∈ heldL (psane p).snaps := by
  obtain ⟨h1, h2⟩ := kcompact_up (ksort_le (heldL (psane p).snaps))
  exact ⟨h1, fun x => by rw [pheld, h2, ksort_mem]⟩
theorem pheld_eq (p : Pins) : pheld p = rheld p := by
  obtain ⟨h1, h2⟩ := pheld_up p
  obtain ⟨h3, h4⟩ := fold_put (heldL (rsane p).snaps) (ys := []) .nil
  refine up_ext h1 h3 fun x => ?_
  rw [h2, show rheld p = (heldL (rsane p).snaps).foldl kput [] from rfl, h4, psane_eq]; simp
end Go.Proofs.Ytjmnokbbodcaaaa.Lg
