/- Plain law: what the pins' functions keep. -/
import Derived.Test.YtjmnokbbodcaaaaPL2
namespace Go.Proofs.Ytjmnokbbodcaaaa.Lg
set_option linter.unusedVariables false
set_option linter.unusedSimpArgs false
open Go

theorem mem_dropLast_iff (l : List Snap) : (∀ x ∈ l.dropLast, 0 < x.pins) ↔ ∀ i, (h : i + 1 < l.length) → 0 < l[i].pins := by
  constructor
  · intro h i hi
    have h1 : i < l.dropLast.length := by simp; omega
    have := h _ (List.getElem_mem h1)
    simpa using this
  · intro h x hx
    obtain ⟨i, hi, rfl⟩ := List.getElem_of_mem hx
    simp only [List.length_dropLast] at hi
    simpa using h i (by omega)

theorem up_filter {l : List Snap} {q : Snap → Bool} (h : l.Pairwise (fun x y => x.id < y.id)) : (l.filter q).Pairwise (fun x y => x.id < y.id) := h.sublist List.filter_sublist

theorem okP_publish (p : Pins) (l : List Res) : OkP (rpublish p l).1 := by
  have h := okP_rsane p
  unfold rpublish
  simp only
  generalize rsane p = q at *
  split
  · exact h
  · rename_i h1
    split
    · exact h
    · rename_i h2
      have hw : IntKind.i64.wrap (q.next' + 1) = q.next' + 1 := IntWalk.i64_in _ (by have := h.lo; have := h.hi; omega)
      rw [hw]
      have h3 := h.hi; have h4 := h.lo
      refine ⟨by simp only; omega, by simp only; omega, by simp only [List.length_append, List.length_cons, List.length_nil]; omega, ?_, ?_, ?_⟩
      · rw [List.pairwise_append]
        refine ⟨up_filter h.up, by simp, fun x hx y hy => ?_⟩
        simp only [List.mem_singleton] at hy
        subst hy
        have := h.mem x ((List.mem_filter.1 hx).1)
        simp only; omega
      · intro x hx
        rcases List.mem_append.1 hx with hx | hx
        · have := h.mem x ((List.mem_filter.1 hx).1)
          simp only; omega
        · simp only [List.mem_singleton] at hx
          subst hx
          simp only; omega
      · intro x hx
        simp only [List.dropLast_concat] at hx
        simpa using (List.mem_filter.1 hx).2

theorem rwith_set {q : Pins} {k : Nat} {s : Snap} (hk : k < q.snaps.length) (h : 0 < s.pins ∨ k + 1 = q.snaps.length) : rwith q k s = ⟨q.next', q.snaps.set k s⟩ := by
  rw [rwith, if_pos h, set_take_drop _ _ _ hk]
theorem rwith_del {q : Pins} {k : Nat} {s : Snap} (h : ¬ (0 < s.pins ∨ k + 1 = q.snaps.length)) : rwith q k s = ⟨q.next', q.snaps.eraseIdx k⟩ := by
  rw [rwith, if_neg h, List.eraseIdx_eq_take_drop_succ]; simp

theorem okP_with {q : Pins} (h : OkP q) {k : Nat} {s : Snap} (hk : k < q.snaps.length) (hid : s.id = q.snaps[k].id) (h0 : 0 ≤ s.pins) (h1 : s.pins ≤ 10000) : OkP (rwith q k s) := by
  have hb := h.mem _ (List.getElem_mem hk)
  by_cases hc : 0 < s.pins ∨ k + 1 = q.snaps.length
  · rw [rwith_set hk hc]
    refine ⟨h.lo, h.hi, by simpa using h.len, ?_, ?_, ?_⟩
    · have h2 : (q.snaps.map (·.id)).Pairwise (· < ·) := List.pairwise_map.2 h.up
      suffices h3 : ((q.snaps.set k s).map (·.id)).Pairwise (· < ·) from List.pairwise_map.1 h3
      rw [List.map_set, hid]
      have : (q.snaps.map (·.id)).set k q.snaps[k].id = q.snaps.map (·.id) := by
        have e : q.snaps[k].id = (q.snaps.map (·.id))[k]'(by simpa using hk) := by simp
        rw [e, List.set_getElem_self]
      rw [this]; exact h2
    · intro x hx
      rcases List.mem_or_eq_of_mem_set hx with hx | rfl
      · exact h.mem x hx
      · simp only; omega
    · rw [mem_dropLast_iff]
      have hp := (mem_dropLast_iff _).1 h.pos
      intro i hi
      simp only [List.length_set] at hi
      simp only [List.getElem_set]
      split
      · omega
      · exact hp i hi
  · rw [rwith_del hc]
    refine ⟨h.lo, h.hi, ?_, h.up.sublist (List.eraseIdx_sublist _ _), fun x hx => h.mem x (List.mem_of_mem_eraseIdx hx), ?_⟩
    · have := h.len
      simp only [List.length_eraseIdx]; split <;> omega
    · rw [mem_dropLast_iff]
      have hp := (mem_dropLast_iff _).1 h.pos
      intro i hi
      simp only [List.length_eraseIdx, if_pos hk] at hi
      rw [List.getElem_eraseIdx]
      split
      · exact hp i (by omega)
      · exact hp (i + 1) (by omega)

theorem getLast_at {l : List Snap} {s : Snap} (h : l.getLast? = some s) : ∃ hk : l.length - 1 < l.length, l[l.length - 1] = s := by
  have hne : 0 < l.length := by
    cases l with
    | nil => simp at h
    | cons => simp
  refine ⟨by omega, ?_⟩
  rw [List.getLast?_eq_getElem?, List.getElem?_eq_getElem (by omega)] at h
  exact Option.some.inj h

theorem okP_pin (p : Pins) : OkP (rpin p).1 := by
  have h := okP_rsane p
  unfold rpin
  simp only
  generalize rsane p = q at *
  cases hg : q.snaps.getLast? with
  | none => exact h
  | some s =>
    obtain ⟨hk, rfl⟩ := getLast_at hg
    have hb := h.mem _ (List.getElem_mem hk)
    simp only
    split
    · exact h
    · have hw : IntKind.i64.wrap (q.snaps[q.snaps.length - 1].pins + 1) = q.snaps[q.snaps.length - 1].pins + 1 := IntWalk.i64_in _ (by omega)
      exact okP_with h hk rfl (by simp only [hw]; omega) (by simp only [hw]; omega)

/-- What a release does, of what may be. -/
theorem rrelease_none {q : Pins} (h : OkP q) {id : Int} (hn : ∀ x ∈ q.snaps, x.id ≠ id) : rrelease q id = (q, 10) := by
  rw [rrelease, rsane_of h, relR_none hn]
theorem rrelease_at {q : Pins} (h : OkP q) {k : Nat} (hk : k < q.snaps.length) : rrelease q q.snaps[k].id = if q.snaps[k].pins = 0 then (q, 15) else (rwith q k ⟨q.snaps[k].id, q.snaps[k].pins - 1, q.snaps[k].l⟩, 0) := by
  have hb := h.mem _ (List.getElem_mem hk)
  have hw : IntKind.i64.wrap (q.snaps[k].pins - 1) = q.snaps[k].pins - 1 := IntWalk.i64_in _ (by omega)
  rw [rrelease, rsane_of h, relR_at hk rfl (fun j hj hid => by
    have := up_one h.up (by omega) hk hid
    omega), hw, Nat.zero_add]
theorem rget_at {q : Pins} (h : OkP q) {k : Nat} (hk : k < q.snaps.length) : rget q q.snaps[k].id = (q.snaps[k].l, true) := by
  rw [rget, rsane_of h, find_eq h.up hk]
theorem rget_none {q : Pins} (h : OkP q) {id : Int} (hn : ∀ x ∈ q.snaps, x.id ≠ id) : rget q id = ([], false) := by
  have : q.snaps.find? (fun x => decide (x.id = id)) = none := by
    rw [List.find?_eq_none]; intro x hx; simpa using hn x hx
  rw [rget, rsane_of h, this]
theorem has_id (l : List Snap) (id : Int) : (∀ x ∈ l, x.id ≠ id) ∨ ∃ k, ∃ h : k < l.length, l[k].id = id := by
  by_cases h : ∀ x ∈ l, x.id ≠ id
  · exact .inl h
  · simp only [ne_eq, Decidable.not_not, Classical.not_forall] at h
    obtain ⟨x, hx, e⟩ := h
    obtain ⟨k, hk, rfl⟩ := List.getElem_of_mem hx
    exact .inr ⟨k, hk, e⟩
theorem rrelease_sane (p : Pins) (id : Int) : rrelease p id = rrelease (rsane p) id := by
  rw [rrelease, rrelease, rsane_of (okP_rsane p)]
theorem rget_sane (p : Pins) (id : Int) : rget p id = rget (rsane p) id := by
  rw [rget, rget, rsane_of (okP_rsane p)]
theorem okP_release (p : Pins) (id : Int) : OkP (rrelease p id).1 := by
  have h := okP_rsane p
  rw [rrelease_sane]
  generalize rsane p = q at *
  rcases has_id q.snaps id with hn | ⟨k, hk, rfl⟩
  · rw [rrelease_none h hn]; exact h
  · have hb := h.mem _ (List.getElem_mem hk)
    rw [rrelease_at h hk]
    split
    · exact h
    · exact okP_with h hk rfl (by simp only; omega) (by simp only; omega)

/-! ### Smallness -/
def SmP (p : Pins) : Prop := ∀ x ∈ p.snaps, SmSnap x
theorem smP_rsane {p : Pins} (h : SmP p) : SmP (rsane p) := by
  unfold rsane; split
  · exact h
  · intro x hx; simp at hx
theorem smP_publish {p : Pins} {l : List Res} (h : SmP p) (hl : Small l.length) (hs : ∀ x ∈ l, SmRes x) : SmP (rpublish p l).1 := by
  have h1 := smP_rsane h
  unfold rpublish
  simp only
  generalize rsane p = q at *
  split
  · exact h1
  · split
    · exact h1
    · intro x hx
      rcases List.mem_append.1 hx with hx | hx
      · exact h1 x ((List.mem_filter.1 hx).1)
      · simp only [List.mem_singleton] at hx
        subst hx
        exact ⟨hl, hs⟩
theorem smP_with {q : Pins} (h : SmP q) {k : Nat} {s : Snap} (hs : SmSnap s) : SmP (rwith q k s) := by
  intro x hx
  unfold rwith at hx
  simp only [List.mem_append] at hx
  rcases hx with (hx | hx) | hx
  · exact h x (List.mem_of_mem_take hx)
  · split at hx
    · simp only [List.mem_singleton] at hx; subst hx; exact hs
    · simp at hx
  · exact h x (List.mem_of_mem_drop hx)
theorem smP_pin {p : Pins} (h : SmP p) : SmP (rpin p).1 := by
  have h1 := smP_rsane h
  unfold rpin
  simp only
  generalize rsane p = q at *
  cases hg : q.snaps.getLast? with
  | none => exact h1
  | some s =>
    have hm : s ∈ q.snaps := List.mem_of_getLast? hg
    simp only
    split
    · exact h1
    · exact smP_with h1 (h1 s hm)
theorem smP_release {p : Pins} {id : Int} (h : SmP p) : SmP (rrelease p id).1 := by
  have h1 := smP_rsane h
  have h2 := okP_rsane p
  rw [rrelease_sane]
  generalize rsane p = q at *
  rcases has_id q.snaps id with hn | ⟨k, hk, rfl⟩
  · rw [rrelease_none h2 hn]; exact h1
  · rw [rrelease_at h2 hk]
    split
    · exact h1
    · exact smP_with h1 (show SmSnap _ from h1 q.snaps[k] (List.getElem_mem hk))
theorem smP_get {p : Pins} {id : Int} (h : SmP p) : Small (rget p id).1.length ∧ ∀ x ∈ (rget p id).1, SmRes x := by
  have h1 := smP_rsane h
  unfold rget
  split
  · simp [Small]
  · rename_i s hs
    exact h1 s (List.mem_of_find?_eq_some hs)
theorem smP_current {p : Pins} (h : SmP p) : Small (rcurrent p).2.1.length ∧ ∀ x ∈ (rcurrent p).2.1, SmRes x := by
  have h1 := smP_rsane h
  unfold rcurrent
  split
  · simp [Small]
  · rename_i s hs
    exact h1 s (List.mem_of_getLast? hs)
theorem OkP.small {p : Pins} (h : OkP p) : Small p.snaps.length := by have := h.len; unfold Small; omega
end Go.Proofs.Ytjmnokbbodcaaaa.Lg
