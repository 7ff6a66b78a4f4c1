/- How much is held. -/
import Derived.Test.YtjmnokbbodcaaaaP17
namespace Go.Proofs.Ytjmnokbbodcaaaa.Lg
set_option linter.unusedVariables false
set_option linter.unusedSimpArgs false
open Go

theorem heldL_le {xs : List Snap} (h : xs.all (fun s => fewAll s.l) = true) : (heldL xs).length ≤ 80 * xs.length := by
  induction xs with
  | nil => simp [heldL]
  | cons s r ih =>
    rw [List.all_cons, Bool.and_eq_true] at h
    have h1 := ih h.2
    have h2 : s.l.length ≤ 80 := by
      have := h.1
      unfold fewAll at this
      simp only [Bool.and_eq_true, decide_eq_true_eq] at this
      exact this.2
    rw [heldL_cons, List.length_append, List.length_map, List.length_cons]
    omega
theorem fewPins_held {p : Pins} (h : fewPins p = true) : Small (heldL p.snaps).length := by
  have h1 := fewPins_len h
  unfold fewPins at h
  rw [Bool.and_eq_true] at h
  have := heldL_le h.1
  unfold Small; omega
theorem psane_held {p : Pins} (h : Small (heldL p.snaps).length) : Small (heldL (psane p).snaps).length := by
  unfold psane; split
  · exact h
  · simp [heldL, Small]
theorem kcT_length : ∀ l : List Key, (kcT l).length ≤ l.length - 1
  | [] => by simp [kcT]
  | [_] => by simp [kcT]
  | a :: b :: r => by
    have := kcT_length (b :: r)
    rw [kcT]
    split <;> simp only [List.length_cons] at * <;> omega
theorem pheld_small {p : Pins} (h : Small (heldL p.snaps).length) : Small (pheld p).length := by
  have h1 := psane_held h
  have h2 := kcT_length (ksort (heldL (psane p).snaps))
  have h3 := ksort_length (heldL (psane p).snaps)
  unfold pheld kcompact
  rw [List.length_append]
  have h4 : ((ksort (heldL (psane p).snaps)).take 1).length ≤ 1 := by rw [List.length_take]; omega
  unfold Small at *; omega

end Go.Proofs.Ytjmnokbbodcaaaa.Lg
