/- The order of keys; what is held, as plain functions. -/
import Derived.Test.YtjmnokbbodcaaaaP10
namespace Go.Proofs.Ytjmnokbbodcaaaa.Lg
set_option linter.unusedVariables false
set_option linter.unusedSimpArgs false
open Go

theorem cb_swap : ∀ a b : List UInt8, Lib.compareBytes b a = - Lib.compareBytes a b
  | [], [] => rfl
  | [], _ :: _ => rfl
  | _ :: _, [] => rfl
  | x :: a, y :: b => by
    have h := cb_swap a b
    have hxy : ¬ (x < y ∧ y < x) := fun h => by simp only [UInt8.lt_iff_toNat_lt] at h; omega
    simp only [Lib.compareBytes]
    by_cases h1 : x < y <;> by_cases h2 : y < x <;> simp [h1, h2, h]
    exact absurd ⟨h1, h2⟩ hxy
theorem cb_zero : ∀ a b : List UInt8, Lib.compareBytes a b = 0 → a = b
  | [], [] => fun _ => rfl
  | [], _ :: _ => fun h => by simp [Lib.compareBytes] at h
  | _ :: _, [] => fun h => by simp [Lib.compareBytes] at h
  | x :: a, y :: b => fun h => by
    simp only [Lib.compareBytes] at h
    by_cases h1 : x < y
    · simp [h1] at h
    · by_cases h2 : y < x
      · simp [h1, h2] at h
      · have e : x = y := by
          apply UInt8.toNat_inj.1
          simp only [UInt8.lt_iff_toNat_lt] at h1 h2; omega
        rw [if_neg h1, if_neg h2] at h
        rw [e, cb_zero a b h]
theorem cb_trans : ∀ a b c : List UInt8, Lib.compareBytes a b < 0 → Lib.compareBytes b c < 0 → Lib.compareBytes a c < 0
  | [], [], _, h, _ => by simp [Lib.compareBytes] at h
  | [], _ :: _, [], _, h => by simp [Lib.compareBytes] at h
  | [], _ :: _, _ :: _, _, _ => by simp [Lib.compareBytes]
  | _ :: _, [], _, h, _ => by simp [Lib.compareBytes] at h
  | _ :: _, _ :: _, [], _, h => by simp [Lib.compareBytes] at h
  | x :: a, y :: b, z :: c, h, k => by
    simp only [Lib.compareBytes, UInt8.lt_iff_toNat_lt] at h k ⊢
    by_cases h1 : x.toNat < y.toNat
    · by_cases k1 : y.toNat < z.toNat
      · rw [if_pos (by omega)]; omega
      · rw [if_neg k1] at k
        by_cases k2 : z.toNat < y.toNat
        · rw [if_pos k2] at k; omega
        · rw [if_pos (by omega)]; omega
    · rw [if_neg h1] at h
      by_cases h2 : y.toNat < x.toNat
      · rw [if_pos h2] at h; omega
      · rw [if_neg h2] at h
        by_cases k1 : y.toNat < z.toNat
        · rw [if_pos (by omega)]; omega
        · rw [if_neg k1] at k
          by_cases k2 : z.toNat < y.toNat
          · rw [if_pos k2] at k; omega
          · rw [if_neg k2] at k
            rw [if_neg (by omega), if_neg (by omega)]
            exact cb_trans a b c h k

theorem kcmp_def (a b : Key) : kcmp a b = if a.kind < b.kind then -1 else if b.kind < a.kind then 1 else Lib.compareBytes a.name b.name := by
  unfold kcmp scmp
  generalize Lib.compareBytes a.name b.name = c
  simp only [ior, icmp]
  by_cases h1 : a.kind < b.kind
  · simp [h1]
  · by_cases h2 : b.kind < a.kind
    · simp [h1, h2]
    · by_cases h3 : c = 0
      · simp [h1, h2, h3]
      · simp [h1, h2, h3]
theorem kcmp_swap (a b : Key) : kcmp b a = - kcmp a b := by
  have h := cb_swap a.name b.name
  rw [kcmp_def, kcmp_def, h]
  by_cases h1 : a.kind < b.kind
  · rw [if_neg (by omega), if_pos h1, if_pos h1]; rfl
  · by_cases h2 : b.kind < a.kind
    · rw [if_pos h2, if_neg h1, if_pos h2]
    · rw [if_neg h2, if_neg h1, if_neg h1, if_neg h2]
theorem kcmp_zero (a b : Key) (h : kcmp a b = 0) : a = b := by
  obtain ⟨k1, n1⟩ := a; obtain ⟨k2, n2⟩ := b
  rw [kcmp_def] at h
  simp only at h
  by_cases h1 : k1 < k2
  · rw [if_pos h1] at h; omega
  · by_cases h2 : k2 < k1
    · rw [if_neg h1, if_pos h2] at h; omega
    · rw [if_neg h1, if_neg h2] at h
      have e : k1 = k2 := by omega
      rw [e, cb_zero _ _ h]
theorem kcmp_lt (a b : Key) : kcmp a b < 0 ↔ a.kind < b.kind ∨ (a.kind = b.kind ∧ Lib.compareBytes a.name b.name < 0) := by
  rw [kcmp_def]
  by_cases h1 : a.kind < b.kind
  · rw [if_pos h1]; omega
  · by_cases h2 : b.kind < a.kind
    · rw [if_neg h1, if_pos h2]; omega
    · rw [if_neg h1, if_neg h2]; omega
theorem kcmp_trans (a b c : Key) (h : kcmp a b < 0) (k : kcmp b c < 0) : kcmp a c < 0 := by
  rw [kcmp_lt] at h k ⊢
  rcases h with h | ⟨h, h'⟩ <;> rcases k with k | ⟨k, k'⟩
  · exact .inl (by omega)
  · exact .inl (by omega)
  · exact .inl (by omega)
  · exact .inr ⟨by omega, cb_trans _ _ _ h' k'⟩
theorem kcmp_irrefl (a : Key) : ¬ kcmp a a < 0 := fun h => by have := kcmp_swap a a; omega

def ksort (xs : List Key) : List Key := xs.mergeSort fun x y => !decide (kcmp y x < 0)
theorem ksort_length (xs : List Key) : (ksort xs).length = xs.length := by simp [ksort]

def kcT : List Key → List Key
  | x :: y :: r => if y = x then kcT (y :: r) else y :: kcT (y :: r)
  | _ => []
def kcompact (xs : List Key) : List Key := xs.take 1 ++ kcT xs

def heldL (l : List Snap) : List Key := l.flatMap fun s => s.l.map keyOf
def pheld (p : Pins) : List Key := kcompact (ksort (heldL (psane p).snaps))
theorem heldL_cons (s : Snap) (l : List Snap) : heldL (s :: l) = s.l.map keyOf ++ heldL l := rfl

theorem putL_length (k : Key) : ∀ (l : List Key) (d : Bool), (putL k l d).length ≤ l.length + (if d then 0 else 1)
  | [], d => by cases d <;> simp [putL]
  | x :: r, d => by
    have h := putL_length k r (d || decide (0 ≤ kcmp3 x k))
    have hb : (if kcmp3 x k = 0 then ([] : List Key) else [x]).length ≤ 1 := by split <;> simp
    rw [putL]
    generalize (if kcmp3 x k = 0 then ([] : List Key) else [x]) = B at *
    cases d with
    | true => simp only [Bool.true_or, Bool.not_true, Bool.and_false, Bool.false_eq_true, if_false, if_true, List.length_append, List.length_nil, List.length_cons] at h ⊢; omega
    | false =>
      by_cases h1 : 0 ≤ kcmp3 x k
      · simp only [h1, decide_true, Bool.false_or, Bool.not_false, Bool.and_true, Bool.false_eq_true, if_false, if_true, List.length_append, List.length_nil, List.length_cons] at h ⊢; omega
      · simp only [h1, decide_false, Bool.false_or, Bool.not_false, Bool.and_true, Bool.false_eq_true, if_false, if_true, List.length_append, List.length_nil, List.length_cons] at h ⊢; omega
theorem kput_length (l : List Key) (k : Key) : (kput l k).length ≤ l.length + 1 := putL_length k l false
theorem putL_mem (k : Key) : ∀ (l : List Key) (d : Bool) (x : Key), x ∈ putL k l d → x = k ∨ x ∈ l
  | [], d, x, h => by cases d <;> simp [putL] at h; exact .inl h
  | y :: r, d, x, h => by
    rw [putL] at h
    simp only [List.mem_append] at h
    rcases h with (h | h) | h
    · split at h
      · exact .inl (by simpa using h)
      · simp at h
    · split at h
      · simp at h
      · exact .inr (by simp at h; simp [h])
    · rcases putL_mem k r _ x h with h | h
      · exact .inl h
      · exact .inr (List.mem_cons_of_mem _ h)
theorem kput_mem {l : List Key} {k x : Key} (h : x ∈ kput l k) : x = k ∨ x ∈ l := putL_mem k l false x h

def rheld (p : Pins) : List Key := (heldL (rsane p).snaps).foldl kput []

end Go.Proofs.Ytjmnokbbodcaaaa.Lg
