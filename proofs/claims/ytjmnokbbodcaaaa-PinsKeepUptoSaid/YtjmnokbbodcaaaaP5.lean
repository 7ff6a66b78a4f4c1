/- slices.Delete at Snap; pins.Publish, pins.Release. -/
import Derived.Test.YtjmnokbbodcaaaaP4
namespace Go.Proofs.Ytjmnokbbodcaaaa.Lg
set_option linter.unusedVariables false
set_option linter.unusedSimpArgs false
open Go

set_option maxRecDepth 30000 in
theorem deleteSnap_c (i j : Nat) (xs : List Snap) (hl : Small xs.length) (hij : i ≤ j) (hj : j ≤ xs.length) : CallM Try.prog 48 3 (avs xs) [.int .i64 i, .int .i64 j] (.own 3 (avs (xs.take i ++ xs.drop j))) := by
  have hi : i ≤ xs.length := by omega
  refine CallM.go2 (T := T) Try.call48 Try.func48 rfl Try.ntmps48 (congrArg Array.toList Try.results48) (by decide) fun ts hn h0 hg0 ho0 h1 h2 => ?_
  by_cases hne : i = j
  · subst hne
    (repeat' (first
    | with_reducible assumption
    | (with_reducible refine NxK.out hK _ ?_; clear hK K)
    | with_reducible refine NxK.out (by assumption) _ ?_
    | with_reducible refine Nx.out (by assumption) ?_
    | with_reducible refine SpecC.seqW fun K hK => ?_
    | with_reducible refine SpecC.regW T fun K hK => ?_
    | with_reducible refine SpecC.drawW (id := 5) T mixed [([20], [21, 23, 24, 25]), ([21], [20, 23, 24, 25]), ([22], [23, 24, 25]), ([23], [20, 21, 22, 24]), ([24], [20, 21, 22, 23]), ([25], [20, 21, 22])] (by kernel_rfl) fun K hK => ?_
    | with_reducible refine SpecC.condW fun A B hA hB => ?_
    | with_reducible refine SpecC.block ?_
    | with_reducible refine SpecC.skip ?_
    | with_reducible refine SpecC.label ?_
    | with_reducible refine SpecC.exit ?_
    | with_reducible refine SpecC.goto ?_
    | with_reducible refine SpecC.ret ?_
    | ((with_reducible first | refine condK.split (fun hb => ?_) (fun hb => ?_) | refine gK.split_t (fun hb => ?_) (fun hb => ?_) | refine gK.split_f (fun hb => ?_) (fun hb => ?_)) <;> try simp only [decide_not, ilt_t, ilt_f, ile_t, ile_f, nlt_t, nlt_f, nle_t, nle_f, Bool.not_eq_true', Bool.not_eq_false', Int.ofNat_lt, Int.ofNat_le] at hb)
    | simp only [go_sem, ↓reduceIte, reduceIte, Nat.reduceEqDiff, String.reduceEq, Nat.reduceLT, Nat.reduceLeDiff, Nat.reduceAdd, Nat.reduceMul, Nat.reduceSub, Nat.reduceBEq, reduceCtorEq, *]
    | with_reducible refine fun (bn : Bool) hbn => ?_))
    all_goals simp
  · have hne2 : ¬ (i : Int) = j := by omega
    have htd : (xs.drop j).take (xs.length - j) = xs.drop j := List.take_of_length_le (by simp)
    have h1 : j + (xs.length - j) = xs.length := by omega
    have h2 : i + (xs.length - j) ≤ xs.length := by omega
    have h3 : (xs.take i ++ xs.drop j ++ xs.drop (i + (xs.length - j))).length = xs.length := by simp; omega
    have h4 : i + (xs.length - j) + (xs.length - (i + (xs.length - j))) = xs.length := by omega
    have h5 : (xs.take i ++ xs.drop j ++ xs.drop (i + (xs.length - j))).take (i + (xs.length - j)) = xs.take i ++ xs.drop j := by
      rw [List.take_append_of_le_length (by simp; omega)]
      exact List.take_of_length_le (by simp; omega)
    (repeat' (first
    | with_reducible assumption
    | (with_reducible refine NxK.out hK _ ?_; clear hK K)
    | with_reducible refine NxK.out (by assumption) _ ?_
    | with_reducible refine Nx.out (by assumption) ?_
    | with_reducible refine SpecC.seqW fun K hK => ?_
    | with_reducible refine SpecC.regW T fun K hK => ?_
    | with_reducible refine SpecC.drawW (id := 5) T mixed [([20], [21, 23, 24, 25]), ([21], [20, 23, 24, 25]), ([22], [23, 24, 25]), ([23], [20, 21, 22, 24]), ([24], [20, 21, 22, 23]), ([25], [20, 21, 22])] (by kernel_rfl) fun K hK => ?_
    | with_reducible refine SpecC.condW fun A B hA hB => ?_
    | with_reducible refine SpecC.block ?_
    | with_reducible refine SpecC.skip ?_
    | with_reducible refine SpecC.label ?_
    | with_reducible refine SpecC.exit ?_
    | with_reducible refine SpecC.goto ?_
    | with_reducible refine SpecC.ret ?_
    | ((with_reducible first | refine condK.split (fun hb => ?_) (fun hb => ?_) | refine gK.split_t (fun hb => ?_) (fun hb => ?_) | refine gK.split_f (fun hb => ?_) (fun hb => ?_)) <;> try simp only [decide_not, ilt_t, ilt_f, ile_t, ile_f, nlt_t, nlt_f, nle_t, nle_f, Bool.not_eq_true', Bool.not_eq_false', Int.ofNat_lt, Int.ofNat_le] at hb)
    | simp only [go_sem, ↓reduceIte, reduceIte, Nat.reduceEqDiff, String.reduceEq, Nat.reduceLT, Nat.reduceLeDiff, Nat.reduceAdd, Nat.reduceMul, Nat.reduceSub, Nat.reduceBEq, reduceCtorEq, *]
    | with_reducible refine fun (bn : Bool) hbn => ?_))

def ppublish (p : Pins) (l : List Res) : Pins × Int × Int :=
  let q := psane p
  if q.next' = 2147483647 then (q, 0, 14) else
    let s := q.snaps.filter fun x => !decide (x.pins = 0)
    if 1000 ≤ s.length then (q, 0, 8) else
      (⟨IntKind.i64.wrap (q.next' + 1), s ++ [⟨IntKind.i64.wrap (q.next' + 1), 0, l⟩]⟩, IntKind.i64.wrap (q.next' + 1), 0)

set_option maxRecDepth 30000 in
theorem ppublish_c (next : Int) (xs : List Snap) (l : List Res) (hl : Small xs.length) : CallR Try.prog 20 [.agg [.int .i64 next, .slice false (avs xs)], .slice false (avs l)] (.val (.tup [Dat.av (ppublish ⟨next, xs⟩ l).1, .int .i64 (ppublish ⟨next, xs⟩ l).2.1, .int .i64 (ppublish ⟨next, xs⟩ l).2.2])) := by
  have hl2 : Small (psane ⟨next, xs⟩).snaps.length := psane_small hl
  have hdel := deleteFuncSnap_c 47 [] Caps.nil (fun s => decide (s.pins = 0)) (fun x => idle_c x.id x.pins x.l) (psane ⟨next, xs⟩).snaps hl2
  refine CallR.go2 (T := T) Try.call20 Try.func20 rfl Try.ntmps20 (congrArg Array.toList Try.results20) (by decide) fun ts hn h0 h1 => ?_
  have hr : Room ((List.filter (fun x => !decide (x.pins = 0)) (psane ⟨next, xs⟩).snaps).length + 1) 40 := by
    refine room_of ?_ (by decide)
    have := List.length_filter_le (fun x => !decide (x.pins = 0)) (psane ⟨next, xs⟩).snaps
    unfold Small at hl2 ⊢; omega
  (repeat' (first
    | (with_reducible refine callX.mv ?_ ?_ ?_ (hdel); (focus (simp only [go_sem, ↓reduceIte, reduceIte, Nat.reduceEqDiff, String.reduceEq, Nat.reduceLT, Nat.reduceLeDiff, Nat.reduceAdd, Nat.reduceMul, Nat.reduceSub, Nat.reduceBEq, reduceCtorEq, *]; first | done | rfl)); (focus (simp only [go_sem, ↓reduceIte, reduceIte, Nat.reduceEqDiff, String.reduceEq, Nat.reduceLT, Nat.reduceLeDiff, Nat.reduceAdd, Nat.reduceMul, Nat.reduceSub, Nat.reduceBEq, reduceCtorEq, *]; first | done | rfl)))
    | with_reducible refine callX.by (psane_c _ _ ?_) ?_
    | with_reducible refine callX.by (clone_c _ _ ?_) ?_
    | (with_reducible refine callX.mv ?_ ?_ ?_ (deleteFuncSnap_c ?_ ?_ ?_ ?_ ?_ ?_ ?_); (focus (simp only [go_sem, ↓reduceIte, reduceIte, Nat.reduceEqDiff, String.reduceEq, Nat.reduceLT, Nat.reduceLeDiff, Nat.reduceAdd, Nat.reduceMul, Nat.reduceSub, Nat.reduceBEq, reduceCtorEq, *]; first | done | rfl)); (focus (simp only [go_sem, ↓reduceIte, reduceIte, Nat.reduceEqDiff, String.reduceEq, Nat.reduceLT, Nat.reduceLeDiff, Nat.reduceAdd, Nat.reduceMul, Nat.reduceSub, Nat.reduceBEq, reduceCtorEq, *]; first | done | rfl)))
    | with_reducible refine callX.by (idle_c _ _ _) ?_
    | with_reducible assumption
    | (with_reducible refine NxK.out hK _ ?_; clear hK K)
    | with_reducible refine NxK.out (by assumption) _ ?_
    | with_reducible refine Nx.out (by assumption) ?_
    | with_reducible refine SpecC.seqW fun K hK => ?_
    | with_reducible refine SpecC.regW T fun K hK => ?_
    | with_reducible refine SpecC.condW fun A B hA hB => ?_
    | with_reducible refine SpecC.block ?_
    | with_reducible refine SpecC.skip ?_
    | with_reducible refine SpecC.label ?_
    | with_reducible refine SpecC.exit ?_
    | with_reducible refine SpecC.goto ?_
    | with_reducible refine SpecC.ret ?_
    | ((with_reducible first | refine condK.split (fun hb => ?_) (fun hb => ?_) | refine gK.split_t (fun hb => ?_) (fun hb => ?_) | refine gK.split_f (fun hb => ?_) (fun hb => ?_)) <;> try simp only [decide_not, ilt_t, ilt_f, ile_t, ile_f, nlt_t, nlt_f, nle_t, nle_f, Bool.not_eq_true', Bool.not_eq_false', Int.ofNat_lt, Int.ofNat_le] at hb)
    | simp only [go_sem, ↓reduceIte, reduceIte, Nat.reduceEqDiff, String.reduceEq, Nat.reduceLT, Nat.reduceLeDiff, Nat.reduceAdd, Nat.reduceMul, Nat.reduceSub, Nat.reduceBEq, reduceCtorEq, *]
    | with_reducible refine fun (bn : Bool) hbn => ?_))
  all_goals ((repeat clear hK); (repeat clear hA); (repeat clear hB))
  all_goals ((try simp only [decide_eq_true_eq, decide_eq_false_iff_not, Bool.not_eq_true'] at *); simp [ppublish, *])

def prelease (p : Pins) (id : Int) : Pins × Int :=
  let q := psane p
  let k := placeN q.snaps id q.snaps.length
  if k < 0 then (q, 10) else
    let s := q.snaps.getD k.toNat default
    if s.pins = 0 then (q, 15) else
      let t : Snap := ⟨s.id, IntKind.i64.wrap (s.pins - 1), s.l⟩
      let l := q.snaps.set k.toNat t
      if k ≠ q.snaps.length - 1 ∧ t.pins = 0 then (⟨q.next', l.take k.toNat ++ l.drop (k.toNat + 1)⟩, 0) else (⟨q.next', l⟩, 0)

set_option maxRecDepth 30000 in
theorem prelease_c (next id : Int) (xs : List Snap) (hl : Small xs.length) : CallR Try.prog 21 [.agg [.int .i64 next, .slice false (avs xs)], .int .i64 id] (.val (.tup [Dat.av (prelease ⟨next, xs⟩ id).1, .int .i64 (prelease ⟨next, xs⟩ id).2])) := by
  have hl2 : Small (psane ⟨next, xs⟩).snaps.length := psane_small hl
  have hp := placeN_lt (psane ⟨next, xs⟩).snaps id (psane ⟨next, xs⟩).snaps.length
  refine CallR.go2 (T := T) Try.call21 Try.func21 rfl Try.ntmps21 (congrArg Array.toList Try.results21) (by decide) fun ts hn h0 h1 => ?_
  by_cases hneg : placeN (psane ⟨next, xs⟩).snaps id (psane ⟨next, xs⟩).snaps.length < 0
  · (repeat' (first
    | with_reducible refine callX.by (psane_c _ _ ?_) ?_
    | with_reducible refine callX.by (place_c _ _ _ ?_) ?_
    | with_reducible refine callX.by (idle_c _ _ _) ?_
    | with_reducible refine callX.by (clone_c _ _ ?_) ?_
    | with_reducible refine callX.by (last_c _ _ ?_) ?_
    | (with_reducible refine callX.mv ?_ ?_ ?_ (deleteSnap_c ?_ ?_ ?_ ?_ ?_ ?_); (focus (simp only [go_sem, ↓reduceIte, reduceIte, Nat.reduceEqDiff, String.reduceEq, Nat.reduceLT, Nat.reduceLeDiff, Nat.reduceAdd, Nat.reduceMul, Nat.reduceSub, Nat.reduceBEq, reduceCtorEq, *]; first | done | rfl)); (focus (simp only [go_sem, ↓reduceIte, reduceIte, Nat.reduceEqDiff, String.reduceEq, Nat.reduceLT, Nat.reduceLeDiff, Nat.reduceAdd, Nat.reduceMul, Nat.reduceSub, Nat.reduceBEq, reduceCtorEq, *]; first | done | rfl)))
    | with_reducible assumption
    | (with_reducible refine NxK.out hK _ ?_; clear hK K)
    | with_reducible refine NxK.out (by assumption) _ ?_
    | with_reducible refine Nx.out (by assumption) ?_
    | with_reducible refine SpecC.seqW fun K hK => ?_
    | with_reducible refine SpecC.regW T fun K hK => ?_
    | with_reducible refine SpecC.condW fun A B hA hB => ?_
    | with_reducible refine SpecC.block ?_
    | with_reducible refine SpecC.skip ?_
    | with_reducible refine SpecC.label ?_
    | with_reducible refine SpecC.exit ?_
    | with_reducible refine SpecC.goto ?_
    | with_reducible refine SpecC.ret ?_
    | ((with_reducible first | refine condK.split (fun hb => ?_) (fun hb => ?_) | refine gK.split_t (fun hb => ?_) (fun hb => ?_) | refine gK.split_f (fun hb => ?_) (fun hb => ?_)) <;> try simp only [decide_not, ilt_t, ilt_f, ile_t, ile_f, nlt_t, nlt_f, nle_t, nle_f, Bool.not_eq_true', Bool.not_eq_false', Int.ofNat_lt, Int.ofNat_le] at hb)
    | simp only [go_sem, ↓reduceIte, reduceIte, Nat.reduceEqDiff, String.reduceEq, Nat.reduceLT, Nat.reduceLeDiff, Nat.reduceAdd, Nat.reduceMul, Nat.reduceSub, Nat.reduceBEq, reduceCtorEq, *]
    | with_reducible refine fun (bn : Bool) hbn => ?_))
    all_goals simp [prelease, hneg]
  · obtain ⟨k, hk⟩ : ∃ k : Nat, placeN (psane ⟨next, xs⟩).snaps id (psane ⟨next, xs⟩).snaps.length = k := ⟨_, (Int.toNat_of_nonneg (by omega)).symm⟩
    have hlt : k < (psane ⟨next, xs⟩).snaps.length := by omega
    have hw : IntKind.i64.wrap ((k : Int) + 1) = ((k + 1 : Nat) : Int) := w64_nat hlt hl2
    have hkk : k ≤ k + 1 := by omega
    have hk1 : k + 1 ≤ (psane ⟨next, xs⟩).snaps.length := hlt
    (repeat' (first
    | with_reducible refine callX.by (psane_c _ _ ?_) ?_
    | with_reducible refine callX.by (place_c _ _ _ ?_) ?_
    | with_reducible refine callX.by (idle_c _ _ _) ?_
    | with_reducible refine callX.by (clone_c _ _ ?_) ?_
    | with_reducible refine callX.by (last_c _ _ ?_) ?_
    | (with_reducible refine callX.mv ?_ ?_ ?_ (deleteSnap_c ?_ ?_ ?_ ?_ ?_ ?_); (focus (simp only [go_sem, ↓reduceIte, reduceIte, Nat.reduceEqDiff, String.reduceEq, Nat.reduceLT, Nat.reduceLeDiff, Nat.reduceAdd, Nat.reduceMul, Nat.reduceSub, Nat.reduceBEq, reduceCtorEq, *]; first | done | rfl)); (focus (simp only [go_sem, ↓reduceIte, reduceIte, Nat.reduceEqDiff, String.reduceEq, Nat.reduceLT, Nat.reduceLeDiff, Nat.reduceAdd, Nat.reduceMul, Nat.reduceSub, Nat.reduceBEq, reduceCtorEq, *]; first | done | rfl)))
    | with_reducible assumption
    | (with_reducible refine NxK.out hK _ ?_; clear hK K)
    | with_reducible refine NxK.out (by assumption) _ ?_
    | with_reducible refine Nx.out (by assumption) ?_
    | with_reducible refine SpecC.seqW fun K hK => ?_
    | with_reducible refine SpecC.regW T fun K hK => ?_
    | with_reducible refine SpecC.condW fun A B hA hB => ?_
    | with_reducible refine SpecC.block ?_
    | with_reducible refine SpecC.skip ?_
    | with_reducible refine SpecC.label ?_
    | with_reducible refine SpecC.exit ?_
    | with_reducible refine SpecC.goto ?_
    | with_reducible refine SpecC.ret ?_
    | ((with_reducible first | refine condK.split (fun hb => ?_) (fun hb => ?_) | refine gK.split_t (fun hb => ?_) (fun hb => ?_) | refine gK.split_f (fun hb => ?_) (fun hb => ?_)) <;> try simp only [decide_not, ilt_t, ilt_f, ile_t, ile_f, nlt_t, nlt_f, nle_t, nle_f, Bool.not_eq_true', Bool.not_eq_false', Int.ofNat_lt, Int.ofNat_le] at hb)
    | simp only [go_sem, ↓reduceIte, reduceIte, Nat.reduceEqDiff, String.reduceEq, Nat.reduceLT, Nat.reduceLeDiff, Nat.reduceAdd, Nat.reduceMul, Nat.reduceSub, Nat.reduceBEq, reduceCtorEq, *]
    | with_reducible refine fun (bn : Bool) hbn => ?_))
    all_goals ((repeat clear hK); (repeat clear hA); (repeat clear hB))
    all_goals ((try simp only [dec_T, dec_F] at *); simp [prelease, natneg, List.take_of_length_le, *])
end Go.Proofs.Ytjmnokbbodcaaaa.Lg
