/- pins.Held; ref18.Held. -/
import Derived.Test.YtjmnokbbodcaaaaP12
namespace Go.Proofs.Ytjmnokbbodcaaaa.Lg
set_option linter.unusedVariables false
set_option linter.unusedSimpArgs false
open Go

set_option maxRecDepth 30000 in
theorem pheld_c (next : Int) (xs : List Snap) (hl : Small xs.length) (hs : ∀ x ∈ xs, SmSnap x) (ht : Small (heldL xs).length) : CallR Try.prog 12 [.agg [.int .i64 next, .slice false (avs xs)]] (.own 2 (avs (pheld ⟨next, xs⟩))) := by
  have hl2 : Small (psane ⟨next, xs⟩).snaps.length := psane_small hl
  have hs2 : ∀ x ∈ (psane ⟨next, xs⟩).snaps, Small x.l.length := by
    unfold psane; split
    · exact fun x hx => (hs x hx).1
    · simp
  have ht2 : Small (heldL (psane ⟨next, xs⟩).snaps).length := by
    unfold psane; split
    · exact ht
    · simp [heldL, Small]
  have ht3 : Small (ksort (heldL (psane ⟨next, xs⟩).snaps)).length := by rw [ksort_length]; exact ht2
  refine CallR.go1 (T := T) Try.call12 Try.func12 rfl Try.ntmps12 (congrArg Array.toList Try.results12) (by decide) fun ts hn h0 => ?_
  (repeat' (first
    | with_reducible refine callX.by (psane_c _ _ ?_) ?_
    | with_reducible refine callX.by (tkeys_c _ ?_) ?_
    | (with_reducible refine callX.ar ?_ ?_ (sortKey_c ?_ ?_); (focus (simp only [go_sem, ↓reduceIte, reduceIte, Nat.reduceEqDiff, String.reduceEq, Nat.reduceLT, Nat.reduceLeDiff, Nat.reduceAdd, Nat.reduceMul, Nat.reduceSub, Nat.reduceBEq, reduceCtorEq, *]; first | done | rfl)))
    | with_reducible refine callX.by (kcmp_c _ _ _ _) ?_
    | (with_reducible refine callX.mv ?_ ?_ ?_ (compactKey_c ?_ ?_); (focus (simp only [go_sem, ↓reduceIte, reduceIte, Nat.reduceEqDiff, String.reduceEq, Nat.reduceLT, Nat.reduceLeDiff, Nat.reduceAdd, Nat.reduceMul, Nat.reduceSub, Nat.reduceBEq, reduceCtorEq, *]; first | done | rfl)); (focus (simp only [go_sem, ↓reduceIte, reduceIte, Nat.reduceEqDiff, String.reduceEq, Nat.reduceLT, Nat.reduceLeDiff, Nat.reduceAdd, Nat.reduceMul, Nat.reduceSub, Nat.reduceBEq, reduceCtorEq, *]; first | done | rfl)))
    | with_reducible assumption
    | (with_reducible refine NxK.out hK _ ?_; clear hK K)
    | with_reducible refine NxK.out (by assumption) _ ?_
    | with_reducible refine Nx.out (by assumption) ?_
    | with_reducible refine SpecC.seqW fun K hK => ?_
    | with_reducible refine SpecC.regW T fun K hK => ?_
    | with_reducible refine SpecC.condW fun A B hA hB => ?_
    | with_reducible refine SpecC.block ?_
    | with_reducible refine SpecC.skip ?_
    | with_reducible refine SpecC.label ?_
    | with_reducible refine SpecC.exit ?_
    | with_reducible refine SpecC.goto ?_
    | with_reducible refine SpecC.ret ?_
    | ((with_reducible first | refine condK.split (fun hb => ?_) (fun hb => ?_) | refine gK.split_t (fun hb => ?_) (fun hb => ?_) | refine gK.split_f (fun hb => ?_) (fun hb => ?_)) <;> try simp only [decide_not, ilt_t, ilt_f, ile_t, ile_f, nlt_t, nlt_f, nle_t, nle_f, Bool.not_eq_true', Bool.not_eq_false', Int.ofNat_lt, Int.ofNat_le] at hb)
    | simp only [go_sem, ↓reduceIte, reduceIte, Nat.reduceEqDiff, String.reduceEq, Nat.reduceLT, Nat.reduceLeDiff, Nat.reduceAdd, Nat.reduceMul, Nat.reduceSub, Nat.reduceBEq, reduceCtorEq, *]
    | with_reducible refine fun (bn : Bool) hbn => ?_))
  refine SpecC.ent (Ent.virt 3 2 (by simp only [go_sem, ↓reduceIte, reduceIte, Nat.reduceEqDiff, String.reduceEq, Nat.reduceLT, Nat.reduceLeDiff, Nat.reduceAdd, Nat.reduceMul, Nat.reduceSub, Nat.reduceBEq, reduceCtorEq, *]) (by decide)) ?_
  refine SpecC.loopF [8, 9] (fun m ts' => ∃ (i : Nat), ∃ (g : Nat), ∃ (ys : List Key), m = (psane ⟨next, xs⟩).snaps.length - i ∧ i ≤ (psane ⟨next, xs⟩).snaps.length ∧ heldL (psane ⟨next, xs⟩).snaps = ys ++ heldL ((psane ⟨next, xs⟩).snaps.drop i) ∧ ts'.tmp 3 = .os 3 g ys.length ∧ ts'.gen 3 = g ∧ ts'.obj 3 = .arr 2 (avs ys) ∧ ts'.tmp 10 = .int .i64 i) (psane ⟨next, xs⟩).snaps.length ?_ ?_
  · refine ⟨0, ts.gen 3 + 1, [], rfl, Nat.zero_le _, rfl, ?_⟩
    simp only [go_sem, ↓reduceIte, reduceIte, Nat.reduceEqDiff, String.reduceEq, Nat.reduceLT, Nat.reduceLeDiff, Nat.reduceAdd, Nat.reduceMul, Nat.reduceSub, Nat.reduceBEq, reduceCtorEq, *, avs_nil]
  · rintro m A hM ts' hk ⟨i, g, ys, hm, f1, f2, s1, s2, s3, s4⟩
    simp only [go_sem, ↓reduceIte, reduceIte, Nat.reduceEqDiff, String.reduceEq, Nat.reduceLT, Nat.reduceLeDiff, Nat.reduceAdd, Nat.reduceMul, Nat.reduceSub, Nat.reduceBEq, reduceCtorEq, *] at hk
    by_cases hlt : i < (psane ⟨next, xs⟩).snaps.length
    · rw [List.drop_eq_getElem_cons hlt, heldL_cons] at f2
      have hsi := hs2 _ (List.getElem_mem hlt)
      have hlen := congrArg List.length f2
      rw [List.length_append, List.length_append, List.length_map] at hlen
      have hr1 : Room (ys.length + (psane ⟨next, xs⟩).snaps[i].l.length) 24 := room_big (by unfold Small at ht2; omega) (by decide)
      have htk : ((psane ⟨next, xs⟩).snaps[i].l.map keyOf).take (psane ⟨next, xs⟩).snaps[i].l.length = (psane ⟨next, xs⟩).snaps[i].l.map keyOf := List.take_of_length_le (by simp)
      (repeat' (first
    | with_reducible refine callX.by (psane_c _ _ ?_) ?_
    | with_reducible refine callX.by (tkeys_c _ ?_) ?_
    | (with_reducible refine callX.ar ?_ ?_ (sortKey_c ?_ ?_); (focus (simp only [go_sem, ↓reduceIte, reduceIte, Nat.reduceEqDiff, String.reduceEq, Nat.reduceLT, Nat.reduceLeDiff, Nat.reduceAdd, Nat.reduceMul, Nat.reduceSub, Nat.reduceBEq, reduceCtorEq, *, List.length_map, -hlen, -f2]; first | done | rfl)))
    | with_reducible refine callX.by (kcmp_c _ _ _ _) ?_
    | (with_reducible refine callX.mv ?_ ?_ ?_ (compactKey_c ?_ ?_); (focus (simp only [go_sem, ↓reduceIte, reduceIte, Nat.reduceEqDiff, String.reduceEq, Nat.reduceLT, Nat.reduceLeDiff, Nat.reduceAdd, Nat.reduceMul, Nat.reduceSub, Nat.reduceBEq, reduceCtorEq, *, List.length_map, -hlen, -f2]; first | done | rfl)); (focus (simp only [go_sem, ↓reduceIte, reduceIte, Nat.reduceEqDiff, String.reduceEq, Nat.reduceLT, Nat.reduceLeDiff, Nat.reduceAdd, Nat.reduceMul, Nat.reduceSub, Nat.reduceBEq, reduceCtorEq, *, List.length_map, -hlen, -f2]; first | done | rfl)))
    | with_reducible assumption
    | (with_reducible refine NxK.out hK _ ?_; clear hK K)
    | with_reducible refine NxK.out (by assumption) _ ?_
    | with_reducible refine Nx.out (by assumption) ?_
    | with_reducible refine SpecC.seqW fun K hK => ?_
    | with_reducible refine SpecC.regW T fun K hK => ?_
    | with_reducible refine SpecC.condW fun A B hA hB => ?_
    | with_reducible refine SpecC.block ?_
    | with_reducible refine SpecC.skip ?_
    | with_reducible refine SpecC.label ?_
    | with_reducible refine SpecC.exit ?_
    | with_reducible refine SpecC.goto ?_
    | with_reducible refine SpecC.ret ?_
    | ((with_reducible first | refine condK.split (fun hb => ?_) (fun hb => ?_) | refine gK.split_t (fun hb => ?_) (fun hb => ?_) | refine gK.split_f (fun hb => ?_) (fun hb => ?_)) <;> try simp only [decide_not, ilt_t, ilt_f, ile_t, ile_f, nlt_t, nlt_f, nle_t, nle_f, Bool.not_eq_true', Bool.not_eq_false', Int.ofNat_lt, Int.ofNat_le] at hb)
    | simp only [go_sem, ↓reduceIte, reduceIte, Nat.reduceEqDiff, String.reduceEq, Nat.reduceLT, Nat.reduceLeDiff, Nat.reduceAdd, Nat.reduceMul, Nat.reduceSub, Nat.reduceBEq, reduceCtorEq, *, List.length_map, -hlen, -f2]
    | with_reducible refine fun (bn : Bool) hbn => ?_))
      all_goals ((repeat clear hK); (repeat clear hA); (repeat clear hB))
      (refine hM.onE ((psane ⟨next, xs⟩).snaps.length - (i + 1)) (Ent.ren 3 18 ?_ ?_) ?_ ?_ ?_; (focus (simp only [go_sem, ↓reduceIte, reduceIte, Nat.reduceEqDiff, String.reduceEq, Nat.reduceLT, Nat.reduceLeDiff, Nat.reduceAdd, Nat.reduceMul, Nat.reduceSub, Nat.reduceBEq, reduceCtorEq, *]; first | done | rfl)); (focus (simp only [go_sem, ↓reduceIte, reduceIte, Nat.reduceEqDiff, String.reduceEq, Nat.reduceLT, Nat.reduceLeDiff, Nat.reduceAdd, Nat.reduceMul, Nat.reduceSub, Nat.reduceBEq, reduceCtorEq, *]; first | done | rfl)); omega; (focus (simp only [go_sem, ↓reduceIte, reduceIte, Nat.reduceEqDiff, String.reduceEq, Nat.reduceLT, Nat.reduceLeDiff, Nat.reduceAdd, Nat.reduceMul, Nat.reduceSub, Nat.reduceBEq, reduceCtorEq, *, w64_nat hlt hl2, List.length_map, List.length_append, -hlen, -f2]; done)); refine ⟨i + 1, g + 1, ys ++ (psane ⟨next, xs⟩).snaps[i].l.map keyOf, rfl, by omega, by rw [f2, List.append_assoc], ?_⟩; simp only [go_sem, ↓reduceIte, reduceIte, Nat.reduceEqDiff, String.reduceEq, Nat.reduceLT, Nat.reduceLeDiff, Nat.reduceAdd, Nat.reduceMul, Nat.reduceSub, Nat.reduceBEq, reduceCtorEq, *, w64_nat hlt hl2, List.length_map, List.length_append, -hlen, -f2]; done)
    · rw [List.drop_eq_nil_of_le (by omega)] at f2
      have e : ys = heldL (psane ⟨next, xs⟩).snaps := by rw [f2]; simp [heldL]
      subst e
      clear f2
      have hk1 := ksort_length (heldL (psane ⟨next, xs⟩).snaps)
      have htk : (ksort (heldL (psane ⟨next, xs⟩).snaps)).take (heldL (psane ⟨next, xs⟩).snaps).length = ksort (heldL (psane ⟨next, xs⟩).snaps) := List.take_of_length_le (by omega)
      (repeat' (first
    | with_reducible refine callX.by (psane_c _ _ ?_) ?_
    | with_reducible refine callX.by (tkeys_c _ ?_) ?_
    | (with_reducible refine callX.ar ?_ ?_ (sortKey_c ?_ ?_); (focus (simp only [go_sem, ↓reduceIte, reduceIte, Nat.reduceEqDiff, String.reduceEq, Nat.reduceLT, Nat.reduceLeDiff, Nat.reduceAdd, Nat.reduceMul, Nat.reduceSub, Nat.reduceBEq, reduceCtorEq, *, Nat.le_refl]; first | done | rfl)))
    | with_reducible refine callX.by (kcmp_c _ _ _ _) ?_
    | (with_reducible refine callX.mv ?_ ?_ ?_ (compactKey_c ?_ ?_); (focus (simp only [go_sem, ↓reduceIte, reduceIte, Nat.reduceEqDiff, String.reduceEq, Nat.reduceLT, Nat.reduceLeDiff, Nat.reduceAdd, Nat.reduceMul, Nat.reduceSub, Nat.reduceBEq, reduceCtorEq, *, Nat.le_refl]; first | done | rfl)); (focus (simp only [go_sem, ↓reduceIte, reduceIte, Nat.reduceEqDiff, String.reduceEq, Nat.reduceLT, Nat.reduceLeDiff, Nat.reduceAdd, Nat.reduceMul, Nat.reduceSub, Nat.reduceBEq, reduceCtorEq, *, Nat.le_refl]; first | done | rfl)))
    | with_reducible assumption
    | (with_reducible refine NxK.out hK _ ?_; clear hK K)
    | with_reducible refine NxK.out (by assumption) _ ?_
    | with_reducible refine Nx.out (by assumption) ?_
    | with_reducible refine SpecC.seqW fun K hK => ?_
    | with_reducible refine SpecC.regW T fun K hK => ?_
    | with_reducible refine SpecC.condW fun A B hA hB => ?_
    | with_reducible refine SpecC.block ?_
    | with_reducible refine SpecC.skip ?_
    | with_reducible refine SpecC.label ?_
    | with_reducible refine SpecC.exit ?_
    | with_reducible refine SpecC.goto ?_
    | with_reducible refine SpecC.ret ?_
    | ((with_reducible first | refine condK.split (fun hb => ?_) (fun hb => ?_) | refine gK.split_t (fun hb => ?_) (fun hb => ?_) | refine gK.split_f (fun hb => ?_) (fun hb => ?_)) <;> try simp only [decide_not, ilt_t, ilt_f, ile_t, ile_f, nlt_t, nlt_f, nle_t, nle_f, Bool.not_eq_true', Bool.not_eq_false', Int.ofNat_lt, Int.ofNat_le] at hb)
    | simp only [go_sem, ↓reduceIte, reduceIte, Nat.reduceEqDiff, String.reduceEq, Nat.reduceLT, Nat.reduceLeDiff, Nat.reduceAdd, Nat.reduceMul, Nat.reduceSub, Nat.reduceBEq, reduceCtorEq, *, Nat.le_refl]
    | with_reducible refine fun (bn : Bool) hbn => ?_))
      all_goals ((repeat clear hK); (repeat clear hA); (repeat clear hB))
      all_goals rfl
end Go.Proofs.Ytjmnokbbodcaaaa.Lg
