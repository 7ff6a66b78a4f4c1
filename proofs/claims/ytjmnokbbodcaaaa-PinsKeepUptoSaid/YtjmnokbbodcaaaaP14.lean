/- ref18.Held; the laws' pins1, kept. -/
import Derived.Test.YtjmnokbbodcaaaaP13
namespace Go.Proofs.Ytjmnokbbodcaaaa.Lg
set_option linter.unusedVariables false
set_option linter.unusedSimpArgs false
open Go

set_option maxRecDepth 30000 in
set_option maxHeartbeats 4000000 in
theorem rheld_c (next : Int) (xs : List Snap) (hl : Small xs.length) (hs : ∀ x ∈ xs, SmSnap x) (ht : Small (heldL xs).length) : CallR Try.prog 31 [.agg [.int .i64 next, .slice false (avs xs)]] (.own 2 (avs (rheld ⟨next, xs⟩))) := by
  have hl2 : Small (rsane ⟨next, xs⟩).snaps.length := rsane_small hl
  have hs2 : ∀ x ∈ (rsane ⟨next, xs⟩).snaps, SmSnap x := by
    unfold rsane; split
    · exact hs
    · simp
  have ht2 : Small (heldL (rsane ⟨next, xs⟩).snaps).length := by
    unfold rsane; split
    · exact ht
    · simp [heldL, Small]
  unfold rheld
  refine CallR.go1 (T := T) Try.call31 Try.func31 rfl Try.ntmps31 (congrArg Array.toList Try.results31) (by decide) fun ts hn h0 => ?_
  (repeat' (first
    | with_reducible refine callX.by (rsane_c _ _ ?_) ?_
    | with_reducible refine callX.by (rkey3_c _ _ _ _ _ _ _) ?_
    | with_reducible refine callX.by (kput_c _ _ _ ?_ ?_ ?_) ?_
    | with_reducible assumption
    | (with_reducible refine NxK.out hK _ ?_; clear hK K)
    | with_reducible refine NxK.out (by assumption) _ ?_
    | with_reducible refine Nx.out (by assumption) ?_
    | with_reducible refine SpecC.seqW fun K hK => ?_
    | with_reducible refine SpecC.regW T fun K hK => ?_
    | with_reducible refine SpecC.condW fun A B hA hB => ?_
    | with_reducible refine SpecC.block ?_
    | with_reducible refine SpecC.skip ?_
    | with_reducible refine SpecC.label ?_
    | with_reducible refine SpecC.exit ?_
    | with_reducible refine SpecC.goto ?_
    | with_reducible refine SpecC.ret ?_
    | ((with_reducible first | refine condK.split (fun hb => ?_) (fun hb => ?_) | refine gK.split_t (fun hb => ?_) (fun hb => ?_) | refine gK.split_f (fun hb => ?_) (fun hb => ?_)) <;> try simp only [decide_not, ilt_t, ilt_f, ile_t, ile_f, nlt_t, nlt_f, nle_t, nle_f, Bool.not_eq_true', Bool.not_eq_false', Int.ofNat_lt, Int.ofNat_le] at hb)
    | simp only [go_sem, ↓reduceIte, reduceIte, Nat.reduceEqDiff, String.reduceEq, Nat.reduceLT, Nat.reduceLeDiff, Nat.reduceAdd, Nat.reduceMul, Nat.reduceSub, Nat.reduceBEq, reduceCtorEq, *]
    | with_reducible refine fun (bn : Bool) hbn => ?_))
  generalize (rsane ⟨next, xs⟩).snaps = S at *
  generalize (rsane ⟨next, xs⟩).next' = N at *
  refine SpecC.ent (Ent.virt 3 2 (by simp only [go_sem, ↓reduceIte, reduceIte, Nat.reduceEqDiff, String.reduceEq, Nat.reduceLT, Nat.reduceLeDiff, Nat.reduceAdd, Nat.reduceMul, Nat.reduceSub, Nat.reduceBEq, reduceCtorEq, *]) (by decide)) ?_
  refine SpecC.loopF [1] (fun m ts' => ∃ (i : Nat), ∃ (g : Nat), ∃ (ys : List Key), m = S.length - i ∧ i ≤ S.length ∧ (heldL S).foldl kput [] = (heldL (S.drop i)).foldl kput ys ∧ ys.length + (heldL (S.drop i)).length ≤ (heldL S).length ∧ (∀ x ∈ ys, Small x.name.length) ∧ ts'.tmp 3 = .os 3 g ys.length ∧ ts'.gen 3 = g ∧ ts'.obj 3 = .arr 2 (avs ys) ∧ ts'.tmp 4 = .int .i64 i) S.length ?_ ?_
  · refine ⟨0, ts.gen 3 + 1, [], rfl, Nat.zero_le _, rfl, by simp, by simp, ?_⟩
    simp only [go_sem, ↓reduceIte, reduceIte, Nat.reduceEqDiff, String.reduceEq, Nat.reduceLT, Nat.reduceLeDiff, Nat.reduceAdd, Nat.reduceMul, Nat.reduceSub, Nat.reduceBEq, reduceCtorEq, *, avs_nil]
  · rintro m A hM ts' hk ⟨i, g, ys, hm, f1, f2, f3, f4, s1, s2, s3, s4⟩
    simp only [go_sem, ↓reduceIte, reduceIte, Nat.reduceEqDiff, String.reduceEq, Nat.reduceLT, Nat.reduceLeDiff, Nat.reduceAdd, Nat.reduceMul, Nat.reduceSub, Nat.reduceBEq, reduceCtorEq, *] at hk
    by_cases hlt : i < S.length
    · rw [List.drop_eq_getElem_cons hlt, heldL_cons] at f2 f3
      obtain ⟨hsi, hsj⟩ := hs2 _ (List.getElem_mem hlt)
      rw [List.length_append, List.length_map] at f3
      (repeat' (first
    | with_reducible refine callX.by (rsane_c _ _ ?_) ?_
    | with_reducible refine callX.by (rkey3_c _ _ _ _ _ _ _) ?_
    | with_reducible refine callX.by (kput_c _ _ _ ?_ ?_ ?_) ?_
    | with_reducible assumption
    | (with_reducible refine NxK.out hK _ ?_; clear hK K)
    | with_reducible refine NxK.out (by assumption) _ ?_
    | with_reducible refine Nx.out (by assumption) ?_
    | with_reducible refine SpecC.seqW fun K hK => ?_
    | with_reducible refine SpecC.regW T fun K hK => ?_
    | with_reducible refine SpecC.condW fun A B hA hB => ?_
    | with_reducible refine SpecC.block ?_
    | with_reducible refine SpecC.skip ?_
    | with_reducible refine SpecC.label ?_
    | with_reducible refine SpecC.exit ?_
    | with_reducible refine SpecC.goto ?_
    | with_reducible refine SpecC.ret ?_
    | ((with_reducible first | refine condK.split (fun hb => ?_) (fun hb => ?_) | refine gK.split_t (fun hb => ?_) (fun hb => ?_) | refine gK.split_f (fun hb => ?_) (fun hb => ?_)) <;> try simp only [decide_not, ilt_t, ilt_f, ile_t, ile_f, nlt_t, nlt_f, nle_t, nle_f, Bool.not_eq_true', Bool.not_eq_false', Int.ofNat_lt, Int.ofNat_le] at hb)
    | simp only [go_sem, ↓reduceIte, reduceIte, Nat.reduceEqDiff, String.reduceEq, Nat.reduceLT, Nat.reduceLeDiff, Nat.reduceAdd, Nat.reduceMul, Nat.reduceSub, Nat.reduceBEq, reduceCtorEq, *, -f2, -f3, -f4]
    | with_reducible refine fun (bn : Bool) hbn => ?_))
      refine SpecC.loopF [1, 4] (fun m ts' => ∃ (j : Nat), ∃ (g : Nat), ∃ (ys : List Key), m = S[i].l.length - j ∧ j ≤ S[i].l.length ∧ (heldL S).foldl kput [] = ((S[i].l.drop j).map keyOf ++ heldL (S.drop (i + 1))).foldl kput ys ∧ ys.length + ((S[i].l.length - j) + (heldL (S.drop (i + 1))).length) ≤ (heldL S).length ∧ (∀ x ∈ ys, Small x.name.length) ∧ ts'.tmp 3 = .os 3 g ys.length ∧ ts'.gen 3 = g ∧ ts'.obj 3 = .arr 2 (avs ys) ∧ ts'.tmp 5 = .int .i64 j) S[i].l.length ?_ ?_
      · refine ⟨0, g, ys, rfl, Nat.zero_le _, f2, f3, f4, ?_⟩
        simp only [go_sem, ↓reduceIte, reduceIte, Nat.reduceEqDiff, String.reduceEq, Nat.reduceLT, Nat.reduceLeDiff, Nat.reduceAdd, Nat.reduceMul, Nat.reduceSub, Nat.reduceBEq, reduceCtorEq, *, -f2, -f3, -f4]
      · clear f2 f3 f4
        revert hM
        intro hM0
        rintro m A hM ts' hk ⟨j, g, ys, hm, f1, f2, f3, f4, s1, s2, s3, s4⟩
        simp only [go_sem, ↓reduceIte, reduceIte, Nat.reduceEqDiff, String.reduceEq, Nat.reduceLT, Nat.reduceLeDiff, Nat.reduceAdd, Nat.reduceMul, Nat.reduceSub, Nat.reduceBEq, reduceCtorEq, *] at hk
        have hly : Small ys.length := by unfold Small at ht2 ⊢; omega
        by_cases hjt : j < S[i].l.length
        · obtain ⟨hn1, hn2, hn3, hn4, hn5⟩ := hsj _ (List.getElem_mem hjt)
          rw [List.drop_eq_getElem_cons hjt, List.map_cons, List.cons_append, List.foldl_cons] at f2
          (repeat' (first
    | with_reducible refine callX.by (rsane_c _ _ ?_) ?_
    | with_reducible refine callX.by (rkey3_c _ _ _ _ _ _ _) ?_
    | with_reducible refine callX.by (kput_c _ _ _ ?_ ?_ ?_) ?_
    | with_reducible assumption
    | (with_reducible refine NxK.out hK _ ?_; clear hK K)
    | with_reducible refine NxK.out (by assumption) _ ?_
    | with_reducible refine Nx.out (by assumption) ?_
    | with_reducible refine SpecC.seqW fun K hK => ?_
    | with_reducible refine SpecC.regW T fun K hK => ?_
    | with_reducible refine SpecC.condW fun A B hA hB => ?_
    | with_reducible refine SpecC.block ?_
    | with_reducible refine SpecC.skip ?_
    | with_reducible refine SpecC.label ?_
    | with_reducible refine SpecC.exit ?_
    | with_reducible refine SpecC.goto ?_
    | with_reducible refine SpecC.ret ?_
    | ((with_reducible first | refine condK.split (fun hb => ?_) (fun hb => ?_) | refine gK.split_t (fun hb => ?_) (fun hb => ?_) | refine gK.split_f (fun hb => ?_) (fun hb => ?_)) <;> try simp only [decide_not, ilt_t, ilt_f, ile_t, ile_f, nlt_t, nlt_f, nle_t, nle_f, Bool.not_eq_true', Bool.not_eq_false', Int.ofNat_lt, Int.ofNat_le] at hb)
    | simp only [go_sem, ↓reduceIte, reduceIte, Nat.reduceEqDiff, String.reduceEq, Nat.reduceLT, Nat.reduceLeDiff, Nat.reduceAdd, Nat.reduceMul, Nat.reduceSub, Nat.reduceBEq, reduceCtorEq, *, -f2, -f3]
    | with_reducible refine fun (bn : Bool) hbn => ?_))
          all_goals ((repeat clear hK); (repeat clear hA); (repeat clear hB))
          have hkl := kput_length ys (keyOf S[i].l[j])
          (refine hM.onE (S[i].l.length - (j + 1)) (Ent.ren 3 37 ?_ ?_) ?_ ?_ ?_; (focus (simp only [go_sem, ↓reduceIte, reduceIte, Nat.reduceEqDiff, String.reduceEq, Nat.reduceLT, Nat.reduceLeDiff, Nat.reduceAdd, Nat.reduceMul, Nat.reduceSub, Nat.reduceBEq, reduceCtorEq, *]; first | done | rfl)); (focus (simp only [go_sem, ↓reduceIte, reduceIte, Nat.reduceEqDiff, String.reduceEq, Nat.reduceLT, Nat.reduceLeDiff, Nat.reduceAdd, Nat.reduceMul, Nat.reduceSub, Nat.reduceBEq, reduceCtorEq, *]; first | done | rfl)); omega; (focus (simp only [go_sem, ↓reduceIte, reduceIte, Nat.reduceEqDiff, String.reduceEq, Nat.reduceLT, Nat.reduceLeDiff, Nat.reduceAdd, Nat.reduceMul, Nat.reduceSub, Nat.reduceBEq, reduceCtorEq, *, w64_nat hjt hsi, keyOf, -f2, -f3, -hkl]; done)); refine ⟨j + 1, g + 1, kput ys (keyOf S[i].l[j]), rfl, by omega, f2, by omega, fun x hx => (kput_mem hx).elim (fun e => by rw [e]; exact hn1) (f4 x), ?_⟩; simp only [go_sem, ↓reduceIte, reduceIte, Nat.reduceEqDiff, String.reduceEq, Nat.reduceLT, Nat.reduceLeDiff, Nat.reduceAdd, Nat.reduceMul, Nat.reduceSub, Nat.reduceBEq, reduceCtorEq, *, w64_nat hjt hsi, keyOf, -f2, -f3, -hkl]; done)
        · rw [List.drop_eq_nil_of_le (by omega), List.map_nil, List.nil_append] at f2
          (repeat' (first
    | with_reducible refine callX.by (rsane_c _ _ ?_) ?_
    | with_reducible refine callX.by (rkey3_c _ _ _ _ _ _ _) ?_
    | with_reducible refine callX.by (kput_c _ _ _ ?_ ?_ ?_) ?_
    | with_reducible assumption
    | (with_reducible refine NxK.out hK _ ?_; clear hK K)
    | with_reducible refine NxK.out (by assumption) _ ?_
    | with_reducible refine Nx.out (by assumption) ?_
    | with_reducible refine SpecC.seqW fun K hK => ?_
    | with_reducible refine SpecC.regW T fun K hK => ?_
    | with_reducible refine SpecC.condW fun A B hA hB => ?_
    | with_reducible refine SpecC.block ?_
    | with_reducible refine SpecC.skip ?_
    | with_reducible refine SpecC.label ?_
    | with_reducible refine SpecC.exit ?_
    | with_reducible refine SpecC.goto ?_
    | with_reducible refine SpecC.ret ?_
    | ((with_reducible first | refine condK.split (fun hb => ?_) (fun hb => ?_) | refine gK.split_t (fun hb => ?_) (fun hb => ?_) | refine gK.split_f (fun hb => ?_) (fun hb => ?_)) <;> try simp only [decide_not, ilt_t, ilt_f, ile_t, ile_f, nlt_t, nlt_f, nle_t, nle_f, Bool.not_eq_true', Bool.not_eq_false', Int.ofNat_lt, Int.ofNat_le] at hb)
    | simp only [go_sem, ↓reduceIte, reduceIte, Nat.reduceEqDiff, String.reduceEq, Nat.reduceLT, Nat.reduceLeDiff, Nat.reduceAdd, Nat.reduceMul, Nat.reduceSub, Nat.reduceBEq, reduceCtorEq, *, -f2, -f3]
    | with_reducible refine fun (bn : Bool) hbn => ?_))
          all_goals ((repeat clear hK); (repeat clear hA); (repeat clear hB))
          all_goals (clear hM; revert hM0; intro hM)
          (refine hM.on (S.length - (i + 1)) (by omega) (by simp only [go_sem, ↓reduceIte, reduceIte, Nat.reduceEqDiff, String.reduceEq, Nat.reduceLT, Nat.reduceLeDiff, Nat.reduceAdd, Nat.reduceMul, Nat.reduceSub, Nat.reduceBEq, reduceCtorEq, *, w64_nat hlt hl2, -f2, -f3]) ⟨i + 1, ts'.gen 3, ys, rfl, by omega, f2, by omega, f4, ?_⟩; simp only [go_sem, ↓reduceIte, reduceIte, Nat.reduceEqDiff, String.reduceEq, Nat.reduceLT, Nat.reduceLeDiff, Nat.reduceAdd, Nat.reduceMul, Nat.reduceSub, Nat.reduceBEq, reduceCtorEq, *, w64_nat hlt hl2, -f2, -f3]; done)
    · rw [List.drop_eq_nil_of_le (by omega)] at f2
      (repeat' (first
    | with_reducible refine callX.by (rsane_c _ _ ?_) ?_
    | with_reducible refine callX.by (rkey3_c _ _ _ _ _ _ _) ?_
    | with_reducible refine callX.by (kput_c _ _ _ ?_ ?_ ?_) ?_
    | with_reducible assumption
    | (with_reducible refine NxK.out hK _ ?_; clear hK K)
    | with_reducible refine NxK.out (by assumption) _ ?_
    | with_reducible refine Nx.out (by assumption) ?_
    | with_reducible refine SpecC.seqW fun K hK => ?_
    | with_reducible refine SpecC.regW T fun K hK => ?_
    | with_reducible refine SpecC.condW fun A B hA hB => ?_
    | with_reducible refine SpecC.block ?_
    | with_reducible refine SpecC.skip ?_
    | with_reducible refine SpecC.label ?_
    | with_reducible refine SpecC.exit ?_
    | with_reducible refine SpecC.goto ?_
    | with_reducible refine SpecC.ret ?_
    | ((with_reducible first | refine condK.split (fun hb => ?_) (fun hb => ?_) | refine gK.split_t (fun hb => ?_) (fun hb => ?_) | refine gK.split_f (fun hb => ?_) (fun hb => ?_)) <;> try simp only [decide_not, ilt_t, ilt_f, ile_t, ile_f, nlt_t, nlt_f, nle_t, nle_f, Bool.not_eq_true', Bool.not_eq_false', Int.ofNat_lt, Int.ofNat_le] at hb)
    | simp only [go_sem, ↓reduceIte, reduceIte, Nat.reduceEqDiff, String.reduceEq, Nat.reduceLT, Nat.reduceLeDiff, Nat.reduceAdd, Nat.reduceMul, Nat.reduceSub, Nat.reduceBEq, reduceCtorEq, *, -f3]
    | with_reducible refine fun (bn : Bool) hbn => ?_))
      all_goals ((repeat clear hK); (repeat clear hA); (repeat clear hB))
      rfl
end Go.Proofs.Ytjmnokbbodcaaaa.Lg
