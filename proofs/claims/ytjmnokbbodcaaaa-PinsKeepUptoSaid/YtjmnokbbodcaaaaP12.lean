/- slices.Compact at Key; pins.Held; ref18.Held. -/
import Derived.Test.YtjmnokbbodcaaaaP11
namespace Go.Proofs.Ytjmnokbbodcaaaa.Lg
set_option linter.unusedVariables false
set_option linter.unusedSimpArgs false
open Go

theorem kcT_drop {xs : List Key} {k : Nat} (h0 : 0 < k) (h : k < xs.length) : kcT (xs.drop (k - 1)) = if xs[k] = xs[k - 1] then kcT (xs.drop k) else xs[k] :: kcT (xs.drop k) := by
  have e : xs.drop (k - 1) = xs[k - 1] :: xs[k] :: xs.drop (k + 1) := by
    rw [List.drop_eq_getElem_cons (by omega : k - 1 < xs.length)]
    congr 1
    have : k - 1 + 1 = k := by omega
    rw [this, List.drop_eq_getElem_cons h]
  rw [e, kcT, ← List.drop_eq_getElem_cons h]
theorem kcT_last {xs : List Key} {k : Nat} (h : xs.length ≤ k + 1) : kcT (xs.drop k) = [] := by
  have : (xs.drop k).length ≤ 1 := by simp; omega
  match hx : xs.drop k, this with
  | [], _ => rfl
  | [_], _ => rfl

set_option maxRecDepth 30000 in
set_option maxHeartbeats 4000000 in
theorem compactKey_c (xs : List Key) (hl : Small xs.length) : CallM Try.prog 38 2 (avs xs) [] (.own 2 (avs (kcompact xs))) := by
  refine CallM.go0 (T := T) Try.call38 Try.func38 rfl Try.ntmps38 (congrArg Array.toList Try.results38) (by decide) fun ts hn h0 hg0 ho0 => ?_
  by_cases h2 : xs.length < 2
  · have hc : kcompact xs = xs := by
      match xs, h2 with
      | [], _ => rfl
      | [_], _ => rfl
    (repeat' (first
    | with_reducible assumption
    | (with_reducible refine NxK.out hK _ ?_; clear hK K)
    | with_reducible refine NxK.out (by assumption) _ ?_
    | with_reducible refine Nx.out (by assumption) ?_
    | with_reducible refine SpecC.seqW fun K hK => ?_
    | with_reducible refine SpecC.regW T fun K hK => ?_
    | with_reducible refine SpecC.drawW (id := 6) T mixed [([16], [17, 20, 21, 22, 23, 24, 25]), ([17], [16, 20, 21, 22, 23, 24, 25]), ([18], [20, 21, 22, 23, 24]), ([19], [20, 21, 22, 23, 24]), ([20], [16, 17, 18, 19, 21, 22, 25]), ([21], [16, 17, 18, 19, 20, 24, 25]), ([22], [16, 17, 18, 19, 20, 25]), ([23], [16, 17, 18, 19]), ([24], [16, 17, 18, 19, 21]), ([25], [16, 17, 20, 21, 22])] (by kernel_rfl) fun K hK => ?_
    | with_reducible refine SpecC.drawW (id := 11) T mixed [([35], [36, 39, 40, 41, 42, 43, 44]), ([36], [35, 39, 40, 41, 42, 43, 44]), ([37], [39, 40, 41, 42, 43]), ([38], [39, 40, 41, 42, 43]), ([39], [35, 36, 37, 38, 40, 41, 44]), ([40], [35, 36, 37, 38, 39, 43, 44]), ([41], [35, 36, 37, 38, 39, 44]), ([42], [35, 36, 37, 38]), ([43], [35, 36, 37, 38, 40]), ([44], [35, 36, 39, 40, 41])] (by kernel_rfl) fun K hK => ?_
    | with_reducible refine SpecC.condW fun A B hA hB => ?_
    | with_reducible refine SpecC.block ?_
    | with_reducible refine SpecC.skip ?_
    | with_reducible refine SpecC.label ?_
    | with_reducible refine SpecC.exit ?_
    | with_reducible refine SpecC.goto ?_
    | with_reducible refine SpecC.ret ?_
    | ((with_reducible first | refine condK.split (fun hb => ?_) (fun hb => ?_) | refine gK.split_t (fun hb => ?_) (fun hb => ?_) | refine gK.split_f (fun hb => ?_) (fun hb => ?_)) <;> try simp only [decide_not, ilt_t, ilt_f, ile_t, ile_f, nlt_t, nlt_f, nle_t, nle_f, Bool.not_eq_true', Bool.not_eq_false', Int.ofNat_lt, Int.ofNat_le] at hb)
    | simp only [go_sem, ↓reduceIte, reduceIte, Nat.reduceEqDiff, String.reduceEq, Nat.reduceLT, Nat.reduceLeDiff, Nat.reduceAdd, Nat.reduceMul, Nat.reduceSub, Nat.reduceBEq, reduceCtorEq, *, hc]
    | with_reducible refine fun (bn : Bool) hbn => ?_))
  · (repeat' (first
    | with_reducible assumption
    | (with_reducible refine NxK.out hK _ ?_; clear hK K)
    | with_reducible refine NxK.out (by assumption) _ ?_
    | with_reducible refine Nx.out (by assumption) ?_
    | with_reducible refine SpecC.seqW fun K hK => ?_
    | with_reducible refine SpecC.regW T fun K hK => ?_
    | with_reducible refine SpecC.drawW (id := 6) T mixed [([16], [17, 20, 21, 22, 23, 24, 25]), ([17], [16, 20, 21, 22, 23, 24, 25]), ([18], [20, 21, 22, 23, 24]), ([19], [20, 21, 22, 23, 24]), ([20], [16, 17, 18, 19, 21, 22, 25]), ([21], [16, 17, 18, 19, 20, 24, 25]), ([22], [16, 17, 18, 19, 20, 25]), ([23], [16, 17, 18, 19]), ([24], [16, 17, 18, 19, 21]), ([25], [16, 17, 20, 21, 22])] (by kernel_rfl) fun K hK => ?_
    | with_reducible refine SpecC.drawW (id := 11) T mixed [([35], [36, 39, 40, 41, 42, 43, 44]), ([36], [35, 39, 40, 41, 42, 43, 44]), ([37], [39, 40, 41, 42, 43]), ([38], [39, 40, 41, 42, 43]), ([39], [35, 36, 37, 38, 40, 41, 44]), ([40], [35, 36, 37, 38, 39, 43, 44]), ([41], [35, 36, 37, 38, 39, 44]), ([42], [35, 36, 37, 38]), ([43], [35, 36, 37, 38, 40]), ([44], [35, 36, 39, 40, 41])] (by kernel_rfl) fun K hK => ?_
    | with_reducible refine SpecC.condW fun A B hA hB => ?_
    | with_reducible refine SpecC.block ?_
    | with_reducible refine SpecC.skip ?_
    | with_reducible refine SpecC.label ?_
    | with_reducible refine SpecC.exit ?_
    | with_reducible refine SpecC.goto ?_
    | with_reducible refine SpecC.ret ?_
    | ((with_reducible first | refine condK.split (fun hb => ?_) (fun hb => ?_) | refine gK.split_t (fun hb => ?_) (fun hb => ?_) | refine gK.split_f (fun hb => ?_) (fun hb => ?_)) <;> try simp only [decide_not, ilt_t, ilt_f, ile_t, ile_f, nlt_t, nlt_f, nle_t, nle_f, Bool.not_eq_true', Bool.not_eq_false', Int.ofNat_lt, Int.ofNat_le] at hb)
    | simp only [go_sem, ↓reduceIte, reduceIte, Nat.reduceEqDiff, String.reduceEq, Nat.reduceLT, Nat.reduceLeDiff, Nat.reduceAdd, Nat.reduceMul, Nat.reduceSub, Nat.reduceBEq, reduceCtorEq, *]
    | with_reducible refine fun (bn : Bool) hbn => ?_))
    refine SpecC.loopF [0] (fun m ts' => ∃ (k : Nat), m = xs.length - k ∧ 1 ≤ k ∧ k ≤ xs.length ∧ kcompact xs = xs.take k ++ kcT (xs.drop (k - 1)) ∧ ts'.tmp 3 = .int .i64 k) (xs.length - 1) ?_ ?_
    · refine ⟨1, rfl, Nat.le_refl _, by omega, rfl, ?_⟩
      simp only [go_sem, ↓reduceIte, reduceIte, Nat.reduceEqDiff, String.reduceEq, Nat.reduceLT, Nat.reduceLeDiff, Nat.reduceAdd, Nat.reduceMul, Nat.reduceSub, Nat.reduceBEq, reduceCtorEq, *]
      rfl
    · rintro m A hM ts' hk ⟨k, hm, f1, f2, f3, s1⟩
      simp only [go_sem, ↓reduceIte, reduceIte, Nat.reduceEqDiff, String.reduceEq, Nat.reduceLT, Nat.reduceLeDiff, Nat.reduceAdd, Nat.reduceMul, Nat.reduceSub, Nat.reduceBEq, reduceCtorEq, *] at hk
      by_cases hlt : k < xs.length
      · have hw : IntKind.i64.wrap ((k : Int) - 1) = ((k - 1 : Nat) : Int) := by
          rw [w64_pred (show Small k by unfold Small at *; omega)]; omega
        have hk1 : k - 1 < xs.length := by omega
        simp only [kcT_drop f1 hlt, ext_Key] at f3
        (repeat' (first
    | with_reducible assumption
    | (with_reducible refine NxK.out hK _ ?_; clear hK K)
    | with_reducible refine NxK.out (by assumption) _ ?_
    | with_reducible refine Nx.out (by assumption) ?_
    | with_reducible refine SpecC.seqW fun K hK => ?_
    | with_reducible refine SpecC.regW T fun K hK => ?_
    | with_reducible refine SpecC.drawW (id := 6) T mixed [([16], [17, 20, 21, 22, 23, 24, 25]), ([17], [16, 20, 21, 22, 23, 24, 25]), ([18], [20, 21, 22, 23, 24]), ([19], [20, 21, 22, 23, 24]), ([20], [16, 17, 18, 19, 21, 22, 25]), ([21], [16, 17, 18, 19, 20, 24, 25]), ([22], [16, 17, 18, 19, 20, 25]), ([23], [16, 17, 18, 19]), ([24], [16, 17, 18, 19, 21]), ([25], [16, 17, 20, 21, 22])] (by kernel_rfl) fun K hK => ?_
    | with_reducible refine SpecC.drawW (id := 11) T mixed [([35], [36, 39, 40, 41, 42, 43, 44]), ([36], [35, 39, 40, 41, 42, 43, 44]), ([37], [39, 40, 41, 42, 43]), ([38], [39, 40, 41, 42, 43]), ([39], [35, 36, 37, 38, 40, 41, 44]), ([40], [35, 36, 37, 38, 39, 43, 44]), ([41], [35, 36, 37, 38, 39, 44]), ([42], [35, 36, 37, 38]), ([43], [35, 36, 37, 38, 40]), ([44], [35, 36, 39, 40, 41])] (by kernel_rfl) fun K hK => ?_
    | with_reducible refine SpecC.condW fun A B hA hB => ?_
    | with_reducible refine SpecC.block ?_
    | with_reducible refine SpecC.skip ?_
    | with_reducible refine SpecC.label ?_
    | with_reducible refine SpecC.exit ?_
    | with_reducible refine SpecC.goto ?_
    | with_reducible refine SpecC.ret ?_
    | ((with_reducible first | refine condK.split (fun hb => ?_) (fun hb => ?_) | refine gK.split_t (fun hb => ?_) (fun hb => ?_) | refine gK.split_f (fun hb => ?_) (fun hb => ?_)) <;> try simp only [decide_not, ilt_t, ilt_f, ile_t, ile_f, nlt_t, nlt_f, nle_t, nle_f, Bool.not_eq_true', Bool.not_eq_false', Int.ofNat_lt, Int.ofNat_le] at hb)
    | simp only [go_sem, ↓reduceIte, reduceIte, Nat.reduceEqDiff, String.reduceEq, Nat.reduceLT, Nat.reduceLeDiff, Nat.reduceAdd, Nat.reduceMul, Nat.reduceSub, Nat.reduceBEq, reduceCtorEq, *, hw, -f3]
    | with_reducible refine fun (bn : Bool) hbn => ?_))
        · have hk4 : kcompact xs = xs.take k ++ kcT (xs.drop k) := by rw [f3, if_pos (by clear hM hK; grind)]
          clear f3 hM
          refine SpecC.loopF [4] (fun m ts' => ∃ (q : Nat), ∃ (j : Nat), ∃ (ys : List Key), m = xs.length - j ∧ 1 ≤ j ∧ k + j ≤ xs.length ∧ q ≤ k + j - 1 ∧ ys.length = xs.length ∧ kcompact xs = ys.take q ++ kcT (xs.drop (k + j - 1)) ∧ ys.drop (k + j - 1) = xs.drop (k + j - 1) ∧ ts'.tmp 0 = .os 0 0 xs.length ∧ ts'.gen 0 = 0 ∧ ts'.obj 0 = .arr 2 (avs ys) ∧ ts'.tmp 3 = .int .i64 q ∧ ts'.tmp 5 = .int .i64 j) (xs.length - 1) ?_ ?_
          · refine ⟨k, 1, xs, rfl, Nat.le_refl _, by omega, by omega, rfl, hk4, rfl, ?_⟩
            simp only [go_sem, ↓reduceIte, reduceIte, Nat.reduceEqDiff, String.reduceEq, Nat.reduceLT, Nat.reduceLeDiff, Nat.reduceAdd, Nat.reduceMul, Nat.reduceSub, Nat.reduceBEq, reduceCtorEq, *, -hk4]
            all_goals rfl
          · clear hk4
            rintro m A hM ts' hk ⟨q, j, ys, hm, f1, f2, f3, f4, f5, f6, s1, s2, s3, s4, s5⟩
            simp only [go_sem, ↓reduceIte, reduceIte, Nat.reduceEqDiff, String.reduceEq, Nat.reduceLT, Nat.reduceLeDiff, Nat.reduceAdd, Nat.reduceMul, Nat.reduceSub, Nat.reduceBEq, reduceCtorEq, *] at hk
            by_cases hjt : j < xs.length - k
            · have hw2 : IntKind.i64.wrap ((j : Int) - 1) = ((j - 1 : Nat) : Int) := by
                rw [w64_pred (show Small j by unfold Small at *; omega)]; omega
              have hkj : k + j < xs.length := by omega
              have hky : k + j < ys.length := by omega
              have hkj1 : k + (j - 1) < xs.length := by omega
              have hky1 : k + (j - 1) < ys.length := by omega
              have e1 : k + (j - 1) = k + j - 1 := by omega
              have hy2 : ys[k + (j - 1)] = xs[k + (j - 1)] := by
                have := congrArg (fun l => l[0]?) f6
                simp only [List.getElem?_drop, Nat.add_zero, ← e1] at this
                rwa [List.getElem?_eq_getElem hky1, List.getElem?_eq_getElem hkj1, Option.some.injEq] at this
              have hy1 : ys[k + j] = xs[k + j] := by
                have := congrArg (fun l => l[1]?) f6
                have e2 : k + j - 1 + 1 = k + j := by omega
                simp only [List.getElem?_drop, e2] at this
                rwa [List.getElem?_eq_getElem hky, List.getElem?_eq_getElem hkj, Option.some.injEq] at this
              have hdr : ys.drop (k + j) = xs.drop (k + j) := by
                have := congrArg (List.drop 1) f6
                have e2 : k + j - 1 + 1 = k + j := by omega
                simpa only [List.drop_drop, e2] using this
              have hq : q < xs.length := by omega
              have hj1 : j - 1 < xs.length - k := by omega
              have hjx : j < xs.length := by omega
              have hkT := kcT_drop (show 0 < k + j by omega) hkj
              simp only [← e1] at hkT
              rw [← e1, hkT] at f5
              have e3 : k + (j + 1) - 1 = k + j := by omega
              (repeat' (first
    | with_reducible assumption
    | (with_reducible refine NxK.out hK _ ?_; clear hK K)
    | with_reducible refine NxK.out (by assumption) _ ?_
    | with_reducible refine Nx.out (by assumption) ?_
    | with_reducible refine SpecC.seqW fun K hK => ?_
    | with_reducible refine SpecC.regW T fun K hK => ?_
    | with_reducible refine SpecC.drawW (id := 6) T mixed [([16], [17, 20, 21, 22, 23, 24, 25]), ([17], [16, 20, 21, 22, 23, 24, 25]), ([18], [20, 21, 22, 23, 24]), ([19], [20, 21, 22, 23, 24]), ([20], [16, 17, 18, 19, 21, 22, 25]), ([21], [16, 17, 18, 19, 20, 24, 25]), ([22], [16, 17, 18, 19, 20, 25]), ([23], [16, 17, 18, 19]), ([24], [16, 17, 18, 19, 21]), ([25], [16, 17, 20, 21, 22])] (by kernel_rfl) fun K hK => ?_
    | with_reducible refine SpecC.drawW (id := 11) T mixed [([35], [36, 39, 40, 41, 42, 43, 44]), ([36], [35, 39, 40, 41, 42, 43, 44]), ([37], [39, 40, 41, 42, 43]), ([38], [39, 40, 41, 42, 43]), ([39], [35, 36, 37, 38, 40, 41, 44]), ([40], [35, 36, 37, 38, 39, 43, 44]), ([41], [35, 36, 37, 38, 39, 44]), ([42], [35, 36, 37, 38]), ([43], [35, 36, 37, 38, 40]), ([44], [35, 36, 39, 40, 41])] (by kernel_rfl) fun K hK => ?_
    | with_reducible refine SpecC.condW fun A B hA hB => ?_
    | with_reducible refine SpecC.block ?_
    | with_reducible refine SpecC.skip ?_
    | with_reducible refine SpecC.label ?_
    | with_reducible refine SpecC.exit ?_
    | with_reducible refine SpecC.goto ?_
    | with_reducible refine SpecC.ret ?_
    | ((with_reducible first | refine condK.split (fun hb => ?_) (fun hb => ?_) | refine gK.split_t (fun hb => ?_) (fun hb => ?_) | refine gK.split_f (fun hb => ?_) (fun hb => ?_)) <;> try simp only [decide_not, ilt_t, ilt_f, ile_t, ile_f, nlt_t, nlt_f, nle_t, nle_f, Bool.not_eq_true', Bool.not_eq_false', Int.ofNat_lt, Int.ofNat_le] at hb)
    | simp only [go_sem, ↓reduceIte, reduceIte, Nat.reduceEqDiff, String.reduceEq, Nat.reduceLT, Nat.reduceLeDiff, Nat.reduceAdd, Nat.reduceMul, Nat.reduceSub, Nat.reduceBEq, reduceCtorEq, *, hw2, -f5, -f6, -hdr, -hkT, -e1]
    | with_reducible refine fun (bn : Bool) hbn => ?_))
              all_goals ((repeat clear hK); (repeat clear hA); (repeat clear hB))
              · (refine hM.on (xs.length - (j + 1)) (by omega) (by simp only [go_sem, ↓reduceIte, reduceIte, Nat.reduceEqDiff, String.reduceEq, Nat.reduceLT, Nat.reduceLeDiff, Nat.reduceAdd, Nat.reduceMul, Nat.reduceSub, Nat.reduceBEq, reduceCtorEq, *, w64_nat hq hl, w64_nat hjx hl, -f5, -f6, -hdr, -hkT, -e1]) ⟨q + 1, j + 1, ys.set q xs[k + j], rfl, by omega, by omega, by omega, by simp [f4], by clear hM; rw [f5, if_neg (by grind [ext_Key]), take_set_succ _ (by omega), e3, List.append_assoc]; rfl, by rw [e3, List.drop_set, if_pos (by omega), hdr], ?_⟩; simp only [go_sem, ↓reduceIte, reduceIte, Nat.reduceEqDiff, String.reduceEq, Nat.reduceLT, Nat.reduceLeDiff, Nat.reduceAdd, Nat.reduceMul, Nat.reduceSub, Nat.reduceBEq, reduceCtorEq, *, w64_nat hq hl, w64_nat hjx hl, -f5, -f6, -hdr, -hkT, -e1]; done)
              · (refine hM.on (xs.length - (j + 1)) (by omega) (by simp only [go_sem, ↓reduceIte, reduceIte, Nat.reduceEqDiff, String.reduceEq, Nat.reduceLT, Nat.reduceLeDiff, Nat.reduceAdd, Nat.reduceMul, Nat.reduceSub, Nat.reduceBEq, reduceCtorEq, *, w64_nat hjx hl, -f5, -f6, -hdr, -hkT, -e1]) ⟨q, j + 1, ys, rfl, by omega, by omega, by omega, f4, by clear hM; rw [f5, if_pos (by grind [ext_Key]), e3], by rw [e3, hdr], ?_⟩; simp only [go_sem, ↓reduceIte, reduceIte, Nat.reduceEqDiff, String.reduceEq, Nat.reduceLT, Nat.reduceLeDiff, Nat.reduceAdd, Nat.reduceMul, Nat.reduceSub, Nat.reduceBEq, reduceCtorEq, *, w64_nat hjx hl, -f5, -f6, -hdr, -hkT, -e1]; done)
            · have hkj : k + j = xs.length := by omega
              have f7 : kcompact xs = ys.take q := by rw [f5, kcT_last (by omega), List.append_nil]
              have hq1 : q ≤ xs.length := by omega
              have hq2 : q + (xs.length - q) = xs.length := by omega
              clear f5 f6
              (repeat' (first
    | with_reducible assumption
    | (with_reducible refine NxK.out hK _ ?_; clear hK K)
    | with_reducible refine NxK.out (by assumption) _ ?_
    | with_reducible refine Nx.out (by assumption) ?_
    | with_reducible refine SpecC.seqW fun K hK => ?_
    | with_reducible refine SpecC.regW T fun K hK => ?_
    | with_reducible refine SpecC.drawW (id := 6) T mixed [([16], [17, 20, 21, 22, 23, 24, 25]), ([17], [16, 20, 21, 22, 23, 24, 25]), ([18], [20, 21, 22, 23, 24]), ([19], [20, 21, 22, 23, 24]), ([20], [16, 17, 18, 19, 21, 22, 25]), ([21], [16, 17, 18, 19, 20, 24, 25]), ([22], [16, 17, 18, 19, 20, 25]), ([23], [16, 17, 18, 19]), ([24], [16, 17, 18, 19, 21]), ([25], [16, 17, 20, 21, 22])] (by kernel_rfl) fun K hK => ?_
    | with_reducible refine SpecC.drawW (id := 11) T mixed [([35], [36, 39, 40, 41, 42, 43, 44]), ([36], [35, 39, 40, 41, 42, 43, 44]), ([37], [39, 40, 41, 42, 43]), ([38], [39, 40, 41, 42, 43]), ([39], [35, 36, 37, 38, 40, 41, 44]), ([40], [35, 36, 37, 38, 39, 43, 44]), ([41], [35, 36, 37, 38, 39, 44]), ([42], [35, 36, 37, 38]), ([43], [35, 36, 37, 38, 40]), ([44], [35, 36, 39, 40, 41])] (by kernel_rfl) fun K hK => ?_
    | with_reducible refine SpecC.condW fun A B hA hB => ?_
    | with_reducible refine SpecC.block ?_
    | with_reducible refine SpecC.skip ?_
    | with_reducible refine SpecC.label ?_
    | with_reducible refine SpecC.exit ?_
    | with_reducible refine SpecC.goto ?_
    | with_reducible refine SpecC.ret ?_
    | ((with_reducible first | refine condK.split (fun hb => ?_) (fun hb => ?_) | refine gK.split_t (fun hb => ?_) (fun hb => ?_) | refine gK.split_f (fun hb => ?_) (fun hb => ?_)) <;> try simp only [decide_not, ilt_t, ilt_f, ile_t, ile_f, nlt_t, nlt_f, nle_t, nle_f, Bool.not_eq_true', Bool.not_eq_false', Int.ofNat_lt, Int.ofNat_le] at hb)
    | simp only [go_sem, ↓reduceIte, reduceIte, Nat.reduceEqDiff, String.reduceEq, Nat.reduceLT, Nat.reduceLeDiff, Nat.reduceAdd, Nat.reduceMul, Nat.reduceSub, Nat.reduceBEq, reduceCtorEq, *]
    | with_reducible refine fun (bn : Bool) hbn => ?_))
        · all_goals ((repeat clear hK); (repeat clear hA); (repeat clear hB))
          (refine hM.on (xs.length - (k + 1)) (by omega) (by simp only [go_sem, ↓reduceIte, reduceIte, Nat.reduceEqDiff, String.reduceEq, Nat.reduceLT, Nat.reduceLeDiff, Nat.reduceAdd, Nat.reduceMul, Nat.reduceSub, Nat.reduceBEq, reduceCtorEq, *, w64_nat hlt hl, -f3]) ⟨k + 1, rfl, by omega, by omega, by clear hM; rw [f3, if_neg (by grind), List.take_succ_eq_append_getElem hlt, List.append_assoc]; rfl, ?_⟩; simp only [go_sem, ↓reduceIte, reduceIte, Nat.reduceEqDiff, String.reduceEq, Nat.reduceLT, Nat.reduceLeDiff, Nat.reduceAdd, Nat.reduceMul, Nat.reduceSub, Nat.reduceBEq, reduceCtorEq, *, w64_nat hlt hl, -f3]; done)
      · have hc : kcompact xs = xs := by rw [f3, List.take_of_length_le (by omega), kcT_last (by omega)]; simp
        (repeat' (first
    | with_reducible assumption
    | (with_reducible refine NxK.out hK _ ?_; clear hK K)
    | with_reducible refine NxK.out (by assumption) _ ?_
    | with_reducible refine Nx.out (by assumption) ?_
    | with_reducible refine SpecC.seqW fun K hK => ?_
    | with_reducible refine SpecC.regW T fun K hK => ?_
    | with_reducible refine SpecC.drawW (id := 6) T mixed [([16], [17, 20, 21, 22, 23, 24, 25]), ([17], [16, 20, 21, 22, 23, 24, 25]), ([18], [20, 21, 22, 23, 24]), ([19], [20, 21, 22, 23, 24]), ([20], [16, 17, 18, 19, 21, 22, 25]), ([21], [16, 17, 18, 19, 20, 24, 25]), ([22], [16, 17, 18, 19, 20, 25]), ([23], [16, 17, 18, 19]), ([24], [16, 17, 18, 19, 21]), ([25], [16, 17, 20, 21, 22])] (by kernel_rfl) fun K hK => ?_
    | with_reducible refine SpecC.drawW (id := 11) T mixed [([35], [36, 39, 40, 41, 42, 43, 44]), ([36], [35, 39, 40, 41, 42, 43, 44]), ([37], [39, 40, 41, 42, 43]), ([38], [39, 40, 41, 42, 43]), ([39], [35, 36, 37, 38, 40, 41, 44]), ([40], [35, 36, 37, 38, 39, 43, 44]), ([41], [35, 36, 37, 38, 39, 44]), ([42], [35, 36, 37, 38]), ([43], [35, 36, 37, 38, 40]), ([44], [35, 36, 39, 40, 41])] (by kernel_rfl) fun K hK => ?_
    | with_reducible refine SpecC.condW fun A B hA hB => ?_
    | with_reducible refine SpecC.block ?_
    | with_reducible refine SpecC.skip ?_
    | with_reducible refine SpecC.label ?_
    | with_reducible refine SpecC.exit ?_
    | with_reducible refine SpecC.goto ?_
    | with_reducible refine SpecC.ret ?_
    | ((with_reducible first | refine condK.split (fun hb => ?_) (fun hb => ?_) | refine gK.split_t (fun hb => ?_) (fun hb => ?_) | refine gK.split_f (fun hb => ?_) (fun hb => ?_)) <;> try simp only [decide_not, ilt_t, ilt_f, ile_t, ile_f, nlt_t, nlt_f, nle_t, nle_f, Bool.not_eq_true', Bool.not_eq_false', Int.ofNat_lt, Int.ofNat_le] at hb)
    | simp only [go_sem, ↓reduceIte, reduceIte, Nat.reduceEqDiff, String.reduceEq, Nat.reduceLT, Nat.reduceLeDiff, Nat.reduceAdd, Nat.reduceMul, Nat.reduceSub, Nat.reduceBEq, reduceCtorEq, *, hc, -f3]
    | with_reducible refine fun (bn : Bool) hbn => ?_))

end Go.Proofs.Ytjmnokbbodcaaaa.Lg
