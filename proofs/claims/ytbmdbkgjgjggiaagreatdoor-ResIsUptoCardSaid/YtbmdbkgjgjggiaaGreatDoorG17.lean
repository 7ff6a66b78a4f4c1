/- Parts of the proof, one behind the other. -/
import Derived.Test.YtbmdbkgjgjggiaaGreatDoorG16
namespace Go.Proofs.YtbmdbkgjgjggiaaGreatDoor.Lg
set_option maxRecDepth 100000
set_option linter.unusedVariables false
set_option linter.unusedSimpArgs false
open Go
theorem kcT_drop {xs : List Key} {k : Nat} (h0 : 0 < k) (h : k < xs.length) : kcT (xs.drop (k - 1)) = if xs[k] = xs[k - 1] then kcT (xs.drop k) else xs[k] :: kcT (xs.drop k) := by
  have e : xs.drop (k - 1) = xs[k - 1] :: xs[k] :: xs.drop (k + 1) := by
    rw [List.drop_eq_getElem_cons (by omega : k - 1 < xs.length)]
    congr 1
    have : k - 1 + 1 = k := by omega
    rw [this, List.drop_eq_getElem_cons h]
  rw [e, kcT, ← List.drop_eq_getElem_cons h]
theorem kcT_last {xs : List Key} {k : Nat} (h : xs.length ≤ k + 1) : kcT (xs.drop k) = [] := by
  have : (xs.drop k).length ≤ 1 := by simp; omega
  match hx : xs.drop k, this with
  | [], _ => rfl
  | [_], _ => rfl
set_option maxRecDepth 30000 in
set_option maxHeartbeats 4000000 in
theorem compactKey_c (xs : List Key) (hl : Small xs.length) : CallM Tryz.prog 57 2 (avs xs) [] (.own 2 (avs (kcompact xs))) := by
  refine CallM.go0 (T := T) Tryz.call57 Tryz.func57 rfl Tryz.ntmps57 (congrArg Array.toList Tryz.results57) (by decide) fun ts hn h0 hg0 ho0 => ?_
  by_cases h2 : xs.length < 2
  · have hc : kcompact xs = xs := by
      match xs, h2 with
      | [], _ => rfl
      | [_], _ => rfl
    (repeat' (first
 | with_reducible assumption
 | (with_reducible refine NxK.out hK _ ?_; clear hK K)
 | with_reducible refine NxK.out (by assumption) _ ?_
 | with_reducible refine Nx.out (by assumption) ?_
 | with_reducible refine SpecC.seqW fun K hK => ?_
 | with_reducible refine SpecC.regW T fun K hK => ?_
 | with_reducible refine SpecC.drawW (id := 6) T mixed [([16], [17, 20, 21, 22, 23, 24]), ([17], [16, 20, 21, 22, 23, 24]), ([18], [20, 21, 22, 23, 24]), ([19], [20, 21, 22, 23, 24]), ([20], [16, 17, 18, 19, 21, 22]), ([21], [16, 17, 18, 19, 20, 24]), ([22], [16, 17, 18, 19, 20]), ([23], [16, 17, 18, 19]), ([24], [16, 17, 18, 19, 21])] (by kernel_rfl) fun K hK => ?_
 | with_reducible refine SpecC.drawW (id := 11) T mixed [([35], [36, 39, 40, 41, 42, 43]), ([36], [35, 39, 40, 41, 42, 43]), ([37], [39, 40, 41, 42, 43]), ([38], [39, 40, 41, 42, 43]), ([39], [35, 36, 37, 38, 40, 41]), ([40], [35, 36, 37, 38, 39, 43]), ([41], [35, 36, 37, 38, 39]), ([42], [35, 36, 37, 38]), ([43], [35, 36, 37, 38, 40])] (by kernel_rfl) fun K hK => ?_
 | with_reducible refine SpecC.condW fun A B hA hB => ?_
 | with_reducible refine SpecC.block ?_
 | with_reducible refine SpecC.skip ?_
 | with_reducible refine SpecC.label ?_
 | with_reducible refine SpecC.exit ?_
 | with_reducible refine SpecC.goto ?_
 | with_reducible refine SpecC.ret ?_
 | ((with_reducible first | refine condK.split (fun hb => ?_) (fun hb => ?_) | refine gK.split_t (fun hb => ?_) (fun hb => ?_) | refine gK.split_f (fun hb => ?_) (fun hb => ?_)) <;> try simp only [decide_not, ilt_t, ilt_f, ile_t, ile_f, nlt_t, nlt_f, nle_t, nle_f, Bool.not_eq_true', Bool.not_eq_false', Int.ofNat_lt, Int.ofNat_le] at hb)
 | simp only [go_sem, ↓reduceIte, reduceIte, Nat.reduceEqDiff, String.reduceEq, Nat.reduceLT, Nat.reduceLeDiff, Nat.reduceAdd, Nat.reduceMul, Nat.reduceSub, Nat.reduceBEq, reduceCtorEq, *, hc]
 | with_reducible refine fun (bn : Bool) hbn => ?_))
  · (repeat' (first
 | with_reducible assumption
 | (with_reducible refine NxK.out hK _ ?_; clear hK K)
 | with_reducible refine NxK.out (by assumption) _ ?_
 | with_reducible refine Nx.out (by assumption) ?_
 | with_reducible refine SpecC.seqW fun K hK => ?_
 | with_reducible refine SpecC.regW T fun K hK => ?_
 | with_reducible refine SpecC.drawW (id := 6) T mixed [([16], [17, 20, 21, 22, 23, 24]), ([17], [16, 20, 21, 22, 23, 24]), ([18], [20, 21, 22, 23, 24]), ([19], [20, 21, 22, 23, 24]), ([20], [16, 17, 18, 19, 21, 22]), ([21], [16, 17, 18, 19, 20, 24]), ([22], [16, 17, 18, 19, 20]), ([23], [16, 17, 18, 19]), ([24], [16, 17, 18, 19, 21])] (by kernel_rfl) fun K hK => ?_
 | with_reducible refine SpecC.drawW (id := 11) T mixed [([35], [36, 39, 40, 41, 42, 43]), ([36], [35, 39, 40, 41, 42, 43]), ([37], [39, 40, 41, 42, 43]), ([38], [39, 40, 41, 42, 43]), ([39], [35, 36, 37, 38, 40, 41]), ([40], [35, 36, 37, 38, 39, 43]), ([41], [35, 36, 37, 38, 39]), ([42], [35, 36, 37, 38]), ([43], [35, 36, 37, 38, 40])] (by kernel_rfl) fun K hK => ?_
 | with_reducible refine SpecC.condW fun A B hA hB => ?_
 | with_reducible refine SpecC.block ?_
 | with_reducible refine SpecC.skip ?_
 | with_reducible refine SpecC.label ?_
 | with_reducible refine SpecC.exit ?_
 | with_reducible refine SpecC.goto ?_
 | with_reducible refine SpecC.ret ?_
 | ((with_reducible first | refine condK.split (fun hb => ?_) (fun hb => ?_) | refine gK.split_t (fun hb => ?_) (fun hb => ?_) | refine gK.split_f (fun hb => ?_) (fun hb => ?_)) <;> try simp only [decide_not, ilt_t, ilt_f, ile_t, ile_f, nlt_t, nlt_f, nle_t, nle_f, Bool.not_eq_true', Bool.not_eq_false', Int.ofNat_lt, Int.ofNat_le] at hb)
 | simp only [go_sem, ↓reduceIte, reduceIte, Nat.reduceEqDiff, String.reduceEq, Nat.reduceLT, Nat.reduceLeDiff, Nat.reduceAdd, Nat.reduceMul, Nat.reduceSub, Nat.reduceBEq, reduceCtorEq, *]
 | with_reducible refine fun (bn : Bool) hbn => ?_))
    refine SpecC.loopF [0] (fun m ts' => ∃ (k : Nat), m = xs.length - k ∧ 1 ≤ k ∧ k ≤ xs.length ∧ kcompact xs = xs.take k ++ kcT (xs.drop (k - 1)) ∧ ts'.tmp 3 = .int .i64 k) (xs.length - 1) ?_ ?_
    · refine ⟨1, rfl, Nat.le_refl _, by omega, rfl, ?_⟩
      simp only [go_sem, ↓reduceIte, reduceIte, Nat.reduceEqDiff, String.reduceEq, Nat.reduceLT, Nat.reduceLeDiff, Nat.reduceAdd, Nat.reduceMul, Nat.reduceSub, Nat.reduceBEq, reduceCtorEq, *]
      rfl
    · rintro m A hM ts' hk ⟨k, hm, f1, f2, f3, s1⟩
      simp only [go_sem, ↓reduceIte, reduceIte, Nat.reduceEqDiff, String.reduceEq, Nat.reduceLT, Nat.reduceLeDiff, Nat.reduceAdd, Nat.reduceMul, Nat.reduceSub, Nat.reduceBEq, reduceCtorEq, *] at hk
      by_cases hlt : k < xs.length
      · have hw : IntKind.i64.wrap ((k : Int) - 1) = ((k - 1 : Nat) : Int) := by
          rw [w64_pred (show Small k by unfold Small at *; omega)]; omega
        have hk1 : k - 1 < xs.length := by omega
        simp only [kcT_drop f1 hlt, ext_Key] at f3
        (repeat' (first
 | with_reducible assumption
 | (with_reducible refine NxK.out hK _ ?_; clear hK K)
 | with_reducible refine NxK.out (by assumption) _ ?_
 | with_reducible refine Nx.out (by assumption) ?_
 | with_reducible refine SpecC.seqW fun K hK => ?_
 | with_reducible refine SpecC.regW T fun K hK => ?_
 | with_reducible refine SpecC.drawW (id := 6) T mixed [([16], [17, 20, 21, 22, 23, 24]), ([17], [16, 20, 21, 22, 23, 24]), ([18], [20, 21, 22, 23, 24]), ([19], [20, 21, 22, 23, 24]), ([20], [16, 17, 18, 19, 21, 22]), ([21], [16, 17, 18, 19, 20, 24]), ([22], [16, 17, 18, 19, 20]), ([23], [16, 17, 18, 19]), ([24], [16, 17, 18, 19, 21])] (by kernel_rfl) fun K hK => ?_
 | with_reducible refine SpecC.drawW (id := 11) T mixed [([35], [36, 39, 40, 41, 42, 43]), ([36], [35, 39, 40, 41, 42, 43]), ([37], [39, 40, 41, 42, 43]), ([38], [39, 40, 41, 42, 43]), ([39], [35, 36, 37, 38, 40, 41]), ([40], [35, 36, 37, 38, 39, 43]), ([41], [35, 36, 37, 38, 39]), ([42], [35, 36, 37, 38]), ([43], [35, 36, 37, 38, 40])] (by kernel_rfl) fun K hK => ?_
 | with_reducible refine SpecC.condW fun A B hA hB => ?_
 | with_reducible refine SpecC.block ?_
 | with_reducible refine SpecC.skip ?_
 | with_reducible refine SpecC.label ?_
 | with_reducible refine SpecC.exit ?_
 | with_reducible refine SpecC.goto ?_
 | with_reducible refine SpecC.ret ?_
 | ((with_reducible first | refine condK.split (fun hb => ?_) (fun hb => ?_) | refine gK.split_t (fun hb => ?_) (fun hb => ?_) | refine gK.split_f (fun hb => ?_) (fun hb => ?_)) <;> try simp only [decide_not, ilt_t, ilt_f, ile_t, ile_f, nlt_t, nlt_f, nle_t, nle_f, Bool.not_eq_true', Bool.not_eq_false', Int.ofNat_lt, Int.ofNat_le] at hb)
 | simp only [go_sem, ↓reduceIte, reduceIte, Nat.reduceEqDiff, String.reduceEq, Nat.reduceLT, Nat.reduceLeDiff, Nat.reduceAdd, Nat.reduceMul, Nat.reduceSub, Nat.reduceBEq, reduceCtorEq, *, hw, -f3]
 | with_reducible refine fun (bn : Bool) hbn => ?_))
        · have hk4 : kcompact xs = xs.take k ++ kcT (xs.drop k) := by rw [f3, if_pos (by clear hM hK; grind)]
          clear f3 hM
          refine SpecC.loopF [4] (fun m ts' => ∃ (q : Nat), ∃ (j : Nat), ∃ (ys : List Key), m = xs.length - j ∧ 1 ≤ j ∧ k + j ≤ xs.length ∧ q ≤ k + j - 1 ∧ ys.length = xs.length ∧ kcompact xs = ys.take q ++ kcT (xs.drop (k + j - 1)) ∧ ys.drop (k + j - 1) = xs.drop (k + j - 1) ∧ ts'.tmp 0 = .os 0 0 xs.length ∧ ts'.gen 0 = 0 ∧ ts'.obj 0 = .arr 2 (avs ys) ∧ ts'.tmp 3 = .int .i64 q ∧ ts'.tmp 5 = .int .i64 j) (xs.length - 1) ?_ ?_
          · refine ⟨k, 1, xs, rfl, Nat.le_refl _, by omega, by omega, rfl, hk4, rfl, ?_⟩
            simp only [go_sem, ↓reduceIte, reduceIte, Nat.reduceEqDiff, String.reduceEq, Nat.reduceLT, Nat.reduceLeDiff, Nat.reduceAdd, Nat.reduceMul, Nat.reduceSub, Nat.reduceBEq, reduceCtorEq, *, -hk4]
            all_goals rfl
          · clear hk4
            rintro m A hM ts' hk ⟨q, j, ys, hm, f1, f2, f3, f4, f5, f6, s1, s2, s3, s4, s5⟩
            simp only [go_sem, ↓reduceIte, reduceIte, Nat.reduceEqDiff, String.reduceEq, Nat.reduceLT, Nat.reduceLeDiff, Nat.reduceAdd, Nat.reduceMul, Nat.reduceSub, Nat.reduceBEq, reduceCtorEq, *] at hk
            by_cases hjt : j < xs.length - k
            · have hw2 : IntKind.i64.wrap ((j : Int) - 1) = ((j - 1 : Nat) : Int) := by
                rw [w64_pred (show Small j by unfold Small at *; omega)]; omega
              have hkj : k + j < xs.length := by omega
              have hky : k + j < ys.length := by omega
              have hkj1 : k + (j - 1) < xs.length := by omega
              have hky1 : k + (j - 1) < ys.length := by omega
              have e1 : k + (j - 1) = k + j - 1 := by omega
              have hy2 : ys[k + (j - 1)] = xs[k + (j - 1)] := by
                have := congrArg (fun l => l[0]?) f6
                simp only [List.getElem?_drop, Nat.add_zero, ← e1] at this
                rwa [List.getElem?_eq_getElem hky1, List.getElem?_eq_getElem hkj1, Option.some.injEq] at this
              have hy1 : ys[k + j] = xs[k + j] := by
                have := congrArg (fun l => l[1]?) f6
                have e2 : k + j - 1 + 1 = k + j := by omega
                simp only [List.getElem?_drop, e2] at this
                rwa [List.getElem?_eq_getElem hky, List.getElem?_eq_getElem hkj, Option.some.injEq] at this
              have hdr : ys.drop (k + j) = xs.drop (k + j) := by
                have := congrArg (List.drop 1) f6
                have e2 : k + j - 1 + 1 = k + j := by omega
                simpa only [List.drop_drop, e2] using this
              have hq : q < xs.length := by omega
              have hj1 : j - 1 < xs.length - k := by omega
              have hjx : j < xs.length := by omega
              have hkT := kcT_drop (show 0 < k + j by omega) hkj
              simp only [← e1] at hkT
              rw [← e1, hkT] at f5
              have e3 : k + (j + 1) - 1 = k + j := by omega
              (repeat' (first
 | with_reducible assumption
 | (with_reducible refine NxK.out hK _ ?_; clear hK K)
 | with_reducible refine NxK.out (by assumption) _ ?_
 | with_reducible refine Nx.out (by assumption) ?_
 | with_reducible refine SpecC.seqW fun K hK => ?_
 | with_reducible refine SpecC.regW T fun K hK => ?_
 | with_reducible refine SpecC.drawW (id := 6) T mixed [([16], [17, 20, 21, 22, 23, 24]), ([17], [16, 20, 21, 22, 23, 24]), ([18], [20, 21, 22, 23, 24]), ([19], [20, 21, 22, 23, 24]), ([20], [16, 17, 18, 19, 21, 22]), ([21], [16, 17, 18, 19, 20, 24]), ([22], [16, 17, 18, 19, 20]), ([23], [16, 17, 18, 19]), ([24], [16, 17, 18, 19, 21])] (by kernel_rfl) fun K hK => ?_
 | with_reducible refine SpecC.drawW (id := 11) T mixed [([35], [36, 39, 40, 41, 42, 43]), ([36], [35, 39, 40, 41, 42, 43]), ([37], [39, 40, 41, 42, 43]), ([38], [39, 40, 41, 42, 43]), ([39], [35, 36, 37, 38, 40, 41]), ([40], [35, 36, 37, 38, 39, 43]), ([41], [35, 36, 37, 38, 39]), ([42], [35, 36, 37, 38]), ([43], [35, 36, 37, 38, 40])] (by kernel_rfl) fun K hK => ?_
 | with_reducible refine SpecC.condW fun A B hA hB => ?_
 | with_reducible refine SpecC.block ?_
 | with_reducible refine SpecC.skip ?_
 | with_reducible refine SpecC.label ?_
 | with_reducible refine SpecC.exit ?_
 | with_reducible refine SpecC.goto ?_
 | with_reducible refine SpecC.ret ?_
 | ((with_reducible first | refine condK.split (fun hb => ?_) (fun hb => ?_) | refine gK.split_t (fun hb => ?_) (fun hb => ?_) | refine gK.split_f (fun hb => ?_) (fun hb => ?_)) <;> try simp only [decide_not, ilt_t, ilt_f, ile_t, ile_f, nlt_t, nlt_f, nle_t, nle_f, Bool.not_eq_true', Bool.not_eq_false', Int.ofNat_lt, Int.ofNat_le] at hb)
 | simp only [go_sem, ↓reduceIte, reduceIte, Nat.reduceEqDiff, String.reduceEq, Nat.reduceLT, Nat.reduceLeDiff, Nat.reduceAdd, Nat.reduceMul, Nat.reduceSub, Nat.reduceBEq, reduceCtorEq, *, hw2, -f5, -f6, -hdr, -hkT, -e1]
 | with_reducible refine fun (bn : Bool) hbn => ?_))
              all_goals ((repeat clear hK); (repeat clear hA); (repeat clear hB))
              · (refine hM.on (xs.length - (j + 1)) (by omega) (by simp only [go_sem, ↓reduceIte, reduceIte, Nat.reduceEqDiff, String.reduceEq, Nat.reduceLT, Nat.reduceLeDiff, Nat.reduceAdd, Nat.reduceMul, Nat.reduceSub, Nat.reduceBEq, reduceCtorEq, *, w64_nat hq hl, w64_nat hjx hl, -f5, -f6, -hdr, -hkT, -e1]) ⟨q + 1, j + 1, ys.set q xs[k + j], rfl, by omega, by omega, by omega, by simp [f4], by clear hM; rw [f5, if_neg (by grind [ext_Key]), take_set_succ _ (by omega), e3, List.append_assoc]; rfl, by rw [e3, List.drop_set, if_pos (by omega), hdr], ?_⟩; simp only [go_sem, ↓reduceIte, reduceIte, Nat.reduceEqDiff, String.reduceEq, Nat.reduceLT, Nat.reduceLeDiff, Nat.reduceAdd, Nat.reduceMul, Nat.reduceSub, Nat.reduceBEq, reduceCtorEq, *, w64_nat hq hl, w64_nat hjx hl, -f5, -f6, -hdr, -hkT, -e1]; done)
              · (refine hM.on (xs.length - (j + 1)) (by omega) (by simp only [go_sem, ↓reduceIte, reduceIte, Nat.reduceEqDiff, String.reduceEq, Nat.reduceLT, Nat.reduceLeDiff, Nat.reduceAdd, Nat.reduceMul, Nat.reduceSub, Nat.reduceBEq, reduceCtorEq, *, w64_nat hjx hl, -f5, -f6, -hdr, -hkT, -e1]) ⟨q, j + 1, ys, rfl, by omega, by omega, by omega, f4, by clear hM; rw [f5, if_pos (by grind [ext_Key]), e3], by rw [e3, hdr], ?_⟩; simp only [go_sem, ↓reduceIte, reduceIte, Nat.reduceEqDiff, String.reduceEq, Nat.reduceLT, Nat.reduceLeDiff, Nat.reduceAdd, Nat.reduceMul, Nat.reduceSub, Nat.reduceBEq, reduceCtorEq, *, w64_nat hjx hl, -f5, -f6, -hdr, -hkT, -e1]; done)
            · have hkj : k + j = xs.length := by omega
              have f7 : kcompact xs = ys.take q := by rw [f5, kcT_last (by omega), List.append_nil]
              have hq1 : q ≤ xs.length := by omega
              have hq2 : q + (xs.length - q) = xs.length := by omega
              clear f5 f6
              (repeat' (first
 | with_reducible assumption
 | (with_reducible refine NxK.out hK _ ?_; clear hK K)
 | with_reducible refine NxK.out (by assumption) _ ?_
 | with_reducible refine Nx.out (by assumption) ?_
 | with_reducible refine SpecC.seqW fun K hK => ?_
 | with_reducible refine SpecC.regW T fun K hK => ?_
 | with_reducible refine SpecC.drawW (id := 6) T mixed [([16], [17, 20, 21, 22, 23, 24]), ([17], [16, 20, 21, 22, 23, 24]), ([18], [20, 21, 22, 23, 24]), ([19], [20, 21, 22, 23, 24]), ([20], [16, 17, 18, 19, 21, 22]), ([21], [16, 17, 18, 19, 20, 24]), ([22], [16, 17, 18, 19, 20]), ([23], [16, 17, 18, 19]), ([24], [16, 17, 18, 19, 21])] (by kernel_rfl) fun K hK => ?_
 | with_reducible refine SpecC.drawW (id := 11) T mixed [([35], [36, 39, 40, 41, 42, 43]), ([36], [35, 39, 40, 41, 42, 43]), ([37], [39, 40, 41, 42, 43]), ([38], [39, 40, 41, 42, 43]), ([39], [35, 36, 37, 38, 40, 41]), ([40], [35, 36, 37, 38, 39, 43]), ([41], [35, 36, 37, 38, 39]), ([42], [35, 36, 37, 38]), ([43], [35, 36, 37, 38, 40])] (by kernel_rfl) fun K hK => ?_
 | with_reducible refine SpecC.condW fun A B hA hB => ?_
 | with_reducible refine SpecC.block ?_
 | with_reducible refine SpecC.skip ?_
 | with_reducible refine SpecC.label ?_
 | with_reducible refine SpecC.exit ?_
 | with_reducible refine SpecC.goto ?_
 | with_reducible refine SpecC.ret ?_
 | ((with_reducible first | refine condK.split (fun hb => ?_) (fun hb => ?_) | refine gK.split_t (fun hb => ?_) (fun hb => ?_) | refine gK.split_f (fun hb => ?_) (fun hb => ?_)) <;> try simp only [decide_not, ilt_t, ilt_f, ile_t, ile_f, nlt_t, nlt_f, nle_t, nle_f, Bool.not_eq_true', Bool.not_eq_false', Int.ofNat_lt, Int.ofNat_le] at hb)
 | simp only [go_sem, ↓reduceIte, reduceIte, Nat.reduceEqDiff, String.reduceEq, Nat.reduceLT, Nat.reduceLeDiff, Nat.reduceAdd, Nat.reduceMul, Nat.reduceSub, Nat.reduceBEq, reduceCtorEq, *]
 | with_reducible refine fun (bn : Bool) hbn => ?_))
        · all_goals ((repeat clear hK); (repeat clear hA); (repeat clear hB))
          (refine hM.on (xs.length - (k + 1)) (by omega) (by simp only [go_sem, ↓reduceIte, reduceIte, Nat.reduceEqDiff, String.reduceEq, Nat.reduceLT, Nat.reduceLeDiff, Nat.reduceAdd, Nat.reduceMul, Nat.reduceSub, Nat.reduceBEq, reduceCtorEq, *, w64_nat hlt hl, -f3]) ⟨k + 1, rfl, by omega, by omega, by clear hM; rw [f3, if_neg (by grind), List.take_succ_eq_append_getElem hlt, List.append_assoc]; rfl, ?_⟩; simp only [go_sem, ↓reduceIte, reduceIte, Nat.reduceEqDiff, String.reduceEq, Nat.reduceLT, Nat.reduceLeDiff, Nat.reduceAdd, Nat.reduceMul, Nat.reduceSub, Nat.reduceBEq, reduceCtorEq, *, w64_nat hlt hl, -f3]; done)
      · have hc : kcompact xs = xs := by rw [f3, List.take_of_length_le (by omega), kcT_last (by omega)]; simp
        (repeat' (first
 | with_reducible assumption
 | (with_reducible refine NxK.out hK _ ?_; clear hK K)
 | with_reducible refine NxK.out (by assumption) _ ?_
 | with_reducible refine Nx.out (by assumption) ?_
 | with_reducible refine SpecC.seqW fun K hK => ?_
 | with_reducible refine SpecC.regW T fun K hK => ?_
 | with_reducible refine SpecC.drawW (id := 6) T mixed [([16], [17, 20, 21, 22, 23, 24]), ([17], [16, 20, 21, 22, 23, 24]), ([18], [20, 21, 22, 23, 24]), ([19], [20, 21, 22, 23, 24]), ([20], [16, 17, 18, 19, 21, 22]), ([21], [16, 17, 18, 19, 20, 24]), ([22], [16, 17, 18, 19, 20]), ([23], [16, 17, 18, 19]), ([24], [16, 17, 18, 19, 21])] (by kernel_rfl) fun K hK => ?_
 | with_reducible refine SpecC.drawW (id := 11) T mixed [([35], [36, 39, 40, 41, 42, 43]), ([36], [35, 39, 40, 41, 42, 43]), ([37], [39, 40, 41, 42, 43]), ([38], [39, 40, 41, 42, 43]), ([39], [35, 36, 37, 38, 40, 41]), ([40], [35, 36, 37, 38, 39, 43]), ([41], [35, 36, 37, 38, 39]), ([42], [35, 36, 37, 38]), ([43], [35, 36, 37, 38, 40])] (by kernel_rfl) fun K hK => ?_
 | with_reducible refine SpecC.condW fun A B hA hB => ?_
 | with_reducible refine SpecC.block ?_
 | with_reducible refine SpecC.skip ?_
 | with_reducible refine SpecC.label ?_
 | with_reducible refine SpecC.exit ?_
 | with_reducible refine SpecC.goto ?_
 | with_reducible refine SpecC.ret ?_
 | ((with_reducible first | refine condK.split (fun hb => ?_) (fun hb => ?_) | refine gK.split_t (fun hb => ?_) (fun hb => ?_) | refine gK.split_f (fun hb => ?_) (fun hb => ?_)) <;> try simp only [decide_not, ilt_t, ilt_f, ile_t, ile_f, nlt_t, nlt_f, nle_t, nle_f, Bool.not_eq_true', Bool.not_eq_false', Int.ofNat_lt, Int.ofNat_le] at hb)
 | simp only [go_sem, ↓reduceIte, reduceIte, Nat.reduceEqDiff, String.reduceEq, Nat.reduceLT, Nat.reduceLeDiff, Nat.reduceAdd, Nat.reduceMul, Nat.reduceSub, Nat.reduceBEq, reduceCtorEq, *, hc, -f3]
 | with_reducible refine fun (bn : Bool) hbn => ?_))
end Go.Proofs.YtbmdbkgjgjggiaaGreatDoor.Lg

namespace Go.Proofs.YtbmdbkgjgjggiaaGreatDoor.Lg
set_option maxRecDepth 100000
set_option linter.unusedVariables false
set_option linter.unusedSimpArgs false
open Go
set_option maxRecDepth 30000 in
theorem eqI_c (xs ys : List Int) (hl : Small xs.length) : CallR Tryz.prog 61 [.slice false (avs xs), .slice false (avs ys)] (.val (.bool (decide (xs = ys)))) := by
  refine CallR.go2 (T := T) Tryz.call61 Tryz.func61 rfl Tryz.ntmps61 (congrArg Array.toList Tryz.results61) (by decide) fun ts hn h0 h1 => ?_
  by_cases hll : xs.length = ys.length
  · (repeat' (first
 | with_reducible assumption
 | (with_reducible refine NxK.out hK _ ?_; clear hK K)
 | with_reducible refine NxK.out (by assumption) _ ?_
 | with_reducible refine Nx.out (by assumption) ?_
 | with_reducible refine SpecC.seqW fun K hK => ?_
 | with_reducible refine SpecC.regW T fun K hK => ?_
 | with_reducible refine SpecC.drawW (id := 6) T mixed [([16], [17, 20, 21, 22, 23]), ([17], [16, 20, 21, 22, 23]), ([18], [20, 21, 22, 23]), ([19], [20, 21, 22, 23]), ([20], [16, 17, 18, 19, 21]), ([21], [16, 17, 18, 19, 20]), ([22], [16, 17, 18, 19]), ([23], [16, 17, 18, 19])] (by kernel_rfl) fun K hK => ?_
 | with_reducible refine SpecC.condW fun A B hA hB => ?_
 | with_reducible refine SpecC.block ?_
 | with_reducible refine SpecC.skip ?_
 | with_reducible refine SpecC.label ?_
 | with_reducible refine SpecC.exit ?_
 | with_reducible refine SpecC.goto ?_
 | with_reducible refine SpecC.ret ?_
 | ((with_reducible first | refine condK.split (fun hb => ?_) (fun hb => ?_) | refine gK.split_t (fun hb => ?_) (fun hb => ?_) | refine gK.split_f (fun hb => ?_) (fun hb => ?_)) <;> try simp only [decide_not, ilt_t, ilt_f, ile_t, ile_f, nlt_t, nlt_f, nle_t, nle_f, Bool.not_eq_true', Bool.not_eq_false', Int.ofNat_lt, Int.ofNat_le] at hb)
 | simp only [go_sem, ↓reduceIte, reduceIte, Nat.reduceEqDiff, String.reduceEq, Nat.reduceLT, Nat.reduceLeDiff, Nat.reduceAdd, Nat.reduceMul, Nat.reduceSub, Nat.reduceBEq, reduceCtorEq, *]
 | with_reducible refine fun (bn : Bool) hbn => ?_))
    refine SpecC.loopF [0, 1, 12] (fun m ts' => ∃ (i : Nat), m = xs.length - i ∧ i ≤ xs.length ∧ xs.take i = ys.take i ∧ ts'.tmp 13 = .int .i64 i) xs.length ?_ ?_
    · refine ⟨0, ?_⟩
      simp only [go_sem, ↓reduceIte, reduceIte, Nat.reduceEqDiff, String.reduceEq, Nat.reduceLT, Nat.reduceLeDiff, Nat.reduceAdd, Nat.reduceMul, Nat.reduceSub, Nat.reduceBEq, reduceCtorEq, *]
    · rintro m A hM ts' hk ⟨i, hm, f1, f2, s1⟩
      simp only [go_sem, ↓reduceIte, reduceIte, Nat.reduceEqDiff, String.reduceEq, Nat.reduceLT, Nat.reduceLeDiff, Nat.reduceAdd, Nat.reduceMul, Nat.reduceSub, Nat.reduceBEq, reduceCtorEq, *] at hk
      by_cases hlt : i < xs.length
      · have hlu : i < ys.length := by omega
        have hne := take_ne hlt hlu
        (repeat' (first
 | with_reducible assumption
 | (with_reducible refine NxK.out hK _ ?_; clear hK K)
 | with_reducible refine NxK.out (by assumption) _ ?_
 | with_reducible refine Nx.out (by assumption) ?_
 | with_reducible refine SpecC.seqW fun K hK => ?_
 | with_reducible refine SpecC.regW T fun K hK => ?_
 | with_reducible refine SpecC.drawW (id := 6) T mixed [([16], [17, 20, 21, 22, 23]), ([17], [16, 20, 21, 22, 23]), ([18], [20, 21, 22, 23]), ([19], [20, 21, 22, 23]), ([20], [16, 17, 18, 19, 21]), ([21], [16, 17, 18, 19, 20]), ([22], [16, 17, 18, 19]), ([23], [16, 17, 18, 19])] (by kernel_rfl) fun K hK => ?_
 | with_reducible refine SpecC.condW fun A B hA hB => ?_
 | with_reducible refine SpecC.block ?_
 | with_reducible refine SpecC.skip ?_
 | with_reducible refine SpecC.label ?_
 | with_reducible refine SpecC.exit ?_
 | with_reducible refine SpecC.goto ?_
 | with_reducible refine SpecC.ret ?_
 | ((with_reducible first | refine condK.split (fun hb => ?_) (fun hb => ?_) | refine gK.split_t (fun hb => ?_) (fun hb => ?_) | refine gK.split_f (fun hb => ?_) (fun hb => ?_)) <;> try simp only [decide_not, ilt_t, ilt_f, ile_t, ile_f, nlt_t, nlt_f, nle_t, nle_f, Bool.not_eq_true', Bool.not_eq_false', Int.ofNat_lt, Int.ofNat_le] at hb)
 | simp only [go_sem, ↓reduceIte, reduceIte, Nat.reduceEqDiff, String.reduceEq, Nat.reduceLT, Nat.reduceLeDiff, Nat.reduceAdd, Nat.reduceMul, Nat.reduceSub, Nat.reduceBEq, reduceCtorEq, *]
 | with_reducible refine fun (bn : Bool) hbn => ?_))
        all_goals ((repeat clear hK); (repeat clear hA); (repeat clear hB))
        all_goals first
          | (refine hM.on (xs.length - (i + 1)) (by omega) (by simp only [go_sem, ↓reduceIte, reduceIte, Nat.reduceEqDiff, String.reduceEq, Nat.reduceLT, Nat.reduceLeDiff, Nat.reduceAdd, Nat.reduceMul, Nat.reduceSub, Nat.reduceBEq, reduceCtorEq, *, w64_nat hlt hl]) ⟨i + 1, rfl, by omega, by clear hM; apply take_get f2 hlt hlu; grind, ?_⟩; simp only [go_sem, ↓reduceIte, reduceIte, Nat.reduceEqDiff, String.reduceEq, Nat.reduceLT, Nat.reduceLeDiff, Nat.reduceAdd, Nat.reduceMul, Nat.reduceSub, Nat.reduceBEq, reduceCtorEq, *, w64_nat hlt hl]; done)
          | (clear hM; grind)
      · have := take_all f2 hlt hll
        (repeat' (first
 | with_reducible assumption
 | (with_reducible refine NxK.out hK _ ?_; clear hK K)
 | with_reducible refine NxK.out (by assumption) _ ?_
 | with_reducible refine Nx.out (by assumption) ?_
 | with_reducible refine SpecC.seqW fun K hK => ?_
 | with_reducible refine SpecC.regW T fun K hK => ?_
 | with_reducible refine SpecC.drawW (id := 6) T mixed [([16], [17, 20, 21, 22, 23]), ([17], [16, 20, 21, 22, 23]), ([18], [20, 21, 22, 23]), ([19], [20, 21, 22, 23]), ([20], [16, 17, 18, 19, 21]), ([21], [16, 17, 18, 19, 20]), ([22], [16, 17, 18, 19]), ([23], [16, 17, 18, 19])] (by kernel_rfl) fun K hK => ?_
 | with_reducible refine SpecC.condW fun A B hA hB => ?_
 | with_reducible refine SpecC.block ?_
 | with_reducible refine SpecC.skip ?_
 | with_reducible refine SpecC.label ?_
 | with_reducible refine SpecC.exit ?_
 | with_reducible refine SpecC.goto ?_
 | with_reducible refine SpecC.ret ?_
 | ((with_reducible first | refine condK.split (fun hb => ?_) (fun hb => ?_) | refine gK.split_t (fun hb => ?_) (fun hb => ?_) | refine gK.split_f (fun hb => ?_) (fun hb => ?_)) <;> try simp only [decide_not, ilt_t, ilt_f, ile_t, ile_f, nlt_t, nlt_f, nle_t, nle_f, Bool.not_eq_true', Bool.not_eq_false', Int.ofNat_lt, Int.ofNat_le] at hb)
 | simp only [go_sem, ↓reduceIte, reduceIte, Nat.reduceEqDiff, String.reduceEq, Nat.reduceLT, Nat.reduceLeDiff, Nat.reduceAdd, Nat.reduceMul, Nat.reduceSub, Nat.reduceBEq, reduceCtorEq, *]
 | with_reducible refine fun (bn : Bool) hbn => ?_))
        all_goals ((repeat clear hK); (repeat clear hA); (repeat clear hB))
        all_goals (clear hM; grind)
  · have : ¬ xs = ys := by rintro rfl; exact hll rfl
    (repeat' (first
 | with_reducible assumption
 | (with_reducible refine NxK.out hK _ ?_; clear hK K)
 | with_reducible refine NxK.out (by assumption) _ ?_
 | with_reducible refine Nx.out (by assumption) ?_
 | with_reducible refine SpecC.seqW fun K hK => ?_
 | with_reducible refine SpecC.regW T fun K hK => ?_
 | with_reducible refine SpecC.drawW (id := 6) T mixed [([16], [17, 20, 21, 22, 23]), ([17], [16, 20, 21, 22, 23]), ([18], [20, 21, 22, 23]), ([19], [20, 21, 22, 23]), ([20], [16, 17, 18, 19, 21]), ([21], [16, 17, 18, 19, 20]), ([22], [16, 17, 18, 19]), ([23], [16, 17, 18, 19])] (by kernel_rfl) fun K hK => ?_
 | with_reducible refine SpecC.condW fun A B hA hB => ?_
 | with_reducible refine SpecC.block ?_
 | with_reducible refine SpecC.skip ?_
 | with_reducible refine SpecC.label ?_
 | with_reducible refine SpecC.exit ?_
 | with_reducible refine SpecC.goto ?_
 | with_reducible refine SpecC.ret ?_
 | ((with_reducible first | refine condK.split (fun hb => ?_) (fun hb => ?_) | refine gK.split_t (fun hb => ?_) (fun hb => ?_) | refine gK.split_f (fun hb => ?_) (fun hb => ?_)) <;> try simp only [decide_not, ilt_t, ilt_f, ile_t, ile_f, nlt_t, nlt_f, nle_t, nle_f, Bool.not_eq_true', Bool.not_eq_false', Int.ofNat_lt, Int.ofNat_le] at hb)
 | simp only [go_sem, ↓reduceIte, reduceIte, Nat.reduceEqDiff, String.reduceEq, Nat.reduceLT, Nat.reduceLeDiff, Nat.reduceAdd, Nat.reduceMul, Nat.reduceSub, Nat.reduceBEq, reduceCtorEq, *]
 | with_reducible refine fun (bn : Bool) hbn => ?_))
    all_goals ((repeat clear hK); (repeat clear hA); (repeat clear hB))
    all_goals grind
set_option maxRecDepth 30000 in
theorem eqW_c (xs ys : List Weight) (hl : Small xs.length) : CallR Tryz.prog 60 [.slice false (avs xs), .slice false (avs ys)] (.val (.bool (decide (xs = ys)))) := by
  refine CallR.go2 (T := T) Tryz.call60 Tryz.func60 rfl Tryz.ntmps60 (congrArg Array.toList Tryz.results60) (by decide) fun ts hn h0 h1 => ?_
  by_cases hll : xs.length = ys.length
  · (repeat' (first
 | with_reducible assumption
 | (with_reducible refine NxK.out hK _ ?_; clear hK K)
 | with_reducible refine NxK.out (by assumption) _ ?_
 | with_reducible refine Nx.out (by assumption) ?_
 | with_reducible refine SpecC.seqW fun K hK => ?_
 | with_reducible refine SpecC.regW T fun K hK => ?_
 | with_reducible refine SpecC.drawW (id := 6) T mixed [([16], [17, 20, 21, 22, 23]), ([17], [16, 20, 21, 22, 23]), ([18], [20, 21, 22, 23]), ([19], [20, 21, 22, 23]), ([20], [16, 17, 18, 19, 21]), ([21], [16, 17, 18, 19, 20]), ([22], [16, 17, 18, 19]), ([23], [16, 17, 18, 19])] (by kernel_rfl) fun K hK => ?_
 | with_reducible refine SpecC.condW fun A B hA hB => ?_
 | with_reducible refine SpecC.block ?_
 | with_reducible refine SpecC.skip ?_
 | with_reducible refine SpecC.label ?_
 | with_reducible refine SpecC.exit ?_
 | with_reducible refine SpecC.goto ?_
 | with_reducible refine SpecC.ret ?_
 | ((with_reducible first | refine condK.split (fun hb => ?_) (fun hb => ?_) | refine gK.split_t (fun hb => ?_) (fun hb => ?_) | refine gK.split_f (fun hb => ?_) (fun hb => ?_)) <;> try simp only [decide_not, ilt_t, ilt_f, ile_t, ile_f, nlt_t, nlt_f, nle_t, nle_f, Bool.not_eq_true', Bool.not_eq_false', Int.ofNat_lt, Int.ofNat_le] at hb)
 | simp only [go_sem, ↓reduceIte, reduceIte, Nat.reduceEqDiff, String.reduceEq, Nat.reduceLT, Nat.reduceLeDiff, Nat.reduceAdd, Nat.reduceMul, Nat.reduceSub, Nat.reduceBEq, reduceCtorEq, *]
 | with_reducible refine fun (bn : Bool) hbn => ?_))
    refine SpecC.loopF [0, 1, 12] (fun m ts' => ∃ (i : Nat), m = xs.length - i ∧ i ≤ xs.length ∧ xs.take i = ys.take i ∧ ts'.tmp 13 = .int .i64 i) xs.length ?_ ?_
    · refine ⟨0, ?_⟩
      simp only [go_sem, ↓reduceIte, reduceIte, Nat.reduceEqDiff, String.reduceEq, Nat.reduceLT, Nat.reduceLeDiff, Nat.reduceAdd, Nat.reduceMul, Nat.reduceSub, Nat.reduceBEq, reduceCtorEq, *]
    · rintro m A hM ts' hk ⟨i, hm, f1, f2, s1⟩
      simp only [go_sem, ↓reduceIte, reduceIte, Nat.reduceEqDiff, String.reduceEq, Nat.reduceLT, Nat.reduceLeDiff, Nat.reduceAdd, Nat.reduceMul, Nat.reduceSub, Nat.reduceBEq, reduceCtorEq, *] at hk
      by_cases hlt : i < xs.length
      · have hlu : i < ys.length := by omega
        have hne := take_ne hlt hlu
        rw [ext_Weight] at hne
        (repeat' (first
 | with_reducible assumption
 | (with_reducible refine NxK.out hK _ ?_; clear hK K)
 | with_reducible refine NxK.out (by assumption) _ ?_
 | with_reducible refine Nx.out (by assumption) ?_
 | with_reducible refine SpecC.seqW fun K hK => ?_
 | with_reducible refine SpecC.regW T fun K hK => ?_
 | with_reducible refine SpecC.drawW (id := 6) T mixed [([16], [17, 20, 21, 22, 23]), ([17], [16, 20, 21, 22, 23]), ([18], [20, 21, 22, 23]), ([19], [20, 21, 22, 23]), ([20], [16, 17, 18, 19, 21]), ([21], [16, 17, 18, 19, 20]), ([22], [16, 17, 18, 19]), ([23], [16, 17, 18, 19])] (by kernel_rfl) fun K hK => ?_
 | with_reducible refine SpecC.condW fun A B hA hB => ?_
 | with_reducible refine SpecC.block ?_
 | with_reducible refine SpecC.skip ?_
 | with_reducible refine SpecC.label ?_
 | with_reducible refine SpecC.exit ?_
 | with_reducible refine SpecC.goto ?_
 | with_reducible refine SpecC.ret ?_
 | ((with_reducible first | refine condK.split (fun hb => ?_) (fun hb => ?_) | refine gK.split_t (fun hb => ?_) (fun hb => ?_) | refine gK.split_f (fun hb => ?_) (fun hb => ?_)) <;> try simp only [decide_not, ilt_t, ilt_f, ile_t, ile_f, nlt_t, nlt_f, nle_t, nle_f, Bool.not_eq_true', Bool.not_eq_false', Int.ofNat_lt, Int.ofNat_le] at hb)
 | simp only [go_sem, ↓reduceIte, reduceIte, Nat.reduceEqDiff, String.reduceEq, Nat.reduceLT, Nat.reduceLeDiff, Nat.reduceAdd, Nat.reduceMul, Nat.reduceSub, Nat.reduceBEq, reduceCtorEq, *]
 | with_reducible refine fun (bn : Bool) hbn => ?_))
        all_goals ((repeat clear hK); (repeat clear hA); (repeat clear hB))
        all_goals first
          | (refine hM.on (xs.length - (i + 1)) (by omega) (by simp only [go_sem, ↓reduceIte, reduceIte, Nat.reduceEqDiff, String.reduceEq, Nat.reduceLT, Nat.reduceLeDiff, Nat.reduceAdd, Nat.reduceMul, Nat.reduceSub, Nat.reduceBEq, reduceCtorEq, *, w64_nat hlt hl]) ⟨i + 1, rfl, by omega, by clear hM; apply take_get f2 hlt hlu; rw [ext_Weight]; grind, ?_⟩; simp only [go_sem, ↓reduceIte, reduceIte, Nat.reduceEqDiff, String.reduceEq, Nat.reduceLT, Nat.reduceLeDiff, Nat.reduceAdd, Nat.reduceMul, Nat.reduceSub, Nat.reduceBEq, reduceCtorEq, *, w64_nat hlt hl]; done)
          | (clear hM; grind)
      · have := take_all f2 hlt hll
        (repeat' (first
 | with_reducible assumption
 | (with_reducible refine NxK.out hK _ ?_; clear hK K)
 | with_reducible refine NxK.out (by assumption) _ ?_
 | with_reducible refine Nx.out (by assumption) ?_
 | with_reducible refine SpecC.seqW fun K hK => ?_
 | with_reducible refine SpecC.regW T fun K hK => ?_
 | with_reducible refine SpecC.drawW (id := 6) T mixed [([16], [17, 20, 21, 22, 23]), ([17], [16, 20, 21, 22, 23]), ([18], [20, 21, 22, 23]), ([19], [20, 21, 22, 23]), ([20], [16, 17, 18, 19, 21]), ([21], [16, 17, 18, 19, 20]), ([22], [16, 17, 18, 19]), ([23], [16, 17, 18, 19])] (by kernel_rfl) fun K hK => ?_
 | with_reducible refine SpecC.condW fun A B hA hB => ?_
 | with_reducible refine SpecC.block ?_
 | with_reducible refine SpecC.skip ?_
 | with_reducible refine SpecC.label ?_
 | with_reducible refine SpecC.exit ?_
 | with_reducible refine SpecC.goto ?_
 | with_reducible refine SpecC.ret ?_
 | ((with_reducible first | refine condK.split (fun hb => ?_) (fun hb => ?_) | refine gK.split_t (fun hb => ?_) (fun hb => ?_) | refine gK.split_f (fun hb => ?_) (fun hb => ?_)) <;> try simp only [decide_not, ilt_t, ilt_f, ile_t, ile_f, nlt_t, nlt_f, nle_t, nle_f, Bool.not_eq_true', Bool.not_eq_false', Int.ofNat_lt, Int.ofNat_le] at hb)
 | simp only [go_sem, ↓reduceIte, reduceIte, Nat.reduceEqDiff, String.reduceEq, Nat.reduceLT, Nat.reduceLeDiff, Nat.reduceAdd, Nat.reduceMul, Nat.reduceSub, Nat.reduceBEq, reduceCtorEq, *]
 | with_reducible refine fun (bn : Bool) hbn => ?_))
        all_goals ((repeat clear hK); (repeat clear hA); (repeat clear hB))
        all_goals (clear hM; grind)
  · have : ¬ xs = ys := by rintro rfl; exact hll rfl
    (repeat' (first
 | with_reducible assumption
 | (with_reducible refine NxK.out hK _ ?_; clear hK K)
 | with_reducible refine NxK.out (by assumption) _ ?_
 | with_reducible refine Nx.out (by assumption) ?_
 | with_reducible refine SpecC.seqW fun K hK => ?_
 | with_reducible refine SpecC.regW T fun K hK => ?_
 | with_reducible refine SpecC.drawW (id := 6) T mixed [([16], [17, 20, 21, 22, 23]), ([17], [16, 20, 21, 22, 23]), ([18], [20, 21, 22, 23]), ([19], [20, 21, 22, 23]), ([20], [16, 17, 18, 19, 21]), ([21], [16, 17, 18, 19, 20]), ([22], [16, 17, 18, 19]), ([23], [16, 17, 18, 19])] (by kernel_rfl) fun K hK => ?_
 | with_reducible refine SpecC.condW fun A B hA hB => ?_
 | with_reducible refine SpecC.block ?_
 | with_reducible refine SpecC.skip ?_
 | with_reducible refine SpecC.label ?_
 | with_reducible refine SpecC.exit ?_
 | with_reducible refine SpecC.goto ?_
 | with_reducible refine SpecC.ret ?_
 | ((with_reducible first | refine condK.split (fun hb => ?_) (fun hb => ?_) | refine gK.split_t (fun hb => ?_) (fun hb => ?_) | refine gK.split_f (fun hb => ?_) (fun hb => ?_)) <;> try simp only [decide_not, ilt_t, ilt_f, ile_t, ile_f, nlt_t, nlt_f, nle_t, nle_f, Bool.not_eq_true', Bool.not_eq_false', Int.ofNat_lt, Int.ofNat_le] at hb)
 | simp only [go_sem, ↓reduceIte, reduceIte, Nat.reduceEqDiff, String.reduceEq, Nat.reduceLT, Nat.reduceLeDiff, Nat.reduceAdd, Nat.reduceMul, Nat.reduceSub, Nat.reduceBEq, reduceCtorEq, *]
 | with_reducible refine fun (bn : Bool) hbn => ?_))
    all_goals ((repeat clear hK); (repeat clear hA); (repeat clear hB))
    all_goals grind
set_option maxRecDepth 30000 in
theorem alike1_c (x_host : List UInt8) (x_pfx : List UInt8) (x_split : List Weight) (y_host : List UInt8) (y_pfx : List UInt8) (y_split : List Weight) (hl : Small x_split.length) : CallR Tryz.prog 59 [.agg [.str x_host, .str x_pfx, .slice false (avs x_split)], .agg [.str y_host, .str y_pfx, .slice false (avs y_split)]] (.val (.bool (decide ((⟨x_host, x_pfx, x_split⟩ : Rule) = (⟨y_host, y_pfx, y_split⟩ : Rule))))) := by
  refine CallR.go2 (T := T) Tryz.call59 Tryz.func59 rfl Tryz.ntmps59 (congrArg Array.toList Tryz.results59) (by decide) fun ts hn h0 h1 => ?_
  (repeat' (first
 | with_reducible refine callX.by (eqW_c _ _ ?_) ?_
 | with_reducible assumption
 | (with_reducible refine NxK.out hK _ ?_; clear hK K)
 | with_reducible refine NxK.out (by assumption) _ ?_
 | with_reducible refine Nx.out (by assumption) ?_
 | with_reducible refine SpecC.seqW fun K hK => ?_
 | with_reducible refine SpecC.regW T fun K hK => ?_
 | with_reducible refine SpecC.condW fun A B hA hB => ?_
 | with_reducible refine SpecC.block ?_
 | with_reducible refine SpecC.skip ?_
 | with_reducible refine SpecC.label ?_
 | with_reducible refine SpecC.exit ?_
 | with_reducible refine SpecC.goto ?_
 | with_reducible refine SpecC.ret ?_
 | ((with_reducible first | refine condK.split (fun hb => ?_) (fun hb => ?_) | refine gK.split_t (fun hb => ?_) (fun hb => ?_) | refine gK.split_f (fun hb => ?_) (fun hb => ?_)) <;> try simp only [decide_not, ilt_t, ilt_f, ile_t, ile_f, nlt_t, nlt_f, nle_t, nle_f, Bool.not_eq_true', Bool.not_eq_false', Int.ofNat_lt, Int.ofNat_le] at hb)
 | simp only [go_sem, ↓reduceIte, reduceIte, Nat.reduceEqDiff, String.reduceEq, Nat.reduceLT, Nat.reduceLeDiff, Nat.reduceAdd, Nat.reduceMul, Nat.reduceSub, Nat.reduceBEq, reduceCtorEq, *]
 | with_reducible refine fun (bn : Bool) hbn => ?_))
  all_goals ((repeat clear hK); (repeat clear hA); (repeat clear hB))
  all_goals simp_all
set_option maxRecDepth 30000 in
theorem eqFR_c (fn : FuncId) (caps : List AV) (hc : Caps caps) (xs ys : List Rule) (hp : ∀ x ∈ xs, ∀ y, CallR Tryz.prog fn (.agg [.str x.host, .str x.pfx, .slice false (avs x.split)] :: .agg [.str y.host, .str y.pfx, .slice false (avs y.split)] :: caps) (.val (.bool (decide (x = y))))) (hl : Small xs.length) : CallR Tryz.prog 62 [.slice false (avs xs), .slice false (avs ys), .clo (.func fn) [] caps] (.val (.bool (decide (xs = ys)))) := by
  have hca := hc.args
  have hcp := hc.pure
  have hcn := hc.nrm
  refine CallR.go3 (T := T) Tryz.call62 Tryz.func62 rfl Tryz.ntmps62 (congrArg Array.toList Tryz.results62) (by decide) fun ts hn h0 h1 h2 => ?_
  by_cases hll : xs.length = ys.length
  · (repeat' (first
 | with_reducible assumption
 | (with_reducible refine NxK.out hK _ ?_; clear hK K)
 | with_reducible refine NxK.out (by assumption) _ ?_
 | with_reducible refine Nx.out (by assumption) ?_
 | with_reducible refine SpecC.seqW fun K hK => ?_
 | with_reducible refine SpecC.regW T fun K hK => ?_
 | with_reducible refine SpecC.condW fun A B hA hB => ?_
 | with_reducible refine SpecC.block ?_
 | with_reducible refine SpecC.skip ?_
 | with_reducible refine SpecC.label ?_
 | with_reducible refine SpecC.exit ?_
 | with_reducible refine SpecC.goto ?_
 | with_reducible refine SpecC.ret ?_
 | ((with_reducible first | refine condK.split (fun hb => ?_) (fun hb => ?_) | refine gK.split_t (fun hb => ?_) (fun hb => ?_) | refine gK.split_f (fun hb => ?_) (fun hb => ?_)) <;> try simp only [decide_not, ilt_t, ilt_f, ile_t, ile_f, nlt_t, nlt_f, nle_t, nle_f, Bool.not_eq_true', Bool.not_eq_false', Int.ofNat_lt, Int.ofNat_le] at hb)
 | simp only [go_sem, ↓reduceIte, reduceIte, Nat.reduceEqDiff, String.reduceEq, Nat.reduceLT, Nat.reduceLeDiff, Nat.reduceAdd, Nat.reduceMul, Nat.reduceSub, Nat.reduceBEq, reduceCtorEq, *, -hp]
 | with_reducible refine fun (bn : Bool) hbn => ?_))
    refine SpecC.loopF [1, 2, 15, 16] (fun m ts' => ∃ (i : Nat), m = xs.length - i ∧ i ≤ xs.length ∧ xs.take i = ys.take i ∧ ts'.tmp 17 = .int .i64 i) xs.length ?_ ?_
    · refine ⟨0, ?_⟩
      simp only [go_sem, ↓reduceIte, reduceIte, Nat.reduceEqDiff, String.reduceEq, Nat.reduceLT, Nat.reduceLeDiff, Nat.reduceAdd, Nat.reduceMul, Nat.reduceSub, Nat.reduceBEq, reduceCtorEq, *, -hp]
    · rintro m A hM ts' hk ⟨i, hm, f1, f2, s1⟩
      simp only [go_sem, ↓reduceIte, reduceIte, Nat.reduceEqDiff, String.reduceEq, Nat.reduceLT, Nat.reduceLeDiff, Nat.reduceAdd, Nat.reduceMul, Nat.reduceSub, Nat.reduceBEq, reduceCtorEq, *] at hk
      by_cases hlt : i < xs.length
      · have hlu : i < ys.length := by omega
        have hne := take_ne hlt hlu
        have hpi := hp _ (List.getElem_mem hlt) ys[i]
        (repeat' (first
 | with_reducible refine callX.by (hpi) ?_
 | with_reducible assumption
 | (with_reducible refine NxK.out hK _ ?_; clear hK K)
 | with_reducible refine NxK.out (by assumption) _ ?_
 | with_reducible refine Nx.out (by assumption) ?_
 | with_reducible refine SpecC.seqW fun K hK => ?_
 | with_reducible refine SpecC.regW T fun K hK => ?_
 | with_reducible refine SpecC.condW fun A B hA hB => ?_
 | with_reducible refine SpecC.block ?_
 | with_reducible refine SpecC.skip ?_
 | with_reducible refine SpecC.label ?_
 | with_reducible refine SpecC.exit ?_
 | with_reducible refine SpecC.goto ?_
 | with_reducible refine SpecC.ret ?_
 | ((with_reducible first | refine condK.split (fun hb => ?_) (fun hb => ?_) | refine gK.split_t (fun hb => ?_) (fun hb => ?_) | refine gK.split_f (fun hb => ?_) (fun hb => ?_)) <;> try simp only [decide_not, ilt_t, ilt_f, ile_t, ile_f, nlt_t, nlt_f, nle_t, nle_f, Bool.not_eq_true', Bool.not_eq_false', Int.ofNat_lt, Int.ofNat_le] at hb)
 | simp only [go_sem, ↓reduceIte, reduceIte, Nat.reduceEqDiff, String.reduceEq, Nat.reduceLT, Nat.reduceLeDiff, Nat.reduceAdd, Nat.reduceMul, Nat.reduceSub, Nat.reduceBEq, reduceCtorEq, *, -hp, -hpi]
 | with_reducible refine fun (bn : Bool) hbn => ?_))
        all_goals ((repeat clear hK); (repeat clear hA); (repeat clear hB))
        all_goals first
          | (refine hM.on (xs.length - (i + 1)) (by omega) (by simp only [go_sem, ↓reduceIte, reduceIte, Nat.reduceEqDiff, String.reduceEq, Nat.reduceLT, Nat.reduceLeDiff, Nat.reduceAdd, Nat.reduceMul, Nat.reduceSub, Nat.reduceBEq, reduceCtorEq, *, w64_nat hlt hl, -hp, -hpi]) ⟨i + 1, rfl, by omega, take_get f2 hlt hlu (of_decide_eq_true hb), ?_⟩; simp only [go_sem, ↓reduceIte, reduceIte, Nat.reduceEqDiff, String.reduceEq, Nat.reduceLT, Nat.reduceLeDiff, Nat.reduceAdd, Nat.reduceMul, Nat.reduceSub, Nat.reduceBEq, reduceCtorEq, *, w64_nat hlt hl, -hp, -hpi]; done)
          | (clear hM hp hpi; grind)
      · have := take_all f2 hlt hll
        (repeat' (first
 | with_reducible assumption
 | (with_reducible refine NxK.out hK _ ?_; clear hK K)
 | with_reducible refine NxK.out (by assumption) _ ?_
 | with_reducible refine Nx.out (by assumption) ?_
 | with_reducible refine SpecC.seqW fun K hK => ?_
 | with_reducible refine SpecC.regW T fun K hK => ?_
 | with_reducible refine SpecC.condW fun A B hA hB => ?_
 | with_reducible refine SpecC.block ?_
 | with_reducible refine SpecC.skip ?_
 | with_reducible refine SpecC.label ?_
 | with_reducible refine SpecC.exit ?_
 | with_reducible refine SpecC.goto ?_
 | with_reducible refine SpecC.ret ?_
 | ((with_reducible first | refine condK.split (fun hb => ?_) (fun hb => ?_) | refine gK.split_t (fun hb => ?_) (fun hb => ?_) | refine gK.split_f (fun hb => ?_) (fun hb => ?_)) <;> try simp only [decide_not, ilt_t, ilt_f, ile_t, ile_f, nlt_t, nlt_f, nle_t, nle_f, Bool.not_eq_true', Bool.not_eq_false', Int.ofNat_lt, Int.ofNat_le] at hb)
 | simp only [go_sem, ↓reduceIte, reduceIte, Nat.reduceEqDiff, String.reduceEq, Nat.reduceLT, Nat.reduceLeDiff, Nat.reduceAdd, Nat.reduceMul, Nat.reduceSub, Nat.reduceBEq, reduceCtorEq, *, -hp]
 | with_reducible refine fun (bn : Bool) hbn => ?_))
        all_goals ((repeat clear hK); (repeat clear hA); (repeat clear hB))
        all_goals (clear hM hp; grind)
  · have : ¬ xs = ys := by rintro rfl; exact hll rfl
    (repeat' (first
 | with_reducible assumption
 | (with_reducible refine NxK.out hK _ ?_; clear hK K)
 | with_reducible refine NxK.out (by assumption) _ ?_
 | with_reducible refine Nx.out (by assumption) ?_
 | with_reducible refine SpecC.seqW fun K hK => ?_
 | with_reducible refine SpecC.regW T fun K hK => ?_
 | with_reducible refine SpecC.condW fun A B hA hB => ?_
 | with_reducible refine SpecC.block ?_
 | with_reducible refine SpecC.skip ?_
 | with_reducible refine SpecC.label ?_
 | with_reducible refine SpecC.exit ?_
 | with_reducible refine SpecC.goto ?_
 | with_reducible refine SpecC.ret ?_
 | ((with_reducible first | refine condK.split (fun hb => ?_) (fun hb => ?_) | refine gK.split_t (fun hb => ?_) (fun hb => ?_) | refine gK.split_f (fun hb => ?_) (fun hb => ?_)) <;> try simp only [decide_not, ilt_t, ilt_f, ile_t, ile_f, nlt_t, nlt_f, nle_t, nle_f, Bool.not_eq_true', Bool.not_eq_false', Int.ofNat_lt, Int.ofNat_le] at hb)
 | simp only [go_sem, ↓reduceIte, reduceIte, Nat.reduceEqDiff, String.reduceEq, Nat.reduceLT, Nat.reduceLeDiff, Nat.reduceAdd, Nat.reduceMul, Nat.reduceSub, Nat.reduceBEq, reduceCtorEq, *, -hp]
 | with_reducible refine fun (bn : Bool) hbn => ?_))
    all_goals ((repeat clear hK); (repeat clear hA); (repeat clear hB))
    all_goals (clear hp; grind)
def alikeP (a b : Res) : Bool := decide (a.kind = b.kind ∧ a.name = b.name ∧ a.port = b.port ∧ a.to' = b.to' ∧ a.rules' = b.rules' ∧ a.hosts = b.hosts)
set_option maxRecDepth 30000 in
set_option maxHeartbeats 4000000 in
theorem alikeP_c (a_kind : Int) (a_name : List UInt8) (a_ver : Int) (a_port : Int) (a_to : List UInt8) (a_rules : List Rule) (a_hosts : List Int) (b_kind : Int) (b_name : List UInt8) (b_ver : Int) (b_port : Int) (b_to : List UInt8) (b_rules : List Rule) (b_hosts : List Int) (hh : Small a_hosts.length) (hl : Small a_rules.length) (hs : ∀ x ∈ a_rules, SmRule x) : CallR Tryz.prog 21 [.agg [.int .i64 a_kind, .str a_name, .int .i64 a_ver, .int .i64 a_port, .str a_to, .slice false (avs a_rules), .slice false (avs a_hosts)], .agg [.int .i64 b_kind, .str b_name, .int .i64 b_ver, .int .i64 b_port, .str b_to, .slice false (avs b_rules), .slice false (avs b_hosts)]] (.val (.bool (alikeP (⟨a_kind, a_name, a_ver, a_port, a_to, a_rules, a_hosts⟩ : Res) (⟨b_kind, b_name, b_ver, b_port, b_to, b_rules, b_hosts⟩ : Res)))) := by
  have h := eqFR_c 59 [] Caps.nil a_rules b_rules (fun x hx y => alike1_c x.host x.pfx x.split y.host y.pfx y.split (hs x hx).2.2.1) hl
  refine CallR.go2 (T := T) Tryz.call21 Tryz.func21 rfl Tryz.ntmps21 (congrArg Array.toList Tryz.results21) (by decide) fun ts hn h0 h1 => ?_
  (repeat' (first
 | with_reducible refine callX.by (h) ?_
 | with_reducible refine callX.by (alike1_c _ _ _ _ _ _ ?_) ?_
 | with_reducible refine callX.by (rkey_c _ _ _ _ _ _ _) ?_
 | with_reducible refine callX.by (eqI_c _ _ ?_) ?_
 | with_reducible refine callX.by (eqFR_c _ _ ?_ _ _ ?_ ?_) ?_
 | with_reducible assumption
 | (with_reducible refine NxK.out hK _ ?_; clear hK K)
 | with_reducible refine NxK.out (by assumption) _ ?_
 | with_reducible refine Nx.out (by assumption) ?_
 | with_reducible refine SpecC.seqW fun K hK => ?_
 | with_reducible refine SpecC.regW T fun K hK => ?_
 | with_reducible refine SpecC.drawW (id := 2) T mixed [([6], [8, 11, 12, 13, 14, 15, 16, 17, 18, 19, 20, 21, 22, 23, 24, 25, 26, 27, 28, 29, 30, 31, 32, 33, 34, 35, 36, 37, 38, 39]), ([7], [8, 12, 13, 14, 15, 16, 17, 18, 19, 20, 21, 22, 23, 24, 25, 26, 27, 28, 29, 30, 31, 32, 33, 34, 35, 36, 37, 38, 39]), ([8], [6, 7, 12, 13, 14, 15, 16, 17, 18, 19, 20, 21, 22, 23, 24, 25, 26, 27, 28, 29, 30, 31, 32, 33, 34, 35, 36, 37, 38, 39]), ([9], [19, 20, 21, 22, 23, 24, 25, 26, 27, 28, 29, 30, 31, 32, 33, 34, 35, 36, 37, 38, 39]), ([10], [19, 20, 21, 22, 23, 24, 25, 26, 27, 28, 29, 30, 31, 32, 33, 34, 35, 36, 37, 38, 39]), ([11], [6, 26, 27, 28, 29, 30, 31, 32, 33, 34, 35, 36, 37, 38, 39]), ([12], [6, 7, 8, 14, 15, 17, 18, 19, 20, 21, 22, 23, 24, 25, 26, 27, 28, 29, 30, 31, 32, 33, 34, 35, 36, 37, 38, 39]), ([13], [6, 7, 8, 14, 15, 18, 19, 20, 21, 22, 23, 24, 25, 26, 27, 28, 29, 30, 31, 32, 33, 34, 35, 36, 37, 38, 39]), ([14], [6, 7, 8, 12, 13, 17, 18, 19, 20, 21, 22, 23, 24, 25, 26, 27, 28, 29, 30, 31, 32, 33, 34, 35, 36, 37, 38, 39]), ([15], [6, 7, 8, 12, 13, 18, 19, 20, 21, 22, 23, 24, 25, 26, 27, 28, 29, 30, 31, 32, 33, 34, 35, 36, 37, 38, 39]), ([16], [6, 7, 8, 19, 20, 21, 22, 23, 24, 25, 26, 27, 28, 29, 30, 31, 32, 33, 34, 35, 36, 37, 38, 39]), ([17], [6, 7, 8, 12, 14, 26, 27, 28, 29, 30, 31, 32, 33, 34, 35, 36, 37, 38, 39]), ([18], [6, 7, 8, 12, 13, 14, 15, 32, 33, 34, 35, 36, 37, 38, 39]), ([19], [6, 7, 8, 9, 10, 12, 13, 14, 15, 16, 21, 22, 24, 25, 26, 27, 28, 29, 30, 31, 32, 33, 34, 35, 36, 37, 38, 39]), ([20], [6, 7, 8, 9, 10, 12, 13, 14, 15, 16, 21, 22, 25, 26, 27, 28, 29, 30, 31, 32, 33, 34, 35, 36, 37, 38, 39]), ([21], [6, 7, 8, 9, 10, 12, 13, 14, 15, 16, 19, 20, 24, 25, 26, 27, 28, 29, 30, 31, 32, 33, 34, 35, 36, 37, 38, 39]), ([22], [6, 7, 8, 9, 10, 12, 13, 14, 15, 16, 19, 20, 25, 26, 27, 28, 29, 30, 31, 32, 33, 34, 35, 36, 37, 38, 39]), ([23], [6, 7, 8, 9, 10, 12, 13, 14, 15, 16, 26, 27, 28, 29, 30, 31, 32, 33, 34, 35, 36, 37, 38, 39]), ([24], [6, 7, 8, 9, 10, 12, 13, 14, 15, 16, 19, 21, 32, 33, 34, 35, 36, 37, 38, 39]), ([25], [6, 7, 8, 9, 10, 12, 13, 14, 15, 16, 19, 20, 21, 22, 33, 34, 35, 36, 37, 38, 39]), ([26], [6, 7, 8, 9, 10, 11, 12, 13, 14, 15, 16, 17, 19, 20, 21, 22, 23, 28, 29, 31, 32, 33, 34, 35, 36, 37, 38, 39]), ([27], [6, 7, 8, 9, 10, 11, 12, 13, 14, 15, 16, 17, 19, 20, 21, 22, 23, 28, 29, 33, 34, 35, 36, 37, 38, 39]), ([28], [6, 7, 8, 9, 10, 11, 12, 13, 14, 15, 16, 17, 19, 20, 21, 22, 23, 26, 27, 31, 32, 33, 34, 35, 36, 37, 38, 39]), ([29], [6, 7, 8, 9, 10, 11, 12, 13, 14, 15, 16, 17, 19, 20, 21, 22, 23, 26, 27, 33, 34, 35, 36, 37, 38, 39]), ([30], [6, 7, 8, 9, 10, 11, 12, 13, 14, 15, 16, 17, 19, 20, 21, 22, 23]), ([31], [6, 7, 8, 9, 10, 11, 12, 13, 14, 15, 16, 17, 19, 20, 21, 22, 23, 26, 28]), ([32], [6, 7, 8, 9, 10, 11, 12, 13, 14, 15, 16, 17, 18, 19, 20, 21, 22, 23, 24, 26, 28]), ([33], [6, 7, 8, 9, 10, 11, 12, 13, 14, 15, 16, 17, 18, 19, 20, 21, 22, 23, 24, 25, 26, 27, 28, 29, 35, 36, 37, 39]), ([34], [6, 7, 8, 9, 10, 11, 12, 13, 14, 15, 16, 17, 18, 19, 20, 21, 22, 23, 24, 25, 26, 27, 28, 29, 35, 36, 37]), ([35], [6, 7, 8, 9, 10, 11, 12, 13, 14, 15, 16, 17, 18, 19, 20, 21, 22, 23, 24, 25, 26, 27, 28, 29, 33, 34, 37, 39]), ([36], [6, 7, 8, 9, 10, 11, 12, 13, 14, 15, 16, 17, 18, 19, 20, 21, 22, 23, 24, 25, 26, 27, 28, 29, 33, 34, 37]), ([37], [6, 7, 8, 9, 10, 11, 12, 13, 14, 15, 16, 17, 18, 19, 20, 21, 22, 23, 24, 25, 26, 27, 28, 29, 33, 34, 35, 36]), ([38], [6, 7, 8, 9, 10, 11, 12, 13, 14, 15, 16, 17, 18, 19, 20, 21, 22, 23, 24, 25, 26, 27, 28, 29]), ([39], [6, 7, 8, 9, 10, 11, 12, 13, 14, 15, 16, 17, 18, 19, 20, 21, 22, 23, 24, 25, 26, 27, 28, 29, 33, 35])] (by kernel_rfl) fun K hK => ?_
 | with_reducible refine SpecC.condW fun A B hA hB => ?_
 | with_reducible refine SpecC.block ?_
 | with_reducible refine SpecC.skip ?_
 | with_reducible refine SpecC.label ?_
 | with_reducible refine SpecC.exit ?_
 | with_reducible refine SpecC.goto ?_
 | with_reducible refine SpecC.ret ?_
 | ((with_reducible first | refine condK.split (fun hb => ?_) (fun hb => ?_) | refine gK.split_t (fun hb => ?_) (fun hb => ?_) | refine gK.split_f (fun hb => ?_) (fun hb => ?_)) <;> try simp only [decide_not, ilt_t, ilt_f, ile_t, ile_f, nlt_t, nlt_f, nle_t, nle_f, Bool.not_eq_true', Bool.not_eq_false', Int.ofNat_lt, Int.ofNat_le] at hb)
 | simp only [go_sem, ↓reduceIte, reduceIte, Nat.reduceEqDiff, String.reduceEq, Nat.reduceLT, Nat.reduceLeDiff, Nat.reduceAdd, Nat.reduceMul, Nat.reduceSub, Nat.reduceBEq, reduceCtorEq, *, -hs, -h]
 | with_reducible refine fun (bn : Bool) hbn => ?_))
  all_goals ((repeat clear hK); (repeat clear hA); (repeat clear hB))
  all_goals (clear h hs; grind [alikeP])
set_option maxRecDepth 30000 in
theorem sameP_c (a_kind : Int) (a_name : List UInt8) (a_ver : Int) (a_port : Int) (a_to : List UInt8) (a_rules : List Rule) (a_hosts : List Int) (b_kind : Int) (b_name : List UInt8) (b_ver : Int) (b_port : Int) (b_to : List UInt8) (b_rules : List Rule) (b_hosts : List Int) (hh : Small a_hosts.length) (hl : Small a_rules.length) (hs : ∀ x ∈ a_rules, SmRule x) : CallR Tryz.prog 19 [.agg [.int .i64 a_kind, .str a_name, .int .i64 a_ver, .int .i64 a_port, .str a_to, .slice false (avs a_rules), .slice false (avs a_hosts)], .agg [.int .i64 b_kind, .str b_name, .int .i64 b_ver, .int .i64 b_port, .str b_to, .slice false (avs b_rules), .slice false (avs b_hosts)]] (.val (.bool (decide ((⟨a_kind, a_name, a_ver, a_port, a_to, a_rules, a_hosts⟩ : Res) = (⟨b_kind, b_name, b_ver, b_port, b_to, b_rules, b_hosts⟩ : Res))))) := by
  refine CallR.go2 (T := T) Tryz.call19 Tryz.func19 rfl Tryz.ntmps19 (congrArg Array.toList Tryz.results19) (by decide) fun ts hn h0 h1 => ?_
  (repeat' (first
 | with_reducible refine callX.by (alikeP_c _ _ _ _ _ _ _ _ _ _ _ _ _ _ ?_ ?_ ?_) ?_
 | with_reducible assumption
 | (with_reducible refine NxK.out hK _ ?_; clear hK K)
 | with_reducible refine NxK.out (by assumption) _ ?_
 | with_reducible refine Nx.out (by assumption) ?_
 | with_reducible refine SpecC.seqW fun K hK => ?_
 | with_reducible refine SpecC.regW T fun K hK => ?_
 | with_reducible refine SpecC.condW fun A B hA hB => ?_
 | with_reducible refine SpecC.block ?_
 | with_reducible refine SpecC.skip ?_
 | with_reducible refine SpecC.label ?_
 | with_reducible refine SpecC.exit ?_
 | with_reducible refine SpecC.goto ?_
 | with_reducible refine SpecC.ret ?_
 | ((with_reducible first | refine condK.split (fun hb => ?_) (fun hb => ?_) | refine gK.split_t (fun hb => ?_) (fun hb => ?_) | refine gK.split_f (fun hb => ?_) (fun hb => ?_)) <;> try simp only [decide_not, ilt_t, ilt_f, ile_t, ile_f, nlt_t, nlt_f, nle_t, nle_f, Bool.not_eq_true', Bool.not_eq_false', Int.ofNat_lt, Int.ofNat_le] at hb)
 | simp only [go_sem, ↓reduceIte, reduceIte, Nat.reduceEqDiff, String.reduceEq, Nat.reduceLT, Nat.reduceLeDiff, Nat.reduceAdd, Nat.reduceMul, Nat.reduceSub, Nat.reduceBEq, reduceCtorEq, *, -hs]
 | with_reducible refine fun (bn : Bool) hbn => ?_))
  all_goals ((repeat clear hK); (repeat clear hA); (repeat clear hB))
  all_goals (clear hs; grind [alikeP])
end Go.Proofs.YtbmdbkgjgjggiaaGreatDoor.Lg
