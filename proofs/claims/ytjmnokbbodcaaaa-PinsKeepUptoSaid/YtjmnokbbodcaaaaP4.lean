/- slices.IndexFunc, DeleteFunc, Delete at Snap; pins.Publish, pins.Release. -/
import Derived.Test.YtjmnokbbodcaaaaP3
namespace Go.Proofs.Ytjmnokbbodcaaaa.Lg
set_option linter.unusedVariables false
set_option linter.unusedSimpArgs false
open Go

def idxF {α : Type} (p : α → Bool) : List α → Int → Int
  | [], _ => -1
  | x :: r, i => if p x then i else idxF p r (i + 1)

set_option maxRecDepth 30000 in
theorem indexFuncSnap_c (fn : FuncId) (caps : List AV) (hc : Caps caps) (p : Snap → Bool) (hp : ∀ x : Snap, CallR Try.prog fn (.agg [.int .i64 x.id, .int .i64 x.pins, .slice false (avs x.l)] :: caps) (.val (.bool (p x)))) (xs : List Snap) (hl : Small xs.length) : CallR Try.prog 58 [.slice false (avs xs), .clo (.func fn) [] caps] (.val (.int .i64 (idxF p xs 0))) := by
  have hca := hc.args
  have hcp := hc.pure
  have hcn := hc.nrm
  refine CallR.go2 (T := T) Try.call58 Try.func58 rfl Try.ntmps58 (congrArg Array.toList Try.results58) (by decide) fun ts hn h0 h1 => ?_
  (repeat' (first
    | with_reducible assumption
    | (with_reducible refine NxK.out hK _ ?_; clear hK K)
    | with_reducible refine NxK.out (by assumption) _ ?_
    | with_reducible refine Nx.out (by assumption) ?_
    | with_reducible refine SpecC.seqW fun K hK => ?_
    | with_reducible refine SpecC.regW T fun K hK => ?_
    | with_reducible refine SpecC.condW fun A B hA hB => ?_
    | with_reducible refine SpecC.block ?_
    | with_reducible refine SpecC.skip ?_
    | with_reducible refine SpecC.label ?_
    | with_reducible refine SpecC.exit ?_
    | with_reducible refine SpecC.goto ?_
    | with_reducible refine SpecC.ret ?_
    | ((with_reducible first | refine condK.split (fun hb => ?_) (fun hb => ?_) | refine gK.split_t (fun hb => ?_) (fun hb => ?_) | refine gK.split_f (fun hb => ?_) (fun hb => ?_)) <;> try simp only [decide_not, ilt_t, ilt_f, ile_t, ile_f, nlt_t, nlt_f, nle_t, nle_f, Bool.not_eq_true', Bool.not_eq_false', Int.ofNat_lt, Int.ofNat_le] at hb)
    | simp only [go_sem, ↓reduceIte, reduceIte, Nat.reduceEqDiff, String.reduceEq, Nat.reduceLT, Nat.reduceLeDiff, Nat.reduceAdd, Nat.reduceMul, Nat.reduceSub, Nat.reduceBEq, reduceCtorEq, *]
    | with_reducible refine fun (bn : Bool) hbn => ?_))
  refine SpecC.loopF [0, 1, 7] (fun m ts' => ∃ (i : Nat), m = xs.length - i ∧ i ≤ xs.length ∧ idxF p xs 0 = idxF p (xs.drop i) i ∧ ts'.tmp 8 = .int .i64 i) xs.length ?_ ?_
  · refine ⟨0, ?_⟩
    simp only [go_sem, ↓reduceIte, reduceIte, Nat.reduceEqDiff, String.reduceEq, Nat.reduceLT, Nat.reduceLeDiff, Nat.reduceAdd, Nat.reduceMul, Nat.reduceSub, Nat.reduceBEq, reduceCtorEq, *]
  · rintro m A hM ts' hk ⟨i, hm, f1, f2, s1⟩
    simp only [go_sem, ↓reduceIte, reduceIte, Nat.reduceEqDiff, String.reduceEq, Nat.reduceLT, Nat.reduceLeDiff, Nat.reduceAdd, Nat.reduceMul, Nat.reduceSub, Nat.reduceBEq, reduceCtorEq, *] at hk
    by_cases hlt : i < xs.length
    · rw [List.drop_eq_getElem_cons hlt, idxF] at f2
      (repeat' (first
    | with_reducible refine callX.by (hp _) ?_
    | with_reducible assumption
    | (with_reducible refine NxK.out hK _ ?_; clear hK K)
    | with_reducible refine NxK.out (by assumption) _ ?_
    | with_reducible refine Nx.out (by assumption) ?_
    | with_reducible refine SpecC.seqW fun K hK => ?_
    | with_reducible refine SpecC.regW T fun K hK => ?_
    | with_reducible refine SpecC.condW fun A B hA hB => ?_
    | with_reducible refine SpecC.block ?_
    | with_reducible refine SpecC.skip ?_
    | with_reducible refine SpecC.label ?_
    | with_reducible refine SpecC.exit ?_
    | with_reducible refine SpecC.goto ?_
    | with_reducible refine SpecC.ret ?_
    | ((with_reducible first | refine condK.split (fun hb => ?_) (fun hb => ?_) | refine gK.split_t (fun hb => ?_) (fun hb => ?_) | refine gK.split_f (fun hb => ?_) (fun hb => ?_)) <;> try simp only [decide_not, ilt_t, ilt_f, ile_t, ile_f, nlt_t, nlt_f, nle_t, nle_f, Bool.not_eq_true', Bool.not_eq_false', Int.ofNat_lt, Int.ofNat_le] at hb)
    | simp only [go_sem, ↓reduceIte, reduceIte, Nat.reduceEqDiff, String.reduceEq, Nat.reduceLT, Nat.reduceLeDiff, Nat.reduceAdd, Nat.reduceMul, Nat.reduceSub, Nat.reduceBEq, reduceCtorEq, *]
    | with_reducible refine fun (bn : Bool) hbn => ?_))
      all_goals ((repeat clear hK); (repeat clear hA); (repeat clear hB))
      rw [if_neg (by simp [hb])] at f2
      (refine hM.on (xs.length - (i + 1)) (by omega) (by simp only [go_sem, ↓reduceIte, reduceIte, Nat.reduceEqDiff, String.reduceEq, Nat.reduceLT, Nat.reduceLeDiff, Nat.reduceAdd, Nat.reduceMul, Nat.reduceSub, Nat.reduceBEq, reduceCtorEq, *, w64_nat hlt hl, -f2]) ⟨i + 1, rfl, by omega, f2, ?_⟩; simp only [go_sem, ↓reduceIte, reduceIte, Nat.reduceEqDiff, String.reduceEq, Nat.reduceLT, Nat.reduceLeDiff, Nat.reduceAdd, Nat.reduceMul, Nat.reduceSub, Nat.reduceBEq, reduceCtorEq, *, w64_nat hlt hl, -f2]; done)
    · rw [List.drop_eq_nil_of_le (by omega), idxF] at f2
      (repeat' (first
    | with_reducible assumption
    | (with_reducible refine NxK.out hK _ ?_; clear hK K)
    | with_reducible refine NxK.out (by assumption) _ ?_
    | with_reducible refine Nx.out (by assumption) ?_
    | with_reducible refine SpecC.seqW fun K hK => ?_
    | with_reducible refine SpecC.regW T fun K hK => ?_
    | with_reducible refine SpecC.condW fun A B hA hB => ?_
    | with_reducible refine SpecC.block ?_
    | with_reducible refine SpecC.skip ?_
    | with_reducible refine SpecC.label ?_
    | with_reducible refine SpecC.exit ?_
    | with_reducible refine SpecC.goto ?_
    | with_reducible refine SpecC.ret ?_
    | ((with_reducible first | refine condK.split (fun hb => ?_) (fun hb => ?_) | refine gK.split_t (fun hb => ?_) (fun hb => ?_) | refine gK.split_f (fun hb => ?_) (fun hb => ?_)) <;> try simp only [decide_not, ilt_t, ilt_f, ile_t, ile_f, nlt_t, nlt_f, nle_t, nle_f, Bool.not_eq_true', Bool.not_eq_false', Int.ofNat_lt, Int.ofNat_le] at hb)
    | simp only [go_sem, ↓reduceIte, reduceIte, Nat.reduceEqDiff, String.reduceEq, Nat.reduceLT, Nat.reduceLeDiff, Nat.reduceAdd, Nat.reduceMul, Nat.reduceSub, Nat.reduceBEq, reduceCtorEq, *]
    | with_reducible refine fun (bn : Bool) hbn => ?_))

theorem idxF_ge {α : Type} (p : α → Bool) : ∀ (l : List α) (i : Int), idxF p l i = -1 ∨ i ≤ idxF p l i
  | [], _ => .inl rfl
  | x :: r, i => by
    rw [idxF]
    split
    · exact .inr (Int.le_refl i)
    · rcases idxF_ge p r (i + 1) with h | h
      · exact .inl h
      · exact .inr (by omega)

theorem idxF_none {α : Type} (p : α → Bool) : ∀ (l : List α) (i : Int), 0 ≤ i → idxF p l i = -1 → ∀ x ∈ l, p x = false
  | [], _, _, _ => by simp
  | x :: r, i, h0, h => by
    rw [idxF] at h
    split at h
    · omega
    · rename_i hp
      intro y hy
      rcases List.mem_cons.1 hy with rfl | hy
      · simpa using hp
      · exact idxF_none p r (i + 1) (by omega) h y hy

theorem idxF_some {α : Type} (p : α → Bool) : ∀ (l : List α) (i : Int), 0 ≤ i → idxF p l i ≠ -1 → ∃ k : Nat, idxF p l i = i + k ∧ k < l.length ∧ (∀ x ∈ l.take k, p x = false) ∧ (∀ h : k < l.length, p l[k] = true)
  | [], i, _, h => absurd rfl h
  | x :: r, i, h0, h => by
    rw [idxF] at h ⊢
    split
    · rename_i hp; exact ⟨0, by simp, by simp, by simp, by simpa using hp⟩
    · rename_i hp
      rw [if_neg hp] at h
      obtain ⟨k, h1, h2, h3, h4⟩ := idxF_some p r (i + 1) (by omega) h
      refine ⟨k + 1, by rw [h1]; push_cast; omega, by simpa using h2, ?_, fun h => by simpa using h4 (by simpa using h2)⟩
      intro y hy
      rw [List.take_succ_cons] at hy
      rcases List.mem_cons.1 hy with rfl | hy
      · simpa using hp
      · exact h3 y hy

theorem filt_step {α : Type} (q : α → Bool) {xs : List α} {j : Nat} (h : j < xs.length) : (xs.take (j + 1)).filter q = (xs.take j).filter q ++ (if q xs[j] then [xs[j]] else []) := by
  rw [List.take_succ_eq_append_getElem h, List.filter_append]
  congr 1
  by_cases hq : q xs[j] <;> simp [hq]

theorem take_set_succ {α : Type} {l : List α} {i : Nat} (x : α) (h : i < l.length) : (l.set i x).take (i + 1) = l.take i ++ [x] := by
  rw [List.take_succ_eq_append_getElem (by simpa using h), List.take_set_of_le (Nat.le_refl i)]
  simp

set_option maxRecDepth 30000 in
theorem deleteFuncSnap_c (fn : FuncId) (caps : List AV) (hc : Caps caps) (p : Snap → Bool) (hp : ∀ x : Snap, CallR Try.prog fn (.agg [.int .i64 x.id, .int .i64 x.pins, .slice false (avs x.l)] :: caps) (.val (.bool (p x)))) (xs : List Snap) (hl : Small xs.length) : CallM Try.prog 46 3 (avs xs) [.clo (.func fn) [] caps] (.own 3 (avs (xs.filter fun x => !p x))) := by
  have hca := hc.args
  have hcp := hc.pure
  have hcn := hc.nrm
  refine CallM.go1 (T := T) Try.call46 Try.func46 rfl Try.ntmps46 (congrArg Array.toList Try.results46) (by decide) fun ts hn h0 hg0 ho0 h1 => ?_
  have hi := indexFuncSnap_c fn caps hc p hp xs hl
  by_cases hneg : idxF p xs 0 = -1
  · have hf : xs.filter (fun x => !p x) = xs := List.filter_eq_self.2 fun x hx => by simp [idxF_none p xs 0 (Int.le_refl 0) hneg x hx]
    (repeat' (first
    | with_reducible refine callX.by (hi) ?_
    | with_reducible refine callX.by (indexFuncSnap_c _ _ ?_ _ ?_ _ ?_) ?_
    | with_reducible assumption
    | (with_reducible refine NxK.out hK _ ?_; clear hK K)
    | with_reducible refine NxK.out (by assumption) _ ?_
    | with_reducible refine Nx.out (by assumption) ?_
    | with_reducible refine SpecC.seqW fun K hK => ?_
    | with_reducible refine SpecC.regW T fun K hK => ?_
    | with_reducible refine SpecC.condW fun A B hA hB => ?_
    | with_reducible refine SpecC.block ?_
    | with_reducible refine SpecC.skip ?_
    | with_reducible refine SpecC.label ?_
    | with_reducible refine SpecC.exit ?_
    | with_reducible refine SpecC.goto ?_
    | with_reducible refine SpecC.ret ?_
    | ((with_reducible first | refine condK.split (fun hb => ?_) (fun hb => ?_) | refine gK.split_t (fun hb => ?_) (fun hb => ?_) | refine gK.split_f (fun hb => ?_) (fun hb => ?_)) <;> try simp only [decide_not, ilt_t, ilt_f, ile_t, ile_f, nlt_t, nlt_f, nle_t, nle_f, Bool.not_eq_true', Bool.not_eq_false', Int.ofNat_lt, Int.ofNat_le] at hb)
    | simp only [go_sem, ↓reduceIte, reduceIte, Nat.reduceEqDiff, String.reduceEq, Nat.reduceLT, Nat.reduceLeDiff, Nat.reduceAdd, Nat.reduceMul, Nat.reduceSub, Nat.reduceBEq, reduceCtorEq, *]
    | with_reducible refine fun (bn : Bool) hbn => ?_))
  · obtain ⟨k, hk1, hk2, hk3, hk4⟩ := idxF_some p xs 0 (Int.le_refl 0) hneg
    rw [Int.zero_add] at hk1
    (repeat' (first
    | with_reducible refine callX.by (hi) ?_
    | with_reducible refine callX.by (indexFuncSnap_c _ _ ?_ _ ?_ _ ?_) ?_
    | with_reducible assumption
    | (with_reducible refine NxK.out hK _ ?_; clear hK K)
    | with_reducible refine NxK.out (by assumption) _ ?_
    | with_reducible refine Nx.out (by assumption) ?_
    | with_reducible refine SpecC.seqW fun K hK => ?_
    | with_reducible refine SpecC.regW T fun K hK => ?_
    | with_reducible refine SpecC.condW fun A B hA hB => ?_
    | with_reducible refine SpecC.block ?_
    | with_reducible refine SpecC.skip ?_
    | with_reducible refine SpecC.label ?_
    | with_reducible refine SpecC.exit ?_
    | with_reducible refine SpecC.goto ?_
    | with_reducible refine SpecC.ret ?_
    | ((with_reducible first | refine condK.split (fun hb => ?_) (fun hb => ?_) | refine gK.split_t (fun hb => ?_) (fun hb => ?_) | refine gK.split_f (fun hb => ?_) (fun hb => ?_)) <;> try simp only [decide_not, ilt_t, ilt_f, ile_t, ile_f, nlt_t, nlt_f, nle_t, nle_f, Bool.not_eq_true', Bool.not_eq_false', Int.ofNat_lt, Int.ofNat_le] at hb)
    | simp only [go_sem, ↓reduceIte, reduceIte, Nat.reduceEqDiff, String.reduceEq, Nat.reduceLT, Nat.reduceLeDiff, Nat.reduceAdd, Nat.reduceMul, Nat.reduceSub, Nat.reduceBEq, reduceCtorEq, *]
    | with_reducible refine fun (bn : Bool) hbn => ?_))
    refine SpecC.loopF [1] (fun m ts' => ∃ (i : Nat), ∃ (j : Nat), ∃ (ys : List Snap), m = xs.length - j ∧ i < j ∧ j ≤ xs.length ∧ ys.length = xs.length ∧ ys.take i = (xs.take j).filter (fun x => !p x) ∧ ys.drop j = xs.drop j ∧ ts'.tmp 0 = .os 0 0 xs.length ∧ ts'.gen 0 = 0 ∧ ts'.obj 0 = .arr 3 (avs ys) ∧ ts'.tmp 5 = .int .i64 i ∧ ts'.tmp 6 = .int .i64 j) (xs.length - (k + 1)) ?_ ?_
    · refine ⟨k, k + 1, xs, rfl, by omega, by omega, rfl, ?_, rfl, ?_⟩
      · rw [filt_step _ hk2, List.filter_eq_self.2 (fun x hx => by simp [hk3 x hx]), hk4 hk2]; simp
      · simp only [go_sem, ↓reduceIte, reduceIte, Nat.reduceEqDiff, String.reduceEq, Nat.reduceLT, Nat.reduceLeDiff, Nat.reduceAdd, Nat.reduceMul, Nat.reduceSub, Nat.reduceBEq, reduceCtorEq, *, w64_nat hk2 hl]
    · rintro m A hM ts' hk ⟨i, j, ys, hm, f1, f2, f3, f4, f5, s1, s2, s3, s4, s5⟩
      simp only [go_sem, ↓reduceIte, reduceIte, Nat.reduceEqDiff, String.reduceEq, Nat.reduceLT, Nat.reduceLeDiff, Nat.reduceAdd, Nat.reduceMul, Nat.reduceSub, Nat.reduceBEq, reduceCtorEq, *] at hk
      by_cases hlt : j < xs.length
      · have hly : j < ys.length := by omega
        have hj : ys[j] = xs[j] := by
          have := congrArg (fun l => l[0]?) f5
          simpa [hly, hlt] using this
        have hix : i < xs.length := by omega
        (repeat' (first
    | with_reducible refine callX.by (hp _) ?_
    | with_reducible refine callX.by (indexFuncSnap_c _ _ ?_ _ ?_ _ ?_) ?_
    | with_reducible assumption
    | (with_reducible refine NxK.out hK _ ?_; clear hK K)
    | with_reducible refine NxK.out (by assumption) _ ?_
    | with_reducible refine Nx.out (by assumption) ?_
    | with_reducible refine SpecC.seqW fun K hK => ?_
    | with_reducible refine SpecC.regW T fun K hK => ?_
    | with_reducible refine SpecC.condW fun A B hA hB => ?_
    | with_reducible refine SpecC.block ?_
    | with_reducible refine SpecC.skip ?_
    | with_reducible refine SpecC.label ?_
    | with_reducible refine SpecC.exit ?_
    | with_reducible refine SpecC.goto ?_
    | with_reducible refine SpecC.ret ?_
    | ((with_reducible first | refine condK.split (fun hb => ?_) (fun hb => ?_) | refine gK.split_t (fun hb => ?_) (fun hb => ?_) | refine gK.split_f (fun hb => ?_) (fun hb => ?_)) <;> try simp only [decide_not, ilt_t, ilt_f, ile_t, ile_f, nlt_t, nlt_f, nle_t, nle_f, Bool.not_eq_true', Bool.not_eq_false', Int.ofNat_lt, Int.ofNat_le] at hb)
    | simp only [go_sem, ↓reduceIte, reduceIte, Nat.reduceEqDiff, String.reduceEq, Nat.reduceLT, Nat.reduceLeDiff, Nat.reduceAdd, Nat.reduceMul, Nat.reduceSub, Nat.reduceBEq, reduceCtorEq, *]
    | with_reducible refine fun (bn : Bool) hbn => ?_))
        all_goals ((repeat clear hK); (repeat clear hA); (repeat clear hB))
        · (refine hM.on (xs.length - (j + 1)) (by omega) (by simp only [go_sem, ↓reduceIte, reduceIte, Nat.reduceEqDiff, String.reduceEq, Nat.reduceLT, Nat.reduceLeDiff, Nat.reduceAdd, Nat.reduceMul, Nat.reduceSub, Nat.reduceBEq, reduceCtorEq, *, w64_nat hlt hl, w64_nat hix hl]) ⟨i + 1, j + 1, ys.set i xs[j], rfl, by omega, by omega, by simp [f3], by rw [filt_step _ hlt, ← f4, hb, take_set_succ _ (by omega)]; simp, by rw [List.drop_set, if_pos (by omega)]; simpa using congrArg (List.drop 1) f5, ?_⟩; simp only [go_sem, ↓reduceIte, reduceIte, Nat.reduceEqDiff, String.reduceEq, Nat.reduceLT, Nat.reduceLeDiff, Nat.reduceAdd, Nat.reduceMul, Nat.reduceSub, Nat.reduceBEq, reduceCtorEq, *, w64_nat hlt hl, w64_nat hix hl]; done)
        · (refine hM.on (xs.length - (j + 1)) (by omega) (by simp only [go_sem, ↓reduceIte, reduceIte, Nat.reduceEqDiff, String.reduceEq, Nat.reduceLT, Nat.reduceLeDiff, Nat.reduceAdd, Nat.reduceMul, Nat.reduceSub, Nat.reduceBEq, reduceCtorEq, *, w64_nat hlt hl]) ⟨i, j + 1, ys, rfl, by omega, by omega, f3, by rw [filt_step _ hlt, ← f4, hb]; simp, by simpa using congrArg (List.drop 1) f5, ?_⟩; simp only [go_sem, ↓reduceIte, reduceIte, Nat.reduceEqDiff, String.reduceEq, Nat.reduceLT, Nat.reduceLeDiff, Nat.reduceAdd, Nat.reduceMul, Nat.reduceSub, Nat.reduceBEq, reduceCtorEq, *, w64_nat hlt hl]; done)
      · have hi1 : i ≤ xs.length := by omega
        have hi2 : i + (xs.length - i) = xs.length := by omega
        have hj2 : j = xs.length := by omega
        subst hj2
        rw [List.take_length] at f4
        (repeat' (first
    | with_reducible refine callX.by (hp _) ?_
    | with_reducible refine callX.by (indexFuncSnap_c _ _ ?_ _ ?_ _ ?_) ?_
    | with_reducible assumption
    | (with_reducible refine NxK.out hK _ ?_; clear hK K)
    | with_reducible refine NxK.out (by assumption) _ ?_
    | with_reducible refine Nx.out (by assumption) ?_
    | with_reducible refine SpecC.seqW fun K hK => ?_
    | with_reducible refine SpecC.regW T fun K hK => ?_
    | with_reducible refine SpecC.condW fun A B hA hB => ?_
    | with_reducible refine SpecC.block ?_
    | with_reducible refine SpecC.skip ?_
    | with_reducible refine SpecC.label ?_
    | with_reducible refine SpecC.exit ?_
    | with_reducible refine SpecC.goto ?_
    | with_reducible refine SpecC.ret ?_
    | ((with_reducible first | refine condK.split (fun hb => ?_) (fun hb => ?_) | refine gK.split_t (fun hb => ?_) (fun hb => ?_) | refine gK.split_f (fun hb => ?_) (fun hb => ?_)) <;> try simp only [decide_not, ilt_t, ilt_f, ile_t, ile_f, nlt_t, nlt_f, nle_t, nle_f, Bool.not_eq_true', Bool.not_eq_false', Int.ofNat_lt, Int.ofNat_le] at hb)
    | simp only [go_sem, ↓reduceIte, reduceIte, Nat.reduceEqDiff, String.reduceEq, Nat.reduceLT, Nat.reduceLeDiff, Nat.reduceAdd, Nat.reduceMul, Nat.reduceSub, Nat.reduceBEq, reduceCtorEq, *]
    | with_reducible refine fun (bn : Bool) hbn => ?_))
        all_goals ((repeat clear hK); (repeat clear hA); (repeat clear hB))
end Go.Proofs.Ytjmnokbbodcaaaa.Lg
