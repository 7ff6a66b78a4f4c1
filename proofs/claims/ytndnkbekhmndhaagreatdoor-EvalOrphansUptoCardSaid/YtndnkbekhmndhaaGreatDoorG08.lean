/- Parts of the proof, one behind the other. -/
import Derived.Test.YtndnkbekhmndhaaGreatDoorG07
namespace Go.Proofs.YtndnkbekhmndhaaGreatDoor.Lg
set_option maxRecDepth 100000
set_option linter.unusedVariables false
set_option linter.unusedSimpArgs false
open Go
theorem idxF_any {α : Type} (p : α → Bool) (xs : List α) : decide (0 ≤ idxF p xs 0) = xs.any p := by
  by_cases h : idxF p xs 0 = -1
  · have hn := idxF_none p xs 0 (Int.le_refl _) h
    have h2 : xs.any p = false := List.any_eq_false.2 fun x hx => by simp [hn x hx]
    rw [h, h2]; decide
  · obtain ⟨k, h1, h2, h3, h4⟩ := idxF_some p xs 0 (Int.le_refl _) h
    have h5 : xs.any p = true := List.any_eq_true.2 ⟨xs[k], List.getElem_mem h2, h4 h2⟩
    rw [h1, h5]; simp
section closures
set_option maxRecDepth 30000 in
theorem idxFW_c (fn : FuncId) (caps : List AV) (hc : Caps caps) (p : Weight → Bool) (xs : List Weight) (hp : ∀ x ∈ xs, CallR Tryz.prog fn (.agg [.str x.cluster, .int .i64 x.w] :: caps) (.val (.bool (p x)))) (hl : Small xs.length) : CallR Tryz.prog 219 [.slice false (avs xs), .clo (.func fn) [] caps] (.val (.int .i64 (idxF p xs 0))) := by
  have hca := hc.args
  have hcp := hc.pure
  have hcn := hc.nrm
  refine CallR.go2 (T := T) Tryz.call219 Tryz.func219 rfl Tryz.ntmps219 (congrArg Array.toList Tryz.results219) (by decide) fun ts hn h0 h1 => ?_
  (repeat' (first
 | (with_reducible first | assumption | (refine NxK.out hK _ ?_; clear hK K) | refine NxK.out (by assumption) _ ?_ | refine Nx.out (by assumption) ?_ | refine SpecC.seqW fun K hK => ?_ | refine SpecC.regW T fun K hK => ?_ | refine SpecC.condW fun A B hA hB => ?_ | refine SpecC.block ?_ | refine SpecC.skip ?_ | refine SpecC.label ?_ | refine SpecC.exit ?_ | refine SpecC.goto ?_ | refine SpecC.ret ?_)
 | ((with_reducible first | refine condK.split (fun hb => ?_) (fun hb => ?_) | refine gK.split_t (fun hb => ?_) (fun hb => ?_) | refine gK.split_f (fun hb => ?_) (fun hb => ?_)) <;> try simp only [decide_not, ilt_t, ilt_f, ile_t, ile_f, nlt_t, nlt_f, nle_t, nle_f, Bool.not_eq_true', Bool.not_eq_false', Int.ofNat_lt, Int.ofNat_le] at hb)
 | simp only [go_sem, ↓reduceIte, reduceIte, Nat.reduceEqDiff, String.reduceEq, Nat.reduceLT, Nat.reduceLeDiff, Nat.reduceAdd, Nat.reduceMul, Nat.reduceSub, Nat.reduceBEq, reduceCtorEq, *, -hp]
 | with_reducible refine fun (bn : Bool) hbn => ?_))
  refine SpecC.loopF [0, 1, 7] (fun m ts' => ∃ (i : Nat), m = xs.length - i ∧ i ≤ xs.length ∧ idxF p xs 0 = idxF p (xs.drop i) i ∧ ts'.tmp 8 = .int .i64 i) xs.length ?_ ?_
  · refine ⟨0, ?_⟩
    simp only [go_sem, ↓reduceIte, reduceIte, Nat.reduceEqDiff, String.reduceEq, Nat.reduceLT, Nat.reduceLeDiff, Nat.reduceAdd, Nat.reduceMul, Nat.reduceSub, Nat.reduceBEq, reduceCtorEq, *, -hp]
  · rintro m A hM ts' hk ⟨i, hm, f1, f2, s1⟩
    simp only [go_sem, ↓reduceIte, reduceIte, Nat.reduceEqDiff, String.reduceEq, Nat.reduceLT, Nat.reduceLeDiff, Nat.reduceAdd, Nat.reduceMul, Nat.reduceSub, Nat.reduceBEq, reduceCtorEq, *] at hk
    by_cases hlt : i < xs.length
    · rw [List.drop_eq_getElem_cons hlt, idxF] at f2
      have hpi := hp _ (List.getElem_mem hlt)
      (repeat' (first
 | (with_reducible first | refine callX.by (hpi) ?_ | assumption | (refine NxK.out hK _ ?_; clear hK K) | refine NxK.out (by assumption) _ ?_ | refine Nx.out (by assumption) ?_ | refine SpecC.seqW fun K hK => ?_ | refine SpecC.regW T fun K hK => ?_ | refine SpecC.condW fun A B hA hB => ?_ | refine SpecC.block ?_ | refine SpecC.skip ?_ | refine SpecC.label ?_ | refine SpecC.exit ?_ | refine SpecC.goto ?_ | refine SpecC.ret ?_)
 | ((with_reducible first | refine condK.split (fun hb => ?_) (fun hb => ?_) | refine gK.split_t (fun hb => ?_) (fun hb => ?_) | refine gK.split_f (fun hb => ?_) (fun hb => ?_)) <;> try simp only [decide_not, ilt_t, ilt_f, ile_t, ile_f, nlt_t, nlt_f, nle_t, nle_f, Bool.not_eq_true', Bool.not_eq_false', Int.ofNat_lt, Int.ofNat_le] at hb)
 | simp only [go_sem, ↓reduceIte, reduceIte, Nat.reduceEqDiff, String.reduceEq, Nat.reduceLT, Nat.reduceLeDiff, Nat.reduceAdd, Nat.reduceMul, Nat.reduceSub, Nat.reduceBEq, reduceCtorEq, *, -hp, -hpi]
 | with_reducible refine fun (bn : Bool) hbn => ?_))
      all_goals ((repeat clear hK); (repeat clear hA); (repeat clear hB))
      rw [if_neg (by simp [hb])] at f2
      (refine hM.on (xs.length - (i + 1)) (by omega) (by simp only [go_sem, ↓reduceIte, reduceIte, Nat.reduceEqDiff, String.reduceEq, Nat.reduceLT, Nat.reduceLeDiff, Nat.reduceAdd, Nat.reduceMul, Nat.reduceSub, Nat.reduceBEq, reduceCtorEq, *, w64_nat hlt hl, -f2, -hp, -hpi]) ⟨i + 1, rfl, by omega, f2, ?_⟩; simp only [go_sem, ↓reduceIte, reduceIte, Nat.reduceEqDiff, String.reduceEq, Nat.reduceLT, Nat.reduceLeDiff, Nat.reduceAdd, Nat.reduceMul, Nat.reduceSub, Nat.reduceBEq, reduceCtorEq, *, w64_nat hlt hl, -f2, -hp, -hpi]; done)
    · rw [List.drop_eq_nil_of_le (by omega), idxF] at f2
      (repeat' (first
 | (with_reducible first | assumption | (refine NxK.out hK _ ?_; clear hK K) | refine NxK.out (by assumption) _ ?_ | refine Nx.out (by assumption) ?_ | refine SpecC.seqW fun K hK => ?_ | refine SpecC.regW T fun K hK => ?_ | refine SpecC.condW fun A B hA hB => ?_ | refine SpecC.block ?_ | refine SpecC.skip ?_ | refine SpecC.label ?_ | refine SpecC.exit ?_ | refine SpecC.goto ?_ | refine SpecC.ret ?_)
 | ((with_reducible first | refine condK.split (fun hb => ?_) (fun hb => ?_) | refine gK.split_t (fun hb => ?_) (fun hb => ?_) | refine gK.split_f (fun hb => ?_) (fun hb => ?_)) <;> try simp only [decide_not, ilt_t, ilt_f, ile_t, ile_f, nlt_t, nlt_f, nle_t, nle_f, Bool.not_eq_true', Bool.not_eq_false', Int.ofNat_lt, Int.ofNat_le] at hb)
 | simp only [go_sem, ↓reduceIte, reduceIte, Nat.reduceEqDiff, String.reduceEq, Nat.reduceLT, Nat.reduceLeDiff, Nat.reduceAdd, Nat.reduceMul, Nat.reduceSub, Nat.reduceBEq, reduceCtorEq, *, -hp]
 | with_reducible refine fun (bn : Bool) hbn => ?_))
set_option maxRecDepth 30000 in
theorem conFW_c (fn : FuncId) (caps : List AV) (hc : Caps caps) (p : Weight → Bool) (xs : List Weight) (hp : ∀ x ∈ xs, CallR Tryz.prog fn (.agg [.str x.cluster, .int .i64 x.w] :: caps) (.val (.bool (p x)))) (hl : Small xs.length) : CallR Tryz.prog 186 [.slice false (avs xs), .clo (.func fn) [] caps] (.val (.bool (xs.any p))) := by
  have hca := hc.args
  have hcp := hc.pure
  have hcn := hc.nrm
  have hi := idxFW_c fn caps hc p xs hp hl
  have ha := idxF_any p xs
  refine CallR.go2 (T := T) Tryz.call186 Tryz.func186 rfl Tryz.ntmps186 (congrArg Array.toList Tryz.results186) (by decide) fun ts hn h0 h1 => ?_
  (repeat' (first
 | (with_reducible first | refine callX.by (hi) ?_ | refine callX.by (idxFW_c _ _ ?_ _ _ ?_ ?_) ?_ | assumption | (refine NxK.out hK _ ?_; clear hK K) | refine NxK.out (by assumption) _ ?_ | refine Nx.out (by assumption) ?_ | refine SpecC.seqW fun K hK => ?_ | refine SpecC.regW T fun K hK => ?_ | refine SpecC.condW fun A B hA hB => ?_ | refine SpecC.block ?_ | refine SpecC.skip ?_ | refine SpecC.label ?_ | refine SpecC.exit ?_ | refine SpecC.goto ?_ | refine SpecC.ret ?_)
 | ((with_reducible first | refine condK.split (fun hb => ?_) (fun hb => ?_) | refine gK.split_t (fun hb => ?_) (fun hb => ?_) | refine gK.split_f (fun hb => ?_) (fun hb => ?_)) <;> try simp only [decide_not, ilt_t, ilt_f, ile_t, ile_f, nlt_t, nlt_f, nle_t, nle_f, Bool.not_eq_true', Bool.not_eq_false', Int.ofNat_lt, Int.ofNat_le] at hb)
 | simp only [go_sem, ↓reduceIte, reduceIte, Nat.reduceEqDiff, String.reduceEq, Nat.reduceLT, Nat.reduceLeDiff, Nat.reduceAdd, Nat.reduceMul, Nat.reduceSub, Nat.reduceBEq, reduceCtorEq, *, -hp, -hi]
 | with_reducible refine fun (bn : Bool) hbn => ?_))
set_option maxRecDepth 30000 in
theorem idxFR_c (fn : FuncId) (caps : List AV) (hc : Caps caps) (p : Rule → Bool) (xs : List Rule) (hp : ∀ x ∈ xs, CallR Tryz.prog fn (.agg [.str x.host, .str x.pfx, .slice false (avs x.split)] :: caps) (.val (.bool (p x)))) (hl : Small xs.length) : CallR Tryz.prog 220 [.slice false (avs xs), .clo (.func fn) [] caps] (.val (.int .i64 (idxF p xs 0))) := by
  have hca := hc.args
  have hcp := hc.pure
  have hcn := hc.nrm
  refine CallR.go2 (T := T) Tryz.call220 Tryz.func220 rfl Tryz.ntmps220 (congrArg Array.toList Tryz.results220) (by decide) fun ts hn h0 h1 => ?_
  (repeat' (first
 | (with_reducible first | assumption | (refine NxK.out hK _ ?_; clear hK K) | refine NxK.out (by assumption) _ ?_ | refine Nx.out (by assumption) ?_ | refine SpecC.seqW fun K hK => ?_ | refine SpecC.regW T fun K hK => ?_ | refine SpecC.condW fun A B hA hB => ?_ | refine SpecC.block ?_ | refine SpecC.skip ?_ | refine SpecC.label ?_ | refine SpecC.exit ?_ | refine SpecC.goto ?_ | refine SpecC.ret ?_)
 | ((with_reducible first | refine condK.split (fun hb => ?_) (fun hb => ?_) | refine gK.split_t (fun hb => ?_) (fun hb => ?_) | refine gK.split_f (fun hb => ?_) (fun hb => ?_)) <;> try simp only [decide_not, ilt_t, ilt_f, ile_t, ile_f, nlt_t, nlt_f, nle_t, nle_f, Bool.not_eq_true', Bool.not_eq_false', Int.ofNat_lt, Int.ofNat_le] at hb)
 | simp only [go_sem, ↓reduceIte, reduceIte, Nat.reduceEqDiff, String.reduceEq, Nat.reduceLT, Nat.reduceLeDiff, Nat.reduceAdd, Nat.reduceMul, Nat.reduceSub, Nat.reduceBEq, reduceCtorEq, *, -hp]
 | with_reducible refine fun (bn : Bool) hbn => ?_))
  refine SpecC.loopF [0, 1, 7] (fun m ts' => ∃ (i : Nat), m = xs.length - i ∧ i ≤ xs.length ∧ idxF p xs 0 = idxF p (xs.drop i) i ∧ ts'.tmp 8 = .int .i64 i) xs.length ?_ ?_
  · refine ⟨0, ?_⟩
    simp only [go_sem, ↓reduceIte, reduceIte, Nat.reduceEqDiff, String.reduceEq, Nat.reduceLT, Nat.reduceLeDiff, Nat.reduceAdd, Nat.reduceMul, Nat.reduceSub, Nat.reduceBEq, reduceCtorEq, *, -hp]
  · rintro m A hM ts' hk ⟨i, hm, f1, f2, s1⟩
    simp only [go_sem, ↓reduceIte, reduceIte, Nat.reduceEqDiff, String.reduceEq, Nat.reduceLT, Nat.reduceLeDiff, Nat.reduceAdd, Nat.reduceMul, Nat.reduceSub, Nat.reduceBEq, reduceCtorEq, *] at hk
    by_cases hlt : i < xs.length
    · rw [List.drop_eq_getElem_cons hlt, idxF] at f2
      have hpi := hp _ (List.getElem_mem hlt)
      (repeat' (first
 | (with_reducible first | refine callX.by (hpi) ?_ | assumption | (refine NxK.out hK _ ?_; clear hK K) | refine NxK.out (by assumption) _ ?_ | refine Nx.out (by assumption) ?_ | refine SpecC.seqW fun K hK => ?_ | refine SpecC.regW T fun K hK => ?_ | refine SpecC.condW fun A B hA hB => ?_ | refine SpecC.block ?_ | refine SpecC.skip ?_ | refine SpecC.label ?_ | refine SpecC.exit ?_ | refine SpecC.goto ?_ | refine SpecC.ret ?_)
 | ((with_reducible first | refine condK.split (fun hb => ?_) (fun hb => ?_) | refine gK.split_t (fun hb => ?_) (fun hb => ?_) | refine gK.split_f (fun hb => ?_) (fun hb => ?_)) <;> try simp only [decide_not, ilt_t, ilt_f, ile_t, ile_f, nlt_t, nlt_f, nle_t, nle_f, Bool.not_eq_true', Bool.not_eq_false', Int.ofNat_lt, Int.ofNat_le] at hb)
 | simp only [go_sem, ↓reduceIte, reduceIte, Nat.reduceEqDiff, String.reduceEq, Nat.reduceLT, Nat.reduceLeDiff, Nat.reduceAdd, Nat.reduceMul, Nat.reduceSub, Nat.reduceBEq, reduceCtorEq, *, -hp, -hpi]
 | with_reducible refine fun (bn : Bool) hbn => ?_))
      all_goals ((repeat clear hK); (repeat clear hA); (repeat clear hB))
      rw [if_neg (by simp [hb])] at f2
      (refine hM.on (xs.length - (i + 1)) (by omega) (by simp only [go_sem, ↓reduceIte, reduceIte, Nat.reduceEqDiff, String.reduceEq, Nat.reduceLT, Nat.reduceLeDiff, Nat.reduceAdd, Nat.reduceMul, Nat.reduceSub, Nat.reduceBEq, reduceCtorEq, *, w64_nat hlt hl, -f2, -hp, -hpi]) ⟨i + 1, rfl, by omega, f2, ?_⟩; simp only [go_sem, ↓reduceIte, reduceIte, Nat.reduceEqDiff, String.reduceEq, Nat.reduceLT, Nat.reduceLeDiff, Nat.reduceAdd, Nat.reduceMul, Nat.reduceSub, Nat.reduceBEq, reduceCtorEq, *, w64_nat hlt hl, -f2, -hp, -hpi]; done)
    · rw [List.drop_eq_nil_of_le (by omega), idxF] at f2
      (repeat' (first
 | (with_reducible first | assumption | (refine NxK.out hK _ ?_; clear hK K) | refine NxK.out (by assumption) _ ?_ | refine Nx.out (by assumption) ?_ | refine SpecC.seqW fun K hK => ?_ | refine SpecC.regW T fun K hK => ?_ | refine SpecC.condW fun A B hA hB => ?_ | refine SpecC.block ?_ | refine SpecC.skip ?_ | refine SpecC.label ?_ | refine SpecC.exit ?_ | refine SpecC.goto ?_ | refine SpecC.ret ?_)
 | ((with_reducible first | refine condK.split (fun hb => ?_) (fun hb => ?_) | refine gK.split_t (fun hb => ?_) (fun hb => ?_) | refine gK.split_f (fun hb => ?_) (fun hb => ?_)) <;> try simp only [decide_not, ilt_t, ilt_f, ile_t, ile_f, nlt_t, nlt_f, nle_t, nle_f, Bool.not_eq_true', Bool.not_eq_false', Int.ofNat_lt, Int.ofNat_le] at hb)
 | simp only [go_sem, ↓reduceIte, reduceIte, Nat.reduceEqDiff, String.reduceEq, Nat.reduceLT, Nat.reduceLeDiff, Nat.reduceAdd, Nat.reduceMul, Nat.reduceSub, Nat.reduceBEq, reduceCtorEq, *, -hp]
 | with_reducible refine fun (bn : Bool) hbn => ?_))
set_option maxRecDepth 30000 in
theorem conFR_c (fn : FuncId) (caps : List AV) (hc : Caps caps) (p : Rule → Bool) (xs : List Rule) (hp : ∀ x ∈ xs, CallR Tryz.prog fn (.agg [.str x.host, .str x.pfx, .slice false (avs x.split)] :: caps) (.val (.bool (p x)))) (hl : Small xs.length) : CallR Tryz.prog 190 [.slice false (avs xs), .clo (.func fn) [] caps] (.val (.bool (xs.any p))) := by
  have hca := hc.args
  have hcp := hc.pure
  have hcn := hc.nrm
  have hi := idxFR_c fn caps hc p xs hp hl
  have ha := idxF_any p xs
  refine CallR.go2 (T := T) Tryz.call190 Tryz.func190 rfl Tryz.ntmps190 (congrArg Array.toList Tryz.results190) (by decide) fun ts hn h0 h1 => ?_
  (repeat' (first
 | (with_reducible first | refine callX.by (hi) ?_ | refine callX.by (idxFR_c _ _ ?_ _ _ ?_ ?_) ?_ | assumption | (refine NxK.out hK _ ?_; clear hK K) | refine NxK.out (by assumption) _ ?_ | refine Nx.out (by assumption) ?_ | refine SpecC.seqW fun K hK => ?_ | refine SpecC.regW T fun K hK => ?_ | refine SpecC.condW fun A B hA hB => ?_ | refine SpecC.block ?_ | refine SpecC.skip ?_ | refine SpecC.label ?_ | refine SpecC.exit ?_ | refine SpecC.goto ?_ | refine SpecC.ret ?_)
 | ((with_reducible first | refine condK.split (fun hb => ?_) (fun hb => ?_) | refine gK.split_t (fun hb => ?_) (fun hb => ?_) | refine gK.split_f (fun hb => ?_) (fun hb => ?_)) <;> try simp only [decide_not, ilt_t, ilt_f, ile_t, ile_f, nlt_t, nlt_f, nle_t, nle_f, Bool.not_eq_true', Bool.not_eq_false', Int.ofNat_lt, Int.ofNat_le] at hb)
 | simp only [go_sem, ↓reduceIte, reduceIte, Nat.reduceEqDiff, String.reduceEq, Nat.reduceLT, Nat.reduceLeDiff, Nat.reduceAdd, Nat.reduceMul, Nat.reduceSub, Nat.reduceBEq, reduceCtorEq, *, -hp, -hi]
 | with_reducible refine fun (bn : Bool) hbn => ?_))
end closures
def wIn (n most : Int) : Bool := decide (0 ≤ n) && decide (n ≤ most)
set_option maxRecDepth 30000 in
theorem wIn_c (n most : Int) : CallR Tryz.prog 138 [.int .i64 n, .int .i64 most] (.val (.bool (wIn n most))) := by
  refine CallR.go2 (T := T) Tryz.call138 Tryz.func138 rfl Tryz.ntmps138 (congrArg Array.toList Tryz.results138) (by decide) fun ts hn h0 h1 => ?_
  (repeat' (first
 | (with_reducible first | assumption | (refine NxK.out hK _ ?_; clear hK K) | refine NxK.out (by assumption) _ ?_ | refine Nx.out (by assumption) ?_ | refine SpecC.seqW fun K hK => ?_ | refine SpecC.regW T fun K hK => ?_ | refine SpecC.condW fun A B hA hB => ?_ | refine SpecC.block ?_ | refine SpecC.skip ?_ | refine SpecC.label ?_ | refine SpecC.exit ?_ | refine SpecC.goto ?_ | refine SpecC.ret ?_)
 | ((with_reducible first | refine condK.split (fun hb => ?_) (fun hb => ?_) | refine gK.split_t (fun hb => ?_) (fun hb => ?_) | refine gK.split_f (fun hb => ?_) (fun hb => ?_)) <;> try simp only [decide_not, ilt_t, ilt_f, ile_t, ile_f, nlt_t, nlt_f, nle_t, nle_f, Bool.not_eq_true', Bool.not_eq_false', Int.ofNat_lt, Int.ofNat_le] at hb)
 | simp only [go_sem, ↓reduceIte, reduceIte, Nat.reduceEqDiff, String.reduceEq, Nat.reduceLT, Nat.reduceLeDiff, Nat.reduceAdd, Nat.reduceMul, Nat.reduceSub, Nat.reduceBEq, reduceCtorEq, *]
 | with_reducible refine fun (bn : Bool) hbn => ?_))
  all_goals ((repeat clear hK); (repeat clear hA); (repeat clear hB))
  all_goals (simp only [wIn]; rw [Bool.eq_iff_iff]; simp only [Bool.and_eq_true, Bool.or_eq_true, Bool.not_eq_true', Bool.false_eq_true, decide_eq_true_eq, decide_eq_false_iff_not, true_and, and_true, true_iff, false_iff, iff_true, iff_false, true_or, or_true, false_or, or_false] at *; omega)
set_option maxRecDepth 30000 in
theorem small1_c (w_cluster : List UInt8) (w_w : Int) : CallR Tryz.prog 187 [.agg [.str w_cluster, .int .i64 w_w]] (.val (.bool (!wIn w_w 100))) := by
  refine CallR.go1 (T := T) Tryz.call187 Tryz.func187 rfl Tryz.ntmps187 (congrArg Array.toList Tryz.results187) (by decide) fun ts hn h0 => ?_
  (repeat' (first
 | (with_reducible first | refine callX.by (wIn_c _ _) ?_ | assumption | (refine NxK.out hK _ ?_; clear hK K) | refine NxK.out (by assumption) _ ?_ | refine Nx.out (by assumption) ?_ | refine SpecC.seqW fun K hK => ?_ | refine SpecC.regW T fun K hK => ?_ | refine SpecC.condW fun A B hA hB => ?_ | refine SpecC.block ?_ | refine SpecC.skip ?_ | refine SpecC.label ?_ | refine SpecC.exit ?_ | refine SpecC.goto ?_ | refine SpecC.ret ?_)
 | ((with_reducible first | refine condK.split (fun hb => ?_) (fun hb => ?_) | refine gK.split_t (fun hb => ?_) (fun hb => ?_) | refine gK.split_f (fun hb => ?_) (fun hb => ?_)) <;> try simp only [decide_not, ilt_t, ilt_f, ile_t, ile_f, nlt_t, nlt_f, nle_t, nle_f, Bool.not_eq_true', Bool.not_eq_false', Int.ofNat_lt, Int.ofNat_le] at hb)
 | simp only [go_sem, ↓reduceIte, reduceIte, Nat.reduceEqDiff, String.reduceEq, Nat.reduceLT, Nat.reduceLeDiff, Nat.reduceAdd, Nat.reduceMul, Nat.reduceSub, Nat.reduceBEq, reduceCtorEq, *]
 | with_reducible refine fun (bn : Bool) hbn => ?_))
set_option maxRecDepth 30000 in
theorem rule1_c (w_cluster : List UInt8) (w_w : Int) : CallR Tryz.prog 221 [.agg [.str w_cluster, .int .i64 w_w]] (.val (.bool (!nmOk w_cluster))) := by
  refine CallR.go1 (T := T) Tryz.call221 Tryz.func221 rfl Tryz.ntmps221 (congrArg Array.toList Tryz.results221) (by decide) fun ts hn h0 => ?_
  (repeat' (first
 | (with_reducible first | refine callX.by (nmOk_c _) ?_ | assumption | (refine NxK.out hK _ ?_; clear hK K) | refine NxK.out (by assumption) _ ?_ | refine Nx.out (by assumption) ?_ | refine SpecC.seqW fun K hK => ?_ | refine SpecC.regW T fun K hK => ?_ | refine SpecC.condW fun A B hA hB => ?_ | refine SpecC.block ?_ | refine SpecC.skip ?_ | refine SpecC.label ?_ | refine SpecC.exit ?_ | refine SpecC.goto ?_ | refine SpecC.ret ?_)
 | ((with_reducible first | refine condK.split (fun hb => ?_) (fun hb => ?_) | refine gK.split_t (fun hb => ?_) (fun hb => ?_) | refine gK.split_f (fun hb => ?_) (fun hb => ?_)) <;> try simp only [decide_not, ilt_t, ilt_f, ile_t, ile_f, nlt_t, nlt_f, nle_t, nle_f, Bool.not_eq_true', Bool.not_eq_false', Int.ofNat_lt, Int.ofNat_le] at hb)
 | simp only [go_sem, ↓reduceIte, reduceIte, Nat.reduceEqDiff, String.reduceEq, Nat.reduceLT, Nat.reduceLeDiff, Nat.reduceAdd, Nat.reduceMul, Nat.reduceSub, Nat.reduceBEq, reduceCtorEq, *]
 | with_reducible refine fun (bn : Bool) hbn => ?_))
set_option maxRecDepth 30000 in
theorem weighs1_c (w_cluster : List UInt8) (w_w : Int) : CallR Tryz.prog 222 [.agg [.str w_cluster, .int .i64 w_w]] (.val (.bool (decide (0 < w_w)))) := by
  refine CallR.go1 (T := T) Tryz.call222 Tryz.func222 rfl Tryz.ntmps222 (congrArg Array.toList Tryz.results222) (by decide) fun ts hn h0 => ?_
  (repeat' (first
 | (with_reducible first | assumption | (refine NxK.out hK _ ?_; clear hK K) | refine NxK.out (by assumption) _ ?_ | refine Nx.out (by assumption) ?_ | refine SpecC.seqW fun K hK => ?_ | refine SpecC.regW T fun K hK => ?_ | refine SpecC.condW fun A B hA hB => ?_ | refine SpecC.block ?_ | refine SpecC.skip ?_ | refine SpecC.label ?_ | refine SpecC.exit ?_ | refine SpecC.goto ?_ | refine SpecC.ret ?_)
 | ((with_reducible first | refine condK.split (fun hb => ?_) (fun hb => ?_) | refine gK.split_t (fun hb => ?_) (fun hb => ?_) | refine gK.split_f (fun hb => ?_) (fun hb => ?_)) <;> try simp only [decide_not, ilt_t, ilt_f, ile_t, ile_f, nlt_t, nlt_f, nle_t, nle_f, Bool.not_eq_true', Bool.not_eq_false', Int.ofNat_lt, Int.ofNat_le] at hb)
 | simp only [go_sem, ↓reduceIte, reduceIte, Nat.reduceEqDiff, String.reduceEq, Nat.reduceLT, Nat.reduceLeDiff, Nat.reduceAdd, Nat.reduceMul, Nat.reduceSub, Nat.reduceBEq, reduceCtorEq, *]
 | with_reducible refine fun (bn : Bool) hbn => ?_))
def weighsR (x : Rule) : Bool := x.split.any fun w => decide (0 < w.w)
set_option maxRecDepth 30000 in
theorem weighs_c (x_host : List UInt8) (x_pfx : List UInt8) (x_split : List Weight) (hl : Small x_split.length) : CallR Tryz.prog 194 [.agg [.str x_host, .str x_pfx, .slice false (avs x_split)]] (.val (.bool (weighsR (⟨x_host, x_pfx, x_split⟩ : Rule)))) := by
  have h := conFW_c 222 [] Caps.nil (fun w => decide (0 < w.w)) x_split (fun w _ => weighs1_c w.cluster w.w) hl
  refine CallR.go1 (T := T) Tryz.call194 Tryz.func194 rfl Tryz.ntmps194 (congrArg Array.toList Tryz.results194) (by decide) fun ts hn h0 => ?_
  (repeat' (first
 | (with_reducible first | refine callX.by (h) ?_ | refine callX.by (conFW_c _ _ ?_ _ _ ?_ ?_) ?_ | refine callX.by (weighs1_c _ _) ?_ | assumption | (refine NxK.out hK _ ?_; clear hK K) | refine NxK.out (by assumption) _ ?_ | refine Nx.out (by assumption) ?_ | refine SpecC.seqW fun K hK => ?_ | refine SpecC.regW T fun K hK => ?_ | refine SpecC.condW fun A B hA hB => ?_ | refine SpecC.block ?_ | refine SpecC.skip ?_ | refine SpecC.label ?_ | refine SpecC.exit ?_ | refine SpecC.goto ?_ | refine SpecC.ret ?_)
 | ((with_reducible first | refine condK.split (fun hb => ?_) (fun hb => ?_) | refine gK.split_t (fun hb => ?_) (fun hb => ?_) | refine gK.split_f (fun hb => ?_) (fun hb => ?_)) <;> try simp only [decide_not, ilt_t, ilt_f, ile_t, ile_f, nlt_t, nlt_f, nle_t, nle_f, Bool.not_eq_true', Bool.not_eq_false', Int.ofNat_lt, Int.ofNat_le] at hb)
 | simp only [go_sem, ↓reduceIte, reduceIte, Nat.reduceEqDiff, String.reduceEq, Nat.reduceLT, Nat.reduceLeDiff, Nat.reduceAdd, Nat.reduceMul, Nat.reduceSub, Nat.reduceBEq, reduceCtorEq, *, -h]
 | with_reducible refine fun (bn : Bool) hbn => ?_))
  all_goals rfl
def ruleOk (x : Rule) : Bool := hostOk x.host && (pthOk x.pfx && !(x.split.any fun w => !nmOk w.cluster))
set_option maxRecDepth 30000 in
theorem rule_c (x_host : List UInt8) (x_pfx : List UInt8) (x_split : List Weight) (hh : Small x_host.length) (hl : Small x_split.length) : CallR Tryz.prog 192 [.agg [.str x_host, .str x_pfx, .slice false (avs x_split)]] (.val (.bool (ruleOk (⟨x_host, x_pfx, x_split⟩ : Rule)))) := by
  have h := conFW_c 221 [] Caps.nil (fun w => !nmOk w.cluster) x_split (fun w _ => rule1_c w.cluster w.w) hl
  refine CallR.go1 (T := T) Tryz.call192 Tryz.func192 rfl Tryz.ntmps192 (congrArg Array.toList Tryz.results192) (by decide) fun ts hn h0 => ?_
  (repeat' (first
 | (with_reducible first | refine callX.by (h) ?_ | refine callX.by (hostOk_c _ ?_) ?_ | refine callX.by (pthOk_c _) ?_ | refine callX.by (conFW_c _ _ ?_ _ _ ?_ ?_) ?_ | refine callX.by (rule1_c _ _) ?_ | assumption | (refine NxK.out hK _ ?_; clear hK K) | refine NxK.out (by assumption) _ ?_ | refine Nx.out (by assumption) ?_ | refine SpecC.seqW fun K hK => ?_ | refine SpecC.regW T fun K hK => ?_ | refine SpecC.condW fun A B hA hB => ?_ | refine SpecC.block ?_ | refine SpecC.skip ?_ | refine SpecC.label ?_ | refine SpecC.exit ?_ | refine SpecC.goto ?_ | refine SpecC.ret ?_)
 | ((with_reducible first | refine condK.split (fun hb => ?_) (fun hb => ?_) | refine gK.split_t (fun hb => ?_) (fun hb => ?_) | refine gK.split_f (fun hb => ?_) (fun hb => ?_)) <;> try simp only [decide_not, ilt_t, ilt_f, ile_t, ile_f, nlt_t, nlt_f, nle_t, nle_f, Bool.not_eq_true', Bool.not_eq_false', Int.ofNat_lt, Int.ofNat_le] at hb)
 | simp only [go_sem, ↓reduceIte, reduceIte, Nat.reduceEqDiff, String.reduceEq, Nat.reduceLT, Nat.reduceLeDiff, Nat.reduceAdd, Nat.reduceMul, Nat.reduceSub, Nat.reduceBEq, reduceCtorEq, *, -h]
 | with_reducible refine fun (bn : Bool) hbn => ?_))
  all_goals ((repeat clear hK); (repeat clear hA); (repeat clear hB))
  all_goals (clear h; simp_all [ruleOk])
set_option maxRecDepth 30000 in
theorem named1_c (x_host : List UInt8) (x_pfx : List UInt8) (x_split : List Weight) (hh : Small x_host.length) (hl : Small x_split.length) : CallR Tryz.prog 191 [.agg [.str x_host, .str x_pfx, .slice false (avs x_split)]] (.val (.bool (!ruleOk (⟨x_host, x_pfx, x_split⟩ : Rule)))) := by
  refine CallR.go1 (T := T) Tryz.call191 Tryz.func191 rfl Tryz.ntmps191 (congrArg Array.toList Tryz.results191) (by decide) fun ts hn h0 => ?_
  (repeat' (first
 | (with_reducible first | refine callX.by (rule_c _ _ _ ?_ ?_) ?_ | assumption | (refine NxK.out hK _ ?_; clear hK K) | refine NxK.out (by assumption) _ ?_ | refine Nx.out (by assumption) ?_ | refine SpecC.seqW fun K hK => ?_ | refine SpecC.regW T fun K hK => ?_ | refine SpecC.condW fun A B hA hB => ?_ | refine SpecC.block ?_ | refine SpecC.skip ?_ | refine SpecC.label ?_ | refine SpecC.exit ?_ | refine SpecC.goto ?_ | refine SpecC.ret ?_)
 | ((with_reducible first | refine condK.split (fun hb => ?_) (fun hb => ?_) | refine gK.split_t (fun hb => ?_) (fun hb => ?_) | refine gK.split_f (fun hb => ?_) (fun hb => ?_)) <;> try simp only [decide_not, ilt_t, ilt_f, ile_t, ile_f, nlt_t, nlt_f, nle_t, nle_f, Bool.not_eq_true', Bool.not_eq_false', Int.ofNat_lt, Int.ofNat_le] at hb)
 | simp only [go_sem, ↓reduceIte, reduceIte, Nat.reduceEqDiff, String.reduceEq, Nat.reduceLT, Nat.reduceLeDiff, Nat.reduceAdd, Nat.reduceMul, Nat.reduceSub, Nat.reduceBEq, reduceCtorEq, *]
 | with_reducible refine fun (bn : Bool) hbn => ?_))
set_option maxRecDepth 30000 in
theorem may_c (k : Int) : CallR Tryz.prog 189 [.int .i64 k] (.val (.agg [.bool (decide (k = 0)), .bool (decide (k = 0) || decide (k = 2)), .bool (decide (k = 1)), .bool (decide (k = 3))])) := by
  refine CallR.go1 (T := T) Tryz.call189 Tryz.func189 rfl Tryz.ntmps189 (congrArg Array.toList Tryz.results189) (by decide) fun ts hn h0 => ?_
  (repeat' (first
 | (with_reducible first | assumption | (refine NxK.out hK _ ?_; clear hK K) | refine NxK.out (by assumption) _ ?_ | refine Nx.out (by assumption) ?_ | refine SpecC.seqW fun K hK => ?_ | refine SpecC.regW T fun K hK => ?_ | refine SpecC.condW fun A B hA hB => ?_ | refine SpecC.block ?_ | refine SpecC.skip ?_ | refine SpecC.label ?_ | refine SpecC.exit ?_ | refine SpecC.goto ?_ | refine SpecC.ret ?_)
 | ((with_reducible first | refine condK.split (fun hb => ?_) (fun hb => ?_) | refine gK.split_t (fun hb => ?_) (fun hb => ?_) | refine gK.split_f (fun hb => ?_) (fun hb => ?_)) <;> try simp only [decide_not, ilt_t, ilt_f, ile_t, ile_f, nlt_t, nlt_f, nle_t, nle_f, Bool.not_eq_true', Bool.not_eq_false', Int.ofNat_lt, Int.ofNat_le] at hb)
 | simp only [go_sem, ↓reduceIte, reduceIte, Nat.reduceEqDiff, String.reduceEq, Nat.reduceLT, Nat.reduceLeDiff, Nat.reduceAdd, Nat.reduceMul, Nat.reduceSub, Nat.reduceBEq, reduceCtorEq, *]
 | with_reducible refine fun (bn : Bool) hbn => ?_))
  all_goals ((repeat clear hK); (repeat clear hA); (repeat clear hB))
  all_goals simp_all
def namedR (r : Res) : Bool := !((decide (r.kind = 0) || decide (r.kind = 2)) && !nmOk r.to') && !(r.rules'.any fun x => !ruleOk x)
set_option maxRecDepth 30000 in
theorem named_c (r_kind : Int) (r_name : List UInt8) (r_ver : Int) (r_port : Int) (r_to : List UInt8) (r_rules : List Rule) (r_hosts : List Int) (hl : Small r_rules.length) (hs : ∀ x ∈ r_rules, SmRule x) : CallR Tryz.prog 142 [.agg [.int .i64 r_kind, .str r_name, .int .i64 r_ver, .int .i64 r_port, .str r_to, .slice false (avs r_rules), .slice false (avs r_hosts)]] (.val (.bool (namedR (⟨r_kind, r_name, r_ver, r_port, r_to, r_rules, r_hosts⟩ : Res)))) := by
  have h := conFR_c 191 [] Caps.nil (fun x => !ruleOk x) r_rules (fun x hx => named1_c x.host x.pfx x.split (hs x hx).1 (hs x hx).2.2.1) hl
  refine CallR.go1 (T := T) Tryz.call142 Tryz.func142 rfl Tryz.ntmps142 (congrArg Array.toList Tryz.results142) (by decide) fun ts hn h0 => ?_
  (repeat' (first
 | (with_reducible first | refine callX.by (h) ?_ | refine callX.by (may_c _) ?_ | refine callX.by (nmOk_c _) ?_ | refine callX.by (conFR_c _ _ ?_ _ _ ?_ ?_) ?_ | refine callX.by (named1_c _ _ _ ?_ ?_) ?_ | assumption | (refine NxK.out hK _ ?_; clear hK K) | refine NxK.out (by assumption) _ ?_ | refine Nx.out (by assumption) ?_ | refine SpecC.seqW fun K hK => ?_ | refine SpecC.regW T fun K hK => ?_ | refine SpecC.condW fun A B hA hB => ?_ | refine SpecC.block ?_ | refine SpecC.skip ?_ | refine SpecC.label ?_ | refine SpecC.exit ?_ | refine SpecC.goto ?_ | refine SpecC.ret ?_)
 | ((with_reducible first | refine condK.split (fun hb => ?_) (fun hb => ?_) | refine gK.split_t (fun hb => ?_) (fun hb => ?_) | refine gK.split_f (fun hb => ?_) (fun hb => ?_)) <;> try simp only [decide_not, ilt_t, ilt_f, ile_t, ile_f, nlt_t, nlt_f, nle_t, nle_f, Bool.not_eq_true', Bool.not_eq_false', Int.ofNat_lt, Int.ofNat_le] at hb)
 | simp only [go_sem, ↓reduceIte, reduceIte, Nat.reduceEqDiff, String.reduceEq, Nat.reduceLT, Nat.reduceLeDiff, Nat.reduceAdd, Nat.reduceMul, Nat.reduceSub, Nat.reduceBEq, reduceCtorEq, *, -h]
 | with_reducible refine fun (bn : Bool) hbn => ?_))
  all_goals ((repeat clear hK); (repeat clear hA); (repeat clear hB))
  all_goals (clear h hs; simp_all [namedR])
  all_goals (intros; omega)
end Go.Proofs.YtndnkbekhmndhaaGreatDoor.Lg

namespace Go.Proofs.YtndnkbekhmndhaaGreatDoor.Lg
set_option maxRecDepth 100000
set_option linter.unusedVariables false
set_option linter.unusedSimpArgs false
open Go
set_option maxRecDepth 30000 in
theorem cutPfx1_c (s p : List UInt8) : CallR Tryz.prog 231 [.str s, .str p] (.val (.tup [.str (trimPfx s p), .bool (hasPfx s p)])) := by
  by_cases hp : hasPfx s p = true
  · have hle : p.length ≤ s.length := by
      have := hp
      simp only [hasPfx, Bool.and_eq_true, decide_eq_true_eq] at this
      exact this.1
    have ht : (s.drop p.length).take (s.length - p.length) = s.drop p.length := List.take_of_length_le (by simp)
    refine CallR.go2 (T := T) Tryz.call231 Tryz.func231 rfl Tryz.ntmps231 (congrArg Array.toList Tryz.results231) (by decide) fun ts hn h0 h1 => ?_
    (repeat' (first
 | (with_reducible first | refine callX.by (hasPfx1_c _ _) ?_ | assumption | (refine NxK.out hK _ ?_; clear hK K) | refine NxK.out (by assumption) _ ?_ | refine Nx.out (by assumption) ?_ | refine SpecC.seqW fun K hK => ?_ | refine SpecC.regW T fun K hK => ?_ | refine SpecC.condW fun A B hA hB => ?_ | refine SpecC.block ?_ | refine SpecC.skip ?_ | refine SpecC.label ?_ | refine SpecC.exit ?_ | refine SpecC.goto ?_ | refine SpecC.ret ?_)
 | ((with_reducible first | refine condK.split (fun hb => ?_) (fun hb => ?_) | refine gK.split_t (fun hb => ?_) (fun hb => ?_) | refine gK.split_f (fun hb => ?_) (fun hb => ?_)) <;> try simp only [decide_not, ilt_t, ilt_f, ile_t, ile_f, nlt_t, nlt_f, nle_t, nle_f, Bool.not_eq_true', Bool.not_eq_false', Int.ofNat_lt, Int.ofNat_le] at hb)
 | simp only [go_sem, ↓reduceIte, reduceIte, Nat.reduceEqDiff, String.reduceEq, Nat.reduceLT, Nat.reduceLeDiff, Nat.reduceAdd, Nat.reduceMul, Nat.reduceSub, Nat.reduceBEq, reduceCtorEq, *]
 | with_reducible refine fun (bn : Bool) hbn => ?_))
    all_goals ((repeat clear hK); (repeat clear hA); (repeat clear hB))
    all_goals simp [trimPfx, hp]
  · have hp' : hasPfx s p = false := by simpa using hp
    refine CallR.go2 (T := T) Tryz.call231 Tryz.func231 rfl Tryz.ntmps231 (congrArg Array.toList Tryz.results231) (by decide) fun ts hn h0 h1 => ?_
    (repeat' (first
 | (with_reducible first | refine callX.by (hasPfx1_c _ _) ?_ | assumption | (refine NxK.out hK _ ?_; clear hK K) | refine NxK.out (by assumption) _ ?_ | refine Nx.out (by assumption) ?_ | refine SpecC.seqW fun K hK => ?_ | refine SpecC.regW T fun K hK => ?_ | refine SpecC.condW fun A B hA hB => ?_ | refine SpecC.block ?_ | refine SpecC.skip ?_ | refine SpecC.label ?_ | refine SpecC.exit ?_ | refine SpecC.goto ?_ | refine SpecC.ret ?_)
 | ((with_reducible first | refine condK.split (fun hb => ?_) (fun hb => ?_) | refine gK.split_t (fun hb => ?_) (fun hb => ?_) | refine gK.split_f (fun hb => ?_) (fun hb => ?_)) <;> try simp only [decide_not, ilt_t, ilt_f, ile_t, ile_f, nlt_t, nlt_f, nle_t, nle_f, Bool.not_eq_true', Bool.not_eq_false', Int.ofNat_lt, Int.ofNat_le] at hb)
 | simp only [go_sem, ↓reduceIte, reduceIte, Nat.reduceEqDiff, String.reduceEq, Nat.reduceLT, Nat.reduceLeDiff, Nat.reduceAdd, Nat.reduceMul, Nat.reduceSub, Nat.reduceBEq, reduceCtorEq, *]
 | with_reducible refine fun (bn : Bool) hbn => ?_))
    all_goals ((repeat clear hK); (repeat clear hA); (repeat clear hB))
    all_goals simp [trimPfx, hp']
set_option maxRecDepth 30000 in
theorem cutPfx_c (s p : List UInt8) : CallR Tryz.prog 209 [.str s, .str p] (.val (.tup [.str (trimPfx s p), .bool (hasPfx s p)])) := by
  refine CallR.go2 (T := T) Tryz.call209 Tryz.func209 rfl Tryz.ntmps209 (congrArg Array.toList Tryz.results209) (by decide) fun ts hn h0 h1 => ?_
  (repeat' (first
 | (with_reducible first | refine callX.by (cutPfx1_c _ _) ?_ | assumption | (refine NxK.out hK _ ?_; clear hK K) | refine NxK.out (by assumption) _ ?_ | refine Nx.out (by assumption) ?_ | refine SpecC.seqW fun K hK => ?_ | refine SpecC.regW T fun K hK => ?_ | refine SpecC.condW fun A B hA hB => ?_ | refine SpecC.block ?_ | refine SpecC.skip ?_ | refine SpecC.label ?_ | refine SpecC.exit ?_ | refine SpecC.goto ?_ | refine SpecC.ret ?_)
 | ((with_reducible first | refine condK.split (fun hb => ?_) (fun hb => ?_) | refine gK.split_t (fun hb => ?_) (fun hb => ?_) | refine gK.split_f (fun hb => ?_) (fun hb => ?_)) <;> try simp only [decide_not, ilt_t, ilt_f, ile_t, ile_f, nlt_t, nlt_f, nle_t, nle_f, Bool.not_eq_true', Bool.not_eq_false', Int.ofNat_lt, Int.ofNat_le] at hb)
 | simp only [go_sem, ↓reduceIte, reduceIte, Nat.reduceEqDiff, String.reduceEq, Nat.reduceLT, Nat.reduceLeDiff, Nat.reduceAdd, Nat.reduceMul, Nat.reduceSub, Nat.reduceBEq, reduceCtorEq, *]
 | with_reducible refine fun (bn : Bool) hbn => ?_))
def hasSfx (s p : List UInt8) : Bool := decide (p.length ≤ s.length) && decide (s.drop (s.length - p.length) = p)
set_option maxRecDepth 30000 in
theorem hasSfx1_c (s p : List UInt8) (hl : Small s.length) : CallR Tryz.prog 232 [.str s, .str p] (.val (.bool (hasSfx s p))) := by
  by_cases hle : p.length ≤ s.length
  · have hw : IntKind.i64.wrap ((s.length : Int) - (p.length : Int)) = ((s.length - p.length : Nat) : Int) := by
      rw [show (s.length : Int) - (p.length : Int) = ((s.length - p.length : Nat) : Int) by omega]; exact IntWalk.i64_in _ (by unfold Small at hl; omega)
    have ht : (s.drop (s.length - p.length)).take (s.length - (s.length - p.length)) = s.drop (s.length - p.length) := List.take_of_length_le (by simp)
    have h1 : s.length - p.length ≤ s.length := by omega
    refine CallR.go2 (T := T) Tryz.call232 Tryz.func232 rfl Tryz.ntmps232 (congrArg Array.toList Tryz.results232) (by decide) fun ts hn h0 h1 => ?_
    (repeat' (first
 | (with_reducible first | assumption | (refine NxK.out hK _ ?_; clear hK K) | refine NxK.out (by assumption) _ ?_ | refine Nx.out (by assumption) ?_ | refine SpecC.seqW fun K hK => ?_ | refine SpecC.regW T fun K hK => ?_ | refine SpecC.condW fun A B hA hB => ?_ | refine SpecC.block ?_ | refine SpecC.skip ?_ | refine SpecC.label ?_ | refine SpecC.exit ?_ | refine SpecC.goto ?_ | refine SpecC.ret ?_)
 | ((with_reducible first | refine condK.split (fun hb => ?_) (fun hb => ?_) | refine gK.split_t (fun hb => ?_) (fun hb => ?_) | refine gK.split_f (fun hb => ?_) (fun hb => ?_)) <;> try simp only [decide_not, ilt_t, ilt_f, ile_t, ile_f, nlt_t, nlt_f, nle_t, nle_f, Bool.not_eq_true', Bool.not_eq_false', Int.ofNat_lt, Int.ofNat_le] at hb)
 | simp only [go_sem, ↓reduceIte, reduceIte, Nat.reduceEqDiff, String.reduceEq, Nat.reduceLT, Nat.reduceLeDiff, Nat.reduceAdd, Nat.reduceMul, Nat.reduceSub, Nat.reduceBEq, reduceCtorEq, *]
 | with_reducible refine fun (bn : Bool) hbn => ?_))
    all_goals ((repeat clear hK); (repeat clear hA); (repeat clear hB))
    all_goals simp [hasSfx, hle]
  · refine CallR.go2 (T := T) Tryz.call232 Tryz.func232 rfl Tryz.ntmps232 (congrArg Array.toList Tryz.results232) (by decide) fun ts hn h0 h1 => ?_
    (repeat' (first
 | (with_reducible first | assumption | (refine NxK.out hK _ ?_; clear hK K) | refine NxK.out (by assumption) _ ?_ | refine Nx.out (by assumption) ?_ | refine SpecC.seqW fun K hK => ?_ | refine SpecC.regW T fun K hK => ?_ | refine SpecC.condW fun A B hA hB => ?_ | refine SpecC.block ?_ | refine SpecC.skip ?_ | refine SpecC.label ?_ | refine SpecC.exit ?_ | refine SpecC.goto ?_ | refine SpecC.ret ?_)
 | ((with_reducible first | refine condK.split (fun hb => ?_) (fun hb => ?_) | refine gK.split_t (fun hb => ?_) (fun hb => ?_) | refine gK.split_f (fun hb => ?_) (fun hb => ?_)) <;> try simp only [decide_not, ilt_t, ilt_f, ile_t, ile_f, nlt_t, nlt_f, nle_t, nle_f, Bool.not_eq_true', Bool.not_eq_false', Int.ofNat_lt, Int.ofNat_le] at hb)
 | simp only [go_sem, ↓reduceIte, reduceIte, Nat.reduceEqDiff, String.reduceEq, Nat.reduceLT, Nat.reduceLeDiff, Nat.reduceAdd, Nat.reduceMul, Nat.reduceSub, Nat.reduceBEq, reduceCtorEq, *]
 | with_reducible refine fun (bn : Bool) hbn => ?_))
    all_goals ((repeat clear hK); (repeat clear hA); (repeat clear hB))
    all_goals simp [hasSfx, hle]
set_option maxRecDepth 30000 in
theorem hasSfx_c (s p : List UInt8) (hl : Small s.length) : CallR Tryz.prog 210 [.str s, .str p] (.val (.bool (hasSfx s p))) := by
  refine CallR.go2 (T := T) Tryz.call210 Tryz.func210 rfl Tryz.ntmps210 (congrArg Array.toList Tryz.results210) (by decide) fun ts hn h0 h1 => ?_
  (repeat' (first
 | (with_reducible first | refine callX.by (hasSfx1_c _ _ ?_) ?_ | assumption | (refine NxK.out hK _ ?_; clear hK K) | refine NxK.out (by assumption) _ ?_ | refine Nx.out (by assumption) ?_ | refine SpecC.seqW fun K hK => ?_ | refine SpecC.regW T fun K hK => ?_ | refine SpecC.condW fun A B hA hB => ?_ | refine SpecC.block ?_ | refine SpecC.skip ?_ | refine SpecC.label ?_ | refine SpecC.exit ?_ | refine SpecC.goto ?_ | refine SpecC.ret ?_)
 | ((with_reducible first | refine condK.split (fun hb => ?_) (fun hb => ?_) | refine gK.split_t (fun hb => ?_) (fun hb => ?_) | refine gK.split_f (fun hb => ?_) (fun hb => ?_)) <;> try simp only [decide_not, ilt_t, ilt_f, ile_t, ile_f, nlt_t, nlt_f, nle_t, nle_f, Bool.not_eq_true', Bool.not_eq_false', Int.ofNat_lt, Int.ofNat_le] at hb)
 | simp only [go_sem, ↓reduceIte, reduceIte, Nat.reduceEqDiff, String.reduceEq, Nat.reduceLT, Nat.reduceLeDiff, Nat.reduceAdd, Nat.reduceMul, Nat.reduceSub, Nat.reduceBEq, reduceCtorEq, *]
 | with_reducible refine fun (bn : Bool) hbn => ?_))
def widthS (s : List UInt8) : Int := if s = [42] then 0 else if hasPfx s [42, 46] = true then s.length else 9223372036854775807
set_option maxRecDepth 30000 in
theorem width_c (s : List UInt8) : CallR Tryz.prog 233 [.str s] (.val (.int .i64 (widthS s))) := by
  refine CallR.go1 (T := T) Tryz.call233 Tryz.func233 rfl Tryz.ntmps233 (congrArg Array.toList Tryz.results233) (by decide) fun ts hn h0 => ?_
  (repeat' (first
 | (with_reducible first | refine callX.by (hasPfx_c _ _) ?_ | assumption | (refine NxK.out hK _ ?_; clear hK K) | refine NxK.out (by assumption) _ ?_ | refine Nx.out (by assumption) ?_ | refine SpecC.seqW fun K hK => ?_ | refine SpecC.regW T fun K hK => ?_ | refine SpecC.condW fun A B hA hB => ?_ | refine SpecC.block ?_ | refine SpecC.skip ?_ | refine SpecC.label ?_ | refine SpecC.exit ?_ | refine SpecC.goto ?_ | refine SpecC.ret ?_)
 | ((with_reducible first | refine condK.split (fun hb => ?_) (fun hb => ?_) | refine gK.split_t (fun hb => ?_) (fun hb => ?_) | refine gK.split_f (fun hb => ?_) (fun hb => ?_)) <;> try simp only [decide_not, ilt_t, ilt_f, ile_t, ile_f, nlt_t, nlt_f, nle_t, nle_f, Bool.not_eq_true', Bool.not_eq_false', Int.ofNat_lt, Int.ofNat_le] at hb)
 | simp only [go_sem, ↓reduceIte, reduceIte, Nat.reduceEqDiff, String.reduceEq, Nat.reduceLT, Nat.reduceLeDiff, Nat.reduceAdd, Nat.reduceMul, Nat.reduceSub, Nat.reduceBEq, reduceCtorEq, *]
 | with_reducible refine fun (bn : Bool) hbn => ?_))
  all_goals ((repeat clear hK); (repeat clear hA); (repeat clear hB))
  all_goals simp_all [widthS]
set_option maxRecDepth 30000 in
theorem narrow_c (a b : List UInt8) : CallR Tryz.prog 212 [.str a, .str b] (.val (.int .i64 (icmp (widthS a) (widthS b)))) := by
  refine CallR.go2 (T := T) Tryz.call212 Tryz.func212 rfl Tryz.ntmps212 (congrArg Array.toList Tryz.results212) (by decide) fun ts hn h0 h1 => ?_
  (repeat' (first
 | (with_reducible first | refine callX.by (width_c _) ?_ | refine callX.by (icmp_c _ _) ?_ | assumption | (refine NxK.out hK _ ?_; clear hK K) | refine NxK.out (by assumption) _ ?_ | refine Nx.out (by assumption) ?_ | refine SpecC.seqW fun K hK => ?_ | refine SpecC.regW T fun K hK => ?_ | refine SpecC.condW fun A B hA hB => ?_ | refine SpecC.block ?_ | refine SpecC.skip ?_ | refine SpecC.label ?_ | refine SpecC.exit ?_ | refine SpecC.goto ?_ | refine SpecC.ret ?_)
 | ((with_reducible first | refine condK.split (fun hb => ?_) (fun hb => ?_) | refine gK.split_t (fun hb => ?_) (fun hb => ?_) | refine gK.split_f (fun hb => ?_) (fun hb => ?_)) <;> try simp only [decide_not, ilt_t, ilt_f, ile_t, ile_f, nlt_t, nlt_f, nle_t, nle_f, Bool.not_eq_true', Bool.not_eq_false', Int.ofNat_lt, Int.ofNat_le] at hb)
 | simp only [go_sem, ↓reduceIte, reduceIte, Nat.reduceEqDiff, String.reduceEq, Nat.reduceLT, Nat.reduceLeDiff, Nat.reduceAdd, Nat.reduceMul, Nat.reduceSub, Nat.reduceBEq, reduceCtorEq, *]
 | with_reducible refine fun (bn : Bool) hbn => ?_))
def matchH (p h : List UInt8) : Bool := (hostOk p && (hostOk h && !hasPfx h [42])) && ((decide (p = [42]) || decide (p = h)) || (hasPfx p [42] && (decide ((trimPfx p [42]).length < h.length) && hasSfx h (trimPfx p [42]))))
set_option maxRecDepth 30000 in
theorem matches_c (p h : List UInt8) (hp : Small p.length) (hh : Small h.length) : CallR Tryz.prog 176 [.str p, .str h] (.val (.bool (matchH p h))) := by
  refine CallR.go2 (T := T) Tryz.call176 Tryz.func176 rfl Tryz.ntmps176 (congrArg Array.toList Tryz.results176) (by decide) fun ts hn h0 h1 => ?_
  (repeat' (first
 | (with_reducible first | refine callX.by (hostOk_c _ ?_) ?_ | refine callX.by (hasPfx_c _ _) ?_ | refine callX.by (cutPfx_c _ _) ?_ | refine callX.by (hasSfx_c _ _ ?_) ?_ | assumption | (refine NxK.out hK _ ?_; clear hK K) | refine NxK.out (by assumption) _ ?_ | refine Nx.out (by assumption) ?_ | refine SpecC.seqW fun K hK => ?_ | refine SpecC.regW T fun K hK => ?_ | refine SpecC.condW fun A B hA hB => ?_ | refine SpecC.block ?_ | refine SpecC.skip ?_ | refine SpecC.label ?_ | refine SpecC.exit ?_ | refine SpecC.goto ?_ | refine SpecC.ret ?_)
 | ((with_reducible first | refine condK.split (fun hb => ?_) (fun hb => ?_) | refine gK.split_t (fun hb => ?_) (fun hb => ?_) | refine gK.split_f (fun hb => ?_) (fun hb => ?_)) <;> try simp only [decide_not, ilt_t, ilt_f, ile_t, ile_f, nlt_t, nlt_f, nle_t, nle_f, Bool.not_eq_true', Bool.not_eq_false', Int.ofNat_lt, Int.ofNat_le] at hb)
 | simp only [go_sem, ↓reduceIte, reduceIte, Nat.reduceEqDiff, String.reduceEq, Nat.reduceLT, Nat.reduceLeDiff, Nat.reduceAdd, Nat.reduceMul, Nat.reduceSub, Nat.reduceBEq, reduceCtorEq, *]
 | with_reducible refine fun (bn : Bool) hbn => ?_))
  all_goals ((repeat clear hK); (repeat clear hA); (repeat clear hB))
  all_goals (simp_all [matchH]; try (intro h9; omega))
def underP (p s : List UInt8) : Bool := (hasPfx s p && (pthOk p && pthOk s)) && (decide (trimPfx s p = []) || (hasSfx p [47] || hasPfx (trimPfx s p) [47]))
set_option maxRecDepth 30000 in
theorem under_c (p s : List UInt8) (hp : Small p.length) : CallR Tryz.prog 177 [.str p, .str s] (.val (.bool (underP p s))) := by
  refine CallR.go2 (T := T) Tryz.call177 Tryz.func177 rfl Tryz.ntmps177 (congrArg Array.toList Tryz.results177) (by decide) fun ts hn h0 h1 => ?_
  (repeat' (first
 | (with_reducible first | refine callX.by (cutPfx_c _ _) ?_ | refine callX.by (pthOk_c _) ?_ | refine callX.by (hasSfx_c _ _ ?_) ?_ | refine callX.by (hasPfx_c _ _) ?_ | assumption | (refine NxK.out hK _ ?_; clear hK K) | refine NxK.out (by assumption) _ ?_ | refine Nx.out (by assumption) ?_ | refine SpecC.seqW fun K hK => ?_ | refine SpecC.regW T fun K hK => ?_ | refine SpecC.condW fun A B hA hB => ?_ | refine SpecC.block ?_ | refine SpecC.skip ?_ | refine SpecC.label ?_ | refine SpecC.exit ?_ | refine SpecC.goto ?_ | refine SpecC.ret ?_)
 | ((with_reducible first | refine condK.split (fun hb => ?_) (fun hb => ?_) | refine gK.split_t (fun hb => ?_) (fun hb => ?_) | refine gK.split_f (fun hb => ?_) (fun hb => ?_)) <;> try simp only [decide_not, ilt_t, ilt_f, ile_t, ile_f, nlt_t, nlt_f, nle_t, nle_f, Bool.not_eq_true', Bool.not_eq_false', Int.ofNat_lt, Int.ofNat_le] at hb)
 | simp only [go_sem, ↓reduceIte, reduceIte, Nat.reduceEqDiff, String.reduceEq, Nat.reduceLT, Nat.reduceLeDiff, Nat.reduceAdd, Nat.reduceMul, Nat.reduceSub, Nat.reduceBEq, reduceCtorEq, *]
 | with_reducible refine fun (bn : Bool) hbn => ?_))
  all_goals ((repeat clear hK); (repeat clear hA); (repeat clear hB))
  all_goals simp_all [underP]
end Go.Proofs.YtndnkbekhmndhaaGreatDoor.Lg
