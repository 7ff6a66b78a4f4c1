/- Parts of the proof, one behind the other. -/
import Derived.Test.YtbmdbkgjgjggiaaGreatDoorG09
namespace Go.Proofs.YtbmdbkgjgjggiaaGreatDoor.Lg
set_option linter.unusedVariables false
set_option linter.unusedSimpArgs false
open Go
def fewRule (x : Rule) : Bool := decide (x.split.length ≤ 20) && decide (x.host.length ≤ 100) && decide (x.pfx.length ≤ 100)
def fewRes (r : Res) : Bool := r.rules'.all fewRule && (decide (r.rules'.length ≤ 20) && decide (r.hosts.length ≤ 20) && decide (r.name.length ≤ 100) && decide (r.to'.length ≤ 100))
set_option maxRecDepth 30000 in
theorem fewRes_c (r_kind : Int) (r_name : List UInt8) (r_ver : Int) (r_port : Int) (r_to : List UInt8) (r_rules : List Rule) (r_hosts : List Int) (hl : Small r_rules.length) : CallR Tryz.prog 11 [.agg [.int .i64 r_kind, .str r_name, .int .i64 r_ver, .int .i64 r_port, .str r_to, .slice false (avs r_rules), .slice false (avs r_hosts)]] (.val (.bool (fewRes (⟨r_kind, r_name, r_ver, r_port, r_to, r_rules, r_hosts⟩ : Res)))) := by
  refine CallR.go1 (T := T) Tryz.call11 Tryz.func11 rfl Tryz.ntmps11 (congrArg Array.toList Tryz.results11) (by decide) fun ts hn h0 => ?_
  (repeat' (first
 | with_reducible assumption
 | (with_reducible refine NxK.out hK _ ?_; clear hK K)
 | with_reducible refine NxK.out (by assumption) _ ?_
 | with_reducible refine Nx.out (by assumption) ?_
 | with_reducible refine SpecC.seqW fun K hK => ?_
 | with_reducible refine SpecC.regW T fun K hK => ?_
 | with_reducible refine SpecC.condW fun A B hA hB => ?_
 | with_reducible refine SpecC.block ?_
 | with_reducible refine SpecC.skip ?_
 | with_reducible refine SpecC.label ?_
 | with_reducible refine SpecC.exit ?_
 | with_reducible refine SpecC.goto ?_
 | with_reducible refine SpecC.ret ?_
 | ((with_reducible first | refine condK.split (fun hb => ?_) (fun hb => ?_) | refine gK.split_t (fun hb => ?_) (fun hb => ?_) | refine gK.split_f (fun hb => ?_) (fun hb => ?_)) <;> try simp only [decide_not, ilt_t, ilt_f, ile_t, ile_f, nlt_t, nlt_f, nle_t, nle_f, Bool.not_eq_true', Bool.not_eq_false', Int.ofNat_lt, Int.ofNat_le] at hb)
 | simp only [go_sem, ↓reduceIte, reduceIte, Nat.reduceEqDiff, String.reduceEq, Nat.reduceLT, Nat.reduceLeDiff, Nat.reduceAdd, Nat.reduceMul, Nat.reduceSub, Nat.reduceBEq, reduceCtorEq, *]
 | with_reducible refine fun (bn : Bool) hbn => ?_))
  refine SpecC.loopF [1] (fun m ts' => ∃ (i : Nat), m = r_rules.length - i ∧ i ≤ r_rules.length ∧ r_rules.all fewRule = (r_rules.drop i).all fewRule ∧ ts'.tmp 3 = .int .i64 i) r_rules.length ?_ ?_
  · refine ⟨0, ?_⟩
    simp only [go_sem, ↓reduceIte, reduceIte, Nat.reduceEqDiff, String.reduceEq, Nat.reduceLT, Nat.reduceLeDiff, Nat.reduceAdd, Nat.reduceMul, Nat.reduceSub, Nat.reduceBEq, reduceCtorEq, *]
  · rintro m A hM ts' hk ⟨i, hm, f1, f2, s1⟩
    simp only [go_sem, ↓reduceIte, reduceIte, Nat.reduceEqDiff, String.reduceEq, Nat.reduceLT, Nat.reduceLeDiff, Nat.reduceAdd, Nat.reduceMul, Nat.reduceSub, Nat.reduceBEq, reduceCtorEq, *] at hk
    by_cases hlt : i < r_rules.length
    · rw [List.drop_eq_getElem_cons hlt, List.all_cons, fewRule] at f2
      (repeat' (first
 | with_reducible assumption
 | (with_reducible refine NxK.out hK _ ?_; clear hK K)
 | with_reducible refine NxK.out (by assumption) _ ?_
 | with_reducible refine Nx.out (by assumption) ?_
 | with_reducible refine SpecC.seqW fun K hK => ?_
 | with_reducible refine SpecC.regW T fun K hK => ?_
 | with_reducible refine SpecC.condW fun A B hA hB => ?_
 | with_reducible refine SpecC.block ?_
 | with_reducible refine SpecC.skip ?_
 | with_reducible refine SpecC.label ?_
 | with_reducible refine SpecC.exit ?_
 | with_reducible refine SpecC.goto ?_
 | with_reducible refine SpecC.ret ?_
 | ((with_reducible first | refine condK.split (fun hb => ?_) (fun hb => ?_) | refine gK.split_t (fun hb => ?_) (fun hb => ?_) | refine gK.split_f (fun hb => ?_) (fun hb => ?_)) <;> try simp only [decide_not, ilt_t, ilt_f, ile_t, ile_f, nlt_t, nlt_f, nle_t, nle_f, Bool.not_eq_true', Bool.not_eq_false', Int.ofNat_lt, Int.ofNat_le] at hb)
 | simp only [go_sem, ↓reduceIte, reduceIte, Nat.reduceEqDiff, String.reduceEq, Nat.reduceLT, Nat.reduceLeDiff, Nat.reduceAdd, Nat.reduceMul, Nat.reduceSub, Nat.reduceBEq, reduceCtorEq, *]
 | with_reducible refine fun (bn : Bool) hbn => ?_))
      all_goals ((repeat clear hK); (repeat clear hA); (repeat clear hB))
      all_goals first
        | (clear hM; (simp only [fewRes, f2]; rw [Bool.eq_iff_iff]; simp only [Bool.and_eq_true, Bool.or_eq_true, Bool.not_eq_true', Bool.false_eq_true, decide_eq_true_eq, decide_eq_false_iff_not, true_and, and_true, true_iff, false_iff, iff_true, iff_false, true_or, or_true, false_or, or_false] at *; omega))
        | (refine hM.on (r_rules.length - (i + 1)) (by omega) (by simp only [go_sem, ↓reduceIte, reduceIte, Nat.reduceEqDiff, String.reduceEq, Nat.reduceLT, Nat.reduceLeDiff, Nat.reduceAdd, Nat.reduceMul, Nat.reduceSub, Nat.reduceBEq, reduceCtorEq, *, w64_nat hlt hl, -f2]) ⟨i + 1, rfl, by omega, by clear hM; grind, ?_⟩; simp only [go_sem, ↓reduceIte, reduceIte, Nat.reduceEqDiff, String.reduceEq, Nat.reduceLT, Nat.reduceLeDiff, Nat.reduceAdd, Nat.reduceMul, Nat.reduceSub, Nat.reduceBEq, reduceCtorEq, *, w64_nat hlt hl, -f2]; done)
    · rw [List.drop_eq_nil_of_le (by omega), List.all_nil] at f2
      (repeat' (first
 | with_reducible assumption
 | (with_reducible refine NxK.out hK _ ?_; clear hK K)
 | with_reducible refine NxK.out (by assumption) _ ?_
 | with_reducible refine Nx.out (by assumption) ?_
 | with_reducible refine SpecC.seqW fun K hK => ?_
 | with_reducible refine SpecC.regW T fun K hK => ?_
 | with_reducible refine SpecC.condW fun A B hA hB => ?_
 | with_reducible refine SpecC.block ?_
 | with_reducible refine SpecC.skip ?_
 | with_reducible refine SpecC.label ?_
 | with_reducible refine SpecC.exit ?_
 | with_reducible refine SpecC.goto ?_
 | with_reducible refine SpecC.ret ?_
 | ((with_reducible first | refine condK.split (fun hb => ?_) (fun hb => ?_) | refine gK.split_t (fun hb => ?_) (fun hb => ?_) | refine gK.split_f (fun hb => ?_) (fun hb => ?_)) <;> try simp only [decide_not, ilt_t, ilt_f, ile_t, ile_f, nlt_t, nlt_f, nle_t, nle_f, Bool.not_eq_true', Bool.not_eq_false', Int.ofNat_lt, Int.ofNat_le] at hb)
 | simp only [go_sem, ↓reduceIte, reduceIte, Nat.reduceEqDiff, String.reduceEq, Nat.reduceLT, Nat.reduceLeDiff, Nat.reduceAdd, Nat.reduceMul, Nat.reduceSub, Nat.reduceBEq, reduceCtorEq, *]
 | with_reducible refine fun (bn : Bool) hbn => ?_))
      all_goals ((repeat clear hK); (repeat clear hA); (repeat clear hB))
      all_goals (clear hM; (simp only [fewRes, f2]; rw [Bool.eq_iff_iff]; simp only [Bool.and_eq_true, Bool.or_eq_true, Bool.not_eq_true', Bool.false_eq_true, decide_eq_true_eq, decide_eq_false_iff_not, true_and, and_true, true_iff, false_iff, iff_true, iff_false, true_or, or_true, false_or, or_false] at *; omega))
theorem take_get {α} {xs ys : List α} {i : Nat} (h : xs.take i = ys.take i) (h1 : i < xs.length) (h2 : i < ys.length) (h3 : xs[i] = ys[i]) : xs.take (i + 1) = ys.take (i + 1) := by
  rw [List.take_succ_eq_append_getElem h1, List.take_succ_eq_append_getElem h2, h, h3]
theorem take_all {α} {xs ys : List α} {i : Nat} (h : xs.take i = ys.take i) (h1 : ¬ i < xs.length) (h2 : xs.length = ys.length) : xs = ys := by
  rwa [List.take_of_length_le (by omega), List.take_of_length_le (by omega)] at h
theorem take_ne {α} {xs ys : List α} {i : Nat} (h1 : i < xs.length) (h2 : i < ys.length) (h3 : ¬ xs[i] = ys[i]) : ¬ xs = ys := by
  rintro rfl; exact h3 rfl
set_option maxRecDepth 30000 in
theorem keys3_c (xs ys : List Key) (hl : Small xs.length) : CallR Tryz.prog 16 [.slice false (avs xs), .slice false (avs ys)] (.val (.bool (decide (xs = ys)))) := by
  refine CallR.go2 (T := T) Tryz.call16 Tryz.func16 rfl Tryz.ntmps16 (congrArg Array.toList Tryz.results16) (by decide) fun ts hn h0 h1 => ?_
  by_cases hll : xs.length = ys.length
  · (repeat' (first
 | with_reducible assumption
 | (with_reducible refine NxK.out hK _ ?_; clear hK K)
 | with_reducible refine NxK.out (by assumption) _ ?_
 | with_reducible refine Nx.out (by assumption) ?_
 | with_reducible refine SpecC.seqW fun K hK => ?_
 | with_reducible refine SpecC.regW T fun K hK => ?_
 | with_reducible refine SpecC.drawW (id := 6) T mixed [([17], [18, 21, 22, 23, 24]), ([18], [17, 21, 22, 23, 24]), ([19], [21, 22, 23, 24]), ([20], [21, 22, 23, 24]), ([21], [17, 18, 19, 20, 22]), ([22], [17, 18, 19, 20, 21]), ([23], [17, 18, 19, 20]), ([24], [17, 18, 19, 20])] (by kernel_rfl) fun K hK => ?_
 | with_reducible refine SpecC.condW fun A B hA hB => ?_
 | with_reducible refine SpecC.block ?_
 | with_reducible refine SpecC.skip ?_
 | with_reducible refine SpecC.label ?_
 | with_reducible refine SpecC.exit ?_
 | with_reducible refine SpecC.goto ?_
 | with_reducible refine SpecC.ret ?_
 | ((with_reducible first | refine condK.split (fun hb => ?_) (fun hb => ?_) | refine gK.split_t (fun hb => ?_) (fun hb => ?_) | refine gK.split_f (fun hb => ?_) (fun hb => ?_)) <;> try simp only [decide_not, ilt_t, ilt_f, ile_t, ile_f, nlt_t, nlt_f, nle_t, nle_f, Bool.not_eq_true', Bool.not_eq_false', Int.ofNat_lt, Int.ofNat_le] at hb)
 | simp only [go_sem, ↓reduceIte, reduceIte, Nat.reduceEqDiff, String.reduceEq, Nat.reduceLT, Nat.reduceLeDiff, Nat.reduceAdd, Nat.reduceMul, Nat.reduceSub, Nat.reduceBEq, reduceCtorEq, *]
 | with_reducible refine fun (bn : Bool) hbn => ?_))
    refine SpecC.loopF [0, 1] (fun m ts' => ∃ (i : Nat), m = xs.length - i ∧ i ≤ xs.length ∧ xs.take i = ys.take i ∧ ts'.tmp 5 = .int .i64 i) xs.length ?_ ?_
    · refine ⟨0, ?_⟩
      simp only [go_sem, ↓reduceIte, reduceIte, Nat.reduceEqDiff, String.reduceEq, Nat.reduceLT, Nat.reduceLeDiff, Nat.reduceAdd, Nat.reduceMul, Nat.reduceSub, Nat.reduceBEq, reduceCtorEq, *]
    · rintro m A hM ts' hk ⟨i, hm, f1, f2, s1⟩
      simp only [go_sem, ↓reduceIte, reduceIte, Nat.reduceEqDiff, String.reduceEq, Nat.reduceLT, Nat.reduceLeDiff, Nat.reduceAdd, Nat.reduceMul, Nat.reduceSub, Nat.reduceBEq, reduceCtorEq, *] at hk
      by_cases hlt : i < xs.length
      · have hlu : i < ys.length := by omega
        (repeat' (first
 | with_reducible assumption
 | (with_reducible refine NxK.out hK _ ?_; clear hK K)
 | with_reducible refine NxK.out (by assumption) _ ?_
 | with_reducible refine Nx.out (by assumption) ?_
 | with_reducible refine SpecC.seqW fun K hK => ?_
 | with_reducible refine SpecC.regW T fun K hK => ?_
 | with_reducible refine SpecC.drawW (id := 6) T mixed [([17], [18, 21, 22, 23, 24]), ([18], [17, 21, 22, 23, 24]), ([19], [21, 22, 23, 24]), ([20], [21, 22, 23, 24]), ([21], [17, 18, 19, 20, 22]), ([22], [17, 18, 19, 20, 21]), ([23], [17, 18, 19, 20]), ([24], [17, 18, 19, 20])] (by kernel_rfl) fun K hK => ?_
 | with_reducible refine SpecC.condW fun A B hA hB => ?_
 | with_reducible refine SpecC.block ?_
 | with_reducible refine SpecC.skip ?_
 | with_reducible refine SpecC.label ?_
 | with_reducible refine SpecC.exit ?_
 | with_reducible refine SpecC.goto ?_
 | with_reducible refine SpecC.ret ?_
 | ((with_reducible first | refine condK.split (fun hb => ?_) (fun hb => ?_) | refine gK.split_t (fun hb => ?_) (fun hb => ?_) | refine gK.split_f (fun hb => ?_) (fun hb => ?_)) <;> try simp only [decide_not, ilt_t, ilt_f, ile_t, ile_f, nlt_t, nlt_f, nle_t, nle_f, Bool.not_eq_true', Bool.not_eq_false', Int.ofNat_lt, Int.ofNat_le] at hb)
 | simp only [go_sem, ↓reduceIte, reduceIte, Nat.reduceEqDiff, String.reduceEq, Nat.reduceLT, Nat.reduceLeDiff, Nat.reduceAdd, Nat.reduceMul, Nat.reduceSub, Nat.reduceBEq, reduceCtorEq, *]
 | with_reducible refine fun (bn : Bool) hbn => ?_))
        all_goals ((repeat clear hK); (repeat clear hA); (repeat clear hB))
        all_goals first
          | (refine hM.on (xs.length - (i + 1)) (by omega) (by simp only [go_sem, ↓reduceIte, reduceIte, Nat.reduceEqDiff, String.reduceEq, Nat.reduceLT, Nat.reduceLeDiff, Nat.reduceAdd, Nat.reduceMul, Nat.reduceSub, Nat.reduceBEq, reduceCtorEq, *, w64_nat hlt hl]) ⟨i + 1, rfl, by omega, by clear hM; apply take_get f2 hlt hlu; grind [ext_Key], ?_⟩; simp only [go_sem, ↓reduceIte, reduceIte, Nat.reduceEqDiff, String.reduceEq, Nat.reduceLT, Nat.reduceLeDiff, Nat.reduceAdd, Nat.reduceMul, Nat.reduceSub, Nat.reduceBEq, reduceCtorEq, *, w64_nat hlt hl]; done)
          | (clear hM; have := take_ne hlt hlu; grind [ext_Key])
      · have := take_all f2 hlt hll
        (repeat' (first
 | with_reducible assumption
 | (with_reducible refine NxK.out hK _ ?_; clear hK K)
 | with_reducible refine NxK.out (by assumption) _ ?_
 | with_reducible refine Nx.out (by assumption) ?_
 | with_reducible refine SpecC.seqW fun K hK => ?_
 | with_reducible refine SpecC.regW T fun K hK => ?_
 | with_reducible refine SpecC.drawW (id := 6) T mixed [([17], [18, 21, 22, 23, 24]), ([18], [17, 21, 22, 23, 24]), ([19], [21, 22, 23, 24]), ([20], [21, 22, 23, 24]), ([21], [17, 18, 19, 20, 22]), ([22], [17, 18, 19, 20, 21]), ([23], [17, 18, 19, 20]), ([24], [17, 18, 19, 20])] (by kernel_rfl) fun K hK => ?_
 | with_reducible refine SpecC.condW fun A B hA hB => ?_
 | with_reducible refine SpecC.block ?_
 | with_reducible refine SpecC.skip ?_
 | with_reducible refine SpecC.label ?_
 | with_reducible refine SpecC.exit ?_
 | with_reducible refine SpecC.goto ?_
 | with_reducible refine SpecC.ret ?_
 | ((with_reducible first | refine condK.split (fun hb => ?_) (fun hb => ?_) | refine gK.split_t (fun hb => ?_) (fun hb => ?_) | refine gK.split_f (fun hb => ?_) (fun hb => ?_)) <;> try simp only [decide_not, ilt_t, ilt_f, ile_t, ile_f, nlt_t, nlt_f, nle_t, nle_f, Bool.not_eq_true', Bool.not_eq_false', Int.ofNat_lt, Int.ofNat_le] at hb)
 | simp only [go_sem, ↓reduceIte, reduceIte, Nat.reduceEqDiff, String.reduceEq, Nat.reduceLT, Nat.reduceLeDiff, Nat.reduceAdd, Nat.reduceMul, Nat.reduceSub, Nat.reduceBEq, reduceCtorEq, *]
 | with_reducible refine fun (bn : Bool) hbn => ?_))
        all_goals ((repeat clear hK); (repeat clear hA); (repeat clear hB))
        all_goals (clear hM; grind)
  · have : ¬ xs = ys := by rintro rfl; exact hll rfl
    (repeat' (first
 | with_reducible assumption
 | (with_reducible refine NxK.out hK _ ?_; clear hK K)
 | with_reducible refine NxK.out (by assumption) _ ?_
 | with_reducible refine Nx.out (by assumption) ?_
 | with_reducible refine SpecC.seqW fun K hK => ?_
 | with_reducible refine SpecC.regW T fun K hK => ?_
 | with_reducible refine SpecC.drawW (id := 6) T mixed [([17], [18, 21, 22, 23, 24]), ([18], [17, 21, 22, 23, 24]), ([19], [21, 22, 23, 24]), ([20], [21, 22, 23, 24]), ([21], [17, 18, 19, 20, 22]), ([22], [17, 18, 19, 20, 21]), ([23], [17, 18, 19, 20]), ([24], [17, 18, 19, 20])] (by kernel_rfl) fun K hK => ?_
 | with_reducible refine SpecC.condW fun A B hA hB => ?_
 | with_reducible refine SpecC.block ?_
 | with_reducible refine SpecC.skip ?_
 | with_reducible refine SpecC.label ?_
 | with_reducible refine SpecC.exit ?_
 | with_reducible refine SpecC.goto ?_
 | with_reducible refine SpecC.ret ?_
 | ((with_reducible first | refine condK.split (fun hb => ?_) (fun hb => ?_) | refine gK.split_t (fun hb => ?_) (fun hb => ?_) | refine gK.split_f (fun hb => ?_) (fun hb => ?_)) <;> try simp only [decide_not, ilt_t, ilt_f, ile_t, ile_f, nlt_t, nlt_f, nle_t, nle_f, Bool.not_eq_true', Bool.not_eq_false', Int.ofNat_lt, Int.ofNat_le] at hb)
 | simp only [go_sem, ↓reduceIte, reduceIte, Nat.reduceEqDiff, String.reduceEq, Nat.reduceLT, Nat.reduceLeDiff, Nat.reduceAdd, Nat.reduceMul, Nat.reduceSub, Nat.reduceBEq, reduceCtorEq, *]
 | with_reducible refine fun (bn : Bool) hbn => ?_))
    all_goals ((repeat clear hK); (repeat clear hA); (repeat clear hB))
    all_goals grind
end Go.Proofs.YtbmdbkgjgjggiaaGreatDoor.Lg
