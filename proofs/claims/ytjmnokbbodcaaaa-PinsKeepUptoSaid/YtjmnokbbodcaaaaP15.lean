/- The laws' pins1, kept. -/
import Derived.Test.YtjmnokbbodcaaaaP10
import Derived.Test.YtjmnokbbodcaaaaLg26
namespace Go.Proofs.Ytjmnokbbodcaaaa.Lg
set_option linter.unusedVariables false
set_option linter.unusedSimpArgs false
open Go

set_option maxRecDepth 30000 in
theorem pins1_c (next : Int) (xs : List Snap) (hl : Small xs.length) : CallR Try.prog 11 [.agg [.int .i64 next, .slice false (avs xs)]] (.val (.agg [.int .i64 next, .slice false (avs xs)])) := by
  refine CallR.go1 (T := T) Try.call11 Try.func11 rfl Try.ntmps11 (congrArg Array.toList Try.results11) (by decide) fun ts hn h0 => ?_
  (repeat' (first
    | with_reducible assumption
    | (with_reducible refine NxK.out hK _ ?_; clear hK K)
    | with_reducible refine NxK.out (by assumption) _ ?_
    | with_reducible refine Nx.out (by assumption) ?_
    | with_reducible refine SpecC.seqW fun K hK => ?_
    | with_reducible refine SpecC.regW T fun K hK => ?_
    | with_reducible refine SpecC.condW fun A B hA hB => ?_
    | with_reducible refine SpecC.block ?_
    | with_reducible refine SpecC.skip ?_
    | with_reducible refine SpecC.label ?_
    | with_reducible refine SpecC.exit ?_
    | with_reducible refine SpecC.goto ?_
    | with_reducible refine SpecC.ret ?_
    | ((with_reducible first | refine condK.split (fun hb => ?_) (fun hb => ?_) | refine gK.split_t (fun hb => ?_) (fun hb => ?_) | refine gK.split_f (fun hb => ?_) (fun hb => ?_)) <;> try simp only [decide_not, ilt_t, ilt_f, ile_t, ile_f, nlt_t, nlt_f, nle_t, nle_f, Bool.not_eq_true', Bool.not_eq_false', Int.ofNat_lt, Int.ofNat_le] at hb)
    | simp only [go_sem, ↓reduceIte, reduceIte, Nat.reduceEqDiff, String.reduceEq, Nat.reduceLT, Nat.reduceLeDiff, Nat.reduceAdd, Nat.reduceMul, Nat.reduceSub, Nat.reduceBEq, reduceCtorEq, *]
    | with_reducible refine fun (bn : Bool) hbn => ?_))
  refine SpecC.ent (Ent.virtB 31 3 1 3 (cs := [.int .i64 next, .slice true []]) (by simp only [go_sem, ↓reduceIte, reduceIte, Nat.reduceEqDiff, String.reduceEq, Nat.reduceLT, Nat.reduceLeDiff, Nat.reduceAdd, Nat.reduceMul, Nat.reduceSub, Nat.reduceBEq, reduceCtorEq, *, Ob.box?]) (by decide) rfl (by decide)) ?_
  refine SpecC.loopF [1, 2] (fun m ts' => ∃ (i : Nat), ∃ (g : Nat), m = xs.length - i ∧ i ≤ xs.length ∧ ts'.tmp 3 = .ref 3 (ts.gen 3 + 1) 0 ∧ ts'.gen 3 = ts.gen 3 + 1 ∧ ts'.obj 3 = .box [.int .i64 next, .os 31 g i] ∧ ts'.gen 31 = g ∧ ts'.obj 31 = .arr 3 (avs (xs.take i)) ∧ ts'.tmp 4 = .int .i64 i) xs.length ?_ ?_
  · refine ⟨0, ts.gen 31 + 1, rfl, Nat.zero_le _, ?_⟩
    simp only [go_sem, ↓reduceIte, reduceIte, Nat.reduceEqDiff, String.reduceEq, Nat.reduceLT, Nat.reduceLeDiff, Nat.reduceAdd, Nat.reduceMul, Nat.reduceSub, Nat.reduceBEq, reduceCtorEq, *, avs_nil, List.take_zero, List.set]
  · rintro m A hM ts' hk ⟨i, g, hm, f1, s1, s2, s3, s4, s5, s6⟩
    simp only [go_sem, ↓reduceIte, reduceIte, Nat.reduceEqDiff, String.reduceEq, Nat.reduceLT, Nat.reduceLeDiff, Nat.reduceAdd, Nat.reduceMul, Nat.reduceSub, Nat.reduceBEq, reduceCtorEq, *] at hk
    have hlen : (xs.take i).length = i := by rw [List.length_take]; omega
    have htk : (xs.take i).take i = xs.take i := by rw [List.take_take, Nat.min_self]
    have hr1 : Room (i + 1) 40 := room_big (by unfold Small at hl; omega) (by decide)
    by_cases hlt : i < xs.length
    · have e := List.take_succ_eq_append_getElem hlt
      (repeat' (first
    | with_reducible assumption
    | (with_reducible refine NxK.out hK _ ?_; clear hK K)
    | with_reducible refine NxK.out (by assumption) _ ?_
    | with_reducible refine Nx.out (by assumption) ?_
    | with_reducible refine SpecC.seqW fun K hK => ?_
    | with_reducible refine SpecC.regW T fun K hK => ?_
    | with_reducible refine SpecC.condW fun A B hA hB => ?_
    | with_reducible refine SpecC.block ?_
    | with_reducible refine SpecC.skip ?_
    | with_reducible refine SpecC.label ?_
    | with_reducible refine SpecC.exit ?_
    | with_reducible refine SpecC.goto ?_
    | with_reducible refine SpecC.ret ?_
    | ((with_reducible first | refine condK.split (fun hb => ?_) (fun hb => ?_) | refine gK.split_t (fun hb => ?_) (fun hb => ?_) | refine gK.split_f (fun hb => ?_) (fun hb => ?_)) <;> try simp only [decide_not, ilt_t, ilt_f, ile_t, ile_f, nlt_t, nlt_f, nle_t, nle_f, Bool.not_eq_true', Bool.not_eq_false', Int.ofNat_lt, Int.ofNat_le] at hb)
    | simp only [go_sem, ↓reduceIte, reduceIte, Nat.reduceEqDiff, String.reduceEq, Nat.reduceLT, Nat.reduceLeDiff, Nat.reduceAdd, Nat.reduceMul, Nat.reduceSub, Nat.reduceBEq, reduceCtorEq, *, -e]
    | with_reducible refine fun (bn : Bool) hbn => ?_))
      all_goals ((repeat clear hK); (repeat clear hA); (repeat clear hB))
      (refine hM.on (xs.length - (i + 1)) (by omega) (by simp only [go_sem, ↓reduceIte, reduceIte, Nat.reduceEqDiff, String.reduceEq, Nat.reduceLT, Nat.reduceLeDiff, Nat.reduceAdd, Nat.reduceMul, Nat.reduceSub, Nat.reduceBEq, reduceCtorEq, *, w64_nat hlt hl, e]) ⟨i + 1, ts'.gen 31 + 1, rfl, by omega, ?_⟩; simp only [go_sem, ↓reduceIte, reduceIte, Nat.reduceEqDiff, String.reduceEq, Nat.reduceLT, Nat.reduceLeDiff, Nat.reduceAdd, Nat.reduceMul, Nat.reduceSub, Nat.reduceBEq, reduceCtorEq, *, w64_nat hlt hl, e]; done)
    · have hi2 : i = xs.length := by omega
      (repeat' (first
    | with_reducible assumption
    | (with_reducible refine NxK.out hK _ ?_; clear hK K)
    | with_reducible refine NxK.out (by assumption) _ ?_
    | with_reducible refine Nx.out (by assumption) ?_
    | with_reducible refine SpecC.seqW fun K hK => ?_
    | with_reducible refine SpecC.regW T fun K hK => ?_
    | with_reducible refine SpecC.condW fun A B hA hB => ?_
    | with_reducible refine SpecC.block ?_
    | with_reducible refine SpecC.skip ?_
    | with_reducible refine SpecC.label ?_
    | with_reducible refine SpecC.exit ?_
    | with_reducible refine SpecC.goto ?_
    | with_reducible refine SpecC.ret ?_
    | ((with_reducible first | refine condK.split (fun hb => ?_) (fun hb => ?_) | refine gK.split_t (fun hb => ?_) (fun hb => ?_) | refine gK.split_f (fun hb => ?_) (fun hb => ?_)) <;> try simp only [decide_not, ilt_t, ilt_f, ile_t, ile_f, nlt_t, nlt_f, nle_t, nle_f, Bool.not_eq_true', Bool.not_eq_false', Int.ofNat_lt, Int.ofNat_le] at hb)
    | simp only [go_sem, ↓reduceIte, reduceIte, Nat.reduceEqDiff, String.reduceEq, Nat.reduceLT, Nat.reduceLeDiff, Nat.reduceAdd, Nat.reduceMul, Nat.reduceSub, Nat.reduceBEq, reduceCtorEq, *, Nat.lt_irrefl, List.take_length]
    | with_reducible refine fun (bn : Bool) hbn => ?_))

set_option maxRecDepth 30000 in
theorem kept_c (next : Int) (xs : List Snap) (hl : Small xs.length) : CallR Try.prog 23 [.agg [.int .i64 next, .slice false (avs xs)]] (.val (.agg [.int .i64 next, .slice false (avs xs)])) := by
  refine CallR.go1 (T := T) Try.call23 Try.func23 rfl Try.ntmps23 (congrArg Array.toList Try.results23) (by decide) fun ts hn h0 => ?_
  (repeat' (first
    | with_reducible assumption
    | (with_reducible refine NxK.out hK _ ?_; clear hK K)
    | with_reducible refine NxK.out (by assumption) _ ?_
    | with_reducible refine Nx.out (by assumption) ?_
    | with_reducible refine SpecC.seqW fun K hK => ?_
    | with_reducible refine SpecC.regW T fun K hK => ?_
    | with_reducible refine SpecC.condW fun A B hA hB => ?_
    | with_reducible refine SpecC.block ?_
    | with_reducible refine SpecC.skip ?_
    | with_reducible refine SpecC.label ?_
    | with_reducible refine SpecC.exit ?_
    | with_reducible refine SpecC.goto ?_
    | with_reducible refine SpecC.ret ?_
    | ((with_reducible first | refine condK.split (fun hb => ?_) (fun hb => ?_) | refine gK.split_t (fun hb => ?_) (fun hb => ?_) | refine gK.split_f (fun hb => ?_) (fun hb => ?_)) <;> try simp only [decide_not, ilt_t, ilt_f, ile_t, ile_f, nlt_t, nlt_f, nle_t, nle_f, Bool.not_eq_true', Bool.not_eq_false', Int.ofNat_lt, Int.ofNat_le] at hb)
    | simp only [go_sem, ↓reduceIte, reduceIte, Nat.reduceEqDiff, String.reduceEq, Nat.reduceLT, Nat.reduceLeDiff, Nat.reduceAdd, Nat.reduceMul, Nat.reduceSub, Nat.reduceBEq, reduceCtorEq, *]
    | with_reducible refine fun (bn : Bool) hbn => ?_))
  refine SpecC.ent (Ent.virtB 31 3 1 3 (cs := [.int .i64 next, .slice true []]) (by simp only [go_sem, ↓reduceIte, reduceIte, Nat.reduceEqDiff, String.reduceEq, Nat.reduceLT, Nat.reduceLeDiff, Nat.reduceAdd, Nat.reduceMul, Nat.reduceSub, Nat.reduceBEq, reduceCtorEq, *, Ob.box?]) (by decide) rfl (by decide)) ?_
  refine SpecC.loopF [1, 2] (fun m ts' => ∃ (i : Nat), ∃ (g : Nat), m = xs.length - i ∧ i ≤ xs.length ∧ ts'.tmp 3 = .ref 3 (ts.gen 3 + 1) 0 ∧ ts'.gen 3 = ts.gen 3 + 1 ∧ ts'.obj 3 = .box [.int .i64 next, .os 31 g i] ∧ ts'.gen 31 = g ∧ ts'.obj 31 = .arr 3 (avs (xs.take i)) ∧ ts'.tmp 4 = .int .i64 i) xs.length ?_ ?_
  · refine ⟨0, ts.gen 31 + 1, rfl, Nat.zero_le _, ?_⟩
    simp only [go_sem, ↓reduceIte, reduceIte, Nat.reduceEqDiff, String.reduceEq, Nat.reduceLT, Nat.reduceLeDiff, Nat.reduceAdd, Nat.reduceMul, Nat.reduceSub, Nat.reduceBEq, reduceCtorEq, *, avs_nil, List.take_zero, List.set]
  · rintro m A hM ts' hk ⟨i, g, hm, f1, s1, s2, s3, s4, s5, s6⟩
    simp only [go_sem, ↓reduceIte, reduceIte, Nat.reduceEqDiff, String.reduceEq, Nat.reduceLT, Nat.reduceLeDiff, Nat.reduceAdd, Nat.reduceMul, Nat.reduceSub, Nat.reduceBEq, reduceCtorEq, *] at hk
    have hlen : (xs.take i).length = i := by rw [List.length_take]; omega
    have htk : (xs.take i).take i = xs.take i := by rw [List.take_take, Nat.min_self]
    have hr1 : Room (i + 1) 40 := room_big (by unfold Small at hl; omega) (by decide)
    by_cases hlt : i < xs.length
    · have e := List.take_succ_eq_append_getElem hlt
      (repeat' (first
    | with_reducible assumption
    | (with_reducible refine NxK.out hK _ ?_; clear hK K)
    | with_reducible refine NxK.out (by assumption) _ ?_
    | with_reducible refine Nx.out (by assumption) ?_
    | with_reducible refine SpecC.seqW fun K hK => ?_
    | with_reducible refine SpecC.regW T fun K hK => ?_
    | with_reducible refine SpecC.condW fun A B hA hB => ?_
    | with_reducible refine SpecC.block ?_
    | with_reducible refine SpecC.skip ?_
    | with_reducible refine SpecC.label ?_
    | with_reducible refine SpecC.exit ?_
    | with_reducible refine SpecC.goto ?_
    | with_reducible refine SpecC.ret ?_
    | ((with_reducible first | refine condK.split (fun hb => ?_) (fun hb => ?_) | refine gK.split_t (fun hb => ?_) (fun hb => ?_) | refine gK.split_f (fun hb => ?_) (fun hb => ?_)) <;> try simp only [decide_not, ilt_t, ilt_f, ile_t, ile_f, nlt_t, nlt_f, nle_t, nle_f, Bool.not_eq_true', Bool.not_eq_false', Int.ofNat_lt, Int.ofNat_le] at hb)
    | simp only [go_sem, ↓reduceIte, reduceIte, Nat.reduceEqDiff, String.reduceEq, Nat.reduceLT, Nat.reduceLeDiff, Nat.reduceAdd, Nat.reduceMul, Nat.reduceSub, Nat.reduceBEq, reduceCtorEq, *, -e]
    | with_reducible refine fun (bn : Bool) hbn => ?_))
      all_goals ((repeat clear hK); (repeat clear hA); (repeat clear hB))
      (refine hM.on (xs.length - (i + 1)) (by omega) (by simp only [go_sem, ↓reduceIte, reduceIte, Nat.reduceEqDiff, String.reduceEq, Nat.reduceLT, Nat.reduceLeDiff, Nat.reduceAdd, Nat.reduceMul, Nat.reduceSub, Nat.reduceBEq, reduceCtorEq, *, w64_nat hlt hl, e]) ⟨i + 1, ts'.gen 31 + 1, rfl, by omega, ?_⟩; simp only [go_sem, ↓reduceIte, reduceIte, Nat.reduceEqDiff, String.reduceEq, Nat.reduceLT, Nat.reduceLeDiff, Nat.reduceAdd, Nat.reduceMul, Nat.reduceSub, Nat.reduceBEq, reduceCtorEq, *, w64_nat hlt hl, e]; done)
    · have hi2 : i = xs.length := by omega
      (repeat' (first
    | with_reducible assumption
    | (with_reducible refine NxK.out hK _ ?_; clear hK K)
    | with_reducible refine NxK.out (by assumption) _ ?_
    | with_reducible refine Nx.out (by assumption) ?_
    | with_reducible refine SpecC.seqW fun K hK => ?_
    | with_reducible refine SpecC.regW T fun K hK => ?_
    | with_reducible refine SpecC.condW fun A B hA hB => ?_
    | with_reducible refine SpecC.block ?_
    | with_reducible refine SpecC.skip ?_
    | with_reducible refine SpecC.label ?_
    | with_reducible refine SpecC.exit ?_
    | with_reducible refine SpecC.goto ?_
    | with_reducible refine SpecC.ret ?_
    | ((with_reducible first | refine condK.split (fun hb => ?_) (fun hb => ?_) | refine gK.split_t (fun hb => ?_) (fun hb => ?_) | refine gK.split_f (fun hb => ?_) (fun hb => ?_)) <;> try simp only [decide_not, ilt_t, ilt_f, ile_t, ile_f, nlt_t, nlt_f, nle_t, nle_f, Bool.not_eq_true', Bool.not_eq_false', Int.ofNat_lt, Int.ofNat_le] at hb)
    | simp only [go_sem, ↓reduceIte, reduceIte, Nat.reduceEqDiff, String.reduceEq, Nat.reduceLT, Nat.reduceLeDiff, Nat.reduceAdd, Nat.reduceMul, Nat.reduceSub, Nat.reduceBEq, reduceCtorEq, *, Nat.lt_irrefl, List.take_length]
    | with_reducible refine fun (bn : Bool) hbn => ?_))
end Go.Proofs.Ytjmnokbbodcaaaa.Lg
