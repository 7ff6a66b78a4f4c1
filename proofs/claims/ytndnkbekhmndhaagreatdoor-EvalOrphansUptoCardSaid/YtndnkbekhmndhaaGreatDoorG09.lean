/- Parts of the proof, one behind the other. -/
import Derived.Test.YtndnkbekhmndhaaGreatDoorG08
namespace Go.Proofs.YtndnkbekhmndhaaGreatDoor.Lg
set_option maxRecDepth 100000
set_option linter.unusedVariables false
set_option linter.unusedSimpArgs false
open Go
def cw (y : Weight) : Int := max 0 (min y.w 100)
theorem cw_rng (y : Weight) : 0 ≤ cw y ∧ cw y ≤ 100 := by unfold cw; omega
set_option maxRecDepth 30000 in
theorem weight_c (y_cluster : List UInt8) (y_w : Int) : CallR Tryz.prog 134 [.agg [.str y_cluster, .int .i64 y_w]] (.val (.int .i64 (cw (⟨y_cluster, y_w⟩ : Weight)))) := by
  refine CallR.go1 (T := T) Tryz.call134 Tryz.func134 rfl Tryz.ntmps134 (congrArg Array.toList Tryz.results134) (by decide) fun ts hn h0 => ?_
  (repeat' (first
 | (with_reducible first | assumption | (refine NxK.out hK _ ?_; clear hK K) | refine NxK.out (by assumption) _ ?_ | refine Nx.out (by assumption) ?_ | refine SpecC.seqW fun K hK => ?_ | refine SpecC.regW T fun K hK => ?_ | refine SpecC.condW fun A B hA hB => ?_ | refine SpecC.block ?_ | refine SpecC.skip ?_ | refine SpecC.label ?_ | refine SpecC.exit ?_ | refine SpecC.goto ?_ | refine SpecC.ret ?_)
 | ((with_reducible first | refine condK.split (fun hb => ?_) (fun hb => ?_) | refine gK.split_t (fun hb => ?_) (fun hb => ?_) | refine gK.split_f (fun hb => ?_) (fun hb => ?_)) <;> try simp only [decide_not, ilt_t, ilt_f, ile_t, ile_f, nlt_t, nlt_f, nle_t, nle_f, Bool.not_eq_true', Bool.not_eq_false', Int.ofNat_lt, Int.ofNat_le] at hb)
 | simp only [go_sem, ↓reduceIte, reduceIte, Nat.reduceEqDiff, String.reduceEq, Nat.reduceLT, Nat.reduceLeDiff, Nat.reduceAdd, Nat.reduceMul, Nat.reduceSub, Nat.reduceBEq, reduceCtorEq, *]
 | with_reducible refine fun (bn : Bool) hbn => ?_))
  all_goals rfl
def totW (l : List Weight) : Int := (l.map cw).sum
theorem totW_cons (y : Weight) (l : List Weight) : totW (y :: l) = cw y + totW l := by simp [totW]
theorem totW_rng : ∀ l : List Weight, 0 ≤ totW l ∧ totW l ≤ 100 * l.length
  | [] => by simp [totW]
  | y :: l => by have h := totW_rng l; have h2 := cw_rng y; rw [totW_cons, List.length_cons]; omega
set_option maxRecDepth 30000 in
theorem total_c (xs : List Weight) (hl : Small xs.length) : CallR Tryz.prog 133 [.slice false (avs xs)] (.val (.int .i64 (totW xs))) := by
  have htr := totW_rng xs
  refine CallR.go1 (T := T) Tryz.call133 Tryz.func133 rfl Tryz.ntmps133 (congrArg Array.toList Tryz.results133) (by decide) fun ts hn h0 => ?_
  (repeat' (first
 | (with_reducible first | refine callX.by (weight_c _ _) ?_ | assumption | (refine NxK.out hK _ ?_; clear hK K) | refine NxK.out (by assumption) _ ?_ | refine Nx.out (by assumption) ?_ | refine SpecC.seqW fun K hK => ?_ | refine SpecC.regW T fun K hK => ?_ | refine SpecC.condW fun A B hA hB => ?_ | refine SpecC.block ?_ | refine SpecC.skip ?_ | refine SpecC.label ?_ | refine SpecC.exit ?_ | refine SpecC.goto ?_ | refine SpecC.ret ?_)
 | ((with_reducible first | refine condK.split (fun hb => ?_) (fun hb => ?_) | refine gK.split_t (fun hb => ?_) (fun hb => ?_) | refine gK.split_f (fun hb => ?_) (fun hb => ?_)) <;> try simp only [decide_not, ilt_t, ilt_f, ile_t, ile_f, nlt_t, nlt_f, nle_t, nle_f, Bool.not_eq_true', Bool.not_eq_false', Int.ofNat_lt, Int.ofNat_le] at hb)
 | simp only [go_sem, ↓reduceIte, reduceIte, Nat.reduceEqDiff, String.reduceEq, Nat.reduceLT, Nat.reduceLeDiff, Nat.reduceAdd, Nat.reduceMul, Nat.reduceSub, Nat.reduceBEq, reduceCtorEq, *, -htr]
 | with_reducible refine fun (bn : Bool) hbn => ?_))
  refine SpecC.loopF [6, 7] (fun m ts' => ∃ (i : Nat), ∃ (n : Int), m = xs.length - i ∧ i ≤ xs.length ∧ totW xs = n + totW (xs.drop i) ∧ 0 ≤ n ∧ ts'.tmp 3 = .int .i64 n ∧ ts'.tmp 8 = .int .i64 i) xs.length ?_ ?_
  · refine ⟨0, 0, rfl, Nat.zero_le _, by simp, by omega, ?_⟩
    simp only [go_sem, ↓reduceIte, reduceIte, Nat.reduceEqDiff, String.reduceEq, Nat.reduceLT, Nat.reduceLeDiff, Nat.reduceAdd, Nat.reduceMul, Nat.reduceSub, Nat.reduceBEq, reduceCtorEq, *, -htr]
  · rintro m A hM ts' hk ⟨i, n, hm, f1, f2, f3, s1, s2⟩
    simp only [go_sem, ↓reduceIte, reduceIte, Nat.reduceEqDiff, String.reduceEq, Nat.reduceLT, Nat.reduceLeDiff, Nat.reduceAdd, Nat.reduceMul, Nat.reduceSub, Nat.reduceBEq, reduceCtorEq, *] at hk
    by_cases hlt : i < xs.length
    · rw [List.drop_eq_getElem_cons hlt, totW_cons] at f2
      have hc := cw_rng xs[i]
      have ht2 := totW_rng (xs.drop (i + 1))
      have hw : IntKind.i64.wrap (n + cw xs[i]) = n + cw xs[i] := IntWalk.i64_in _ (by unfold Small at hl; omega)
      (repeat' (first
 | (with_reducible first | refine callX.by (weight_c _ _) ?_ | assumption | (refine NxK.out hK _ ?_; clear hK K) | refine NxK.out (by assumption) _ ?_ | refine Nx.out (by assumption) ?_ | refine SpecC.seqW fun K hK => ?_ | refine SpecC.regW T fun K hK => ?_ | refine SpecC.condW fun A B hA hB => ?_ | refine SpecC.block ?_ | refine SpecC.skip ?_ | refine SpecC.label ?_ | refine SpecC.exit ?_ | refine SpecC.goto ?_ | refine SpecC.ret ?_)
 | ((with_reducible first | refine condK.split (fun hb => ?_) (fun hb => ?_) | refine gK.split_t (fun hb => ?_) (fun hb => ?_) | refine gK.split_f (fun hb => ?_) (fun hb => ?_)) <;> try simp only [decide_not, ilt_t, ilt_f, ile_t, ile_f, nlt_t, nlt_f, nle_t, nle_f, Bool.not_eq_true', Bool.not_eq_false', Int.ofNat_lt, Int.ofNat_le] at hb)
 | simp only [go_sem, ↓reduceIte, reduceIte, Nat.reduceEqDiff, String.reduceEq, Nat.reduceLT, Nat.reduceLeDiff, Nat.reduceAdd, Nat.reduceMul, Nat.reduceSub, Nat.reduceBEq, reduceCtorEq, *, -htr, -f2, -hc, -ht2]
 | with_reducible refine fun (bn : Bool) hbn => ?_))
      all_goals ((repeat clear hK); (repeat clear hA); (repeat clear hB))
      (refine hM.on (xs.length - (i + 1)) (by omega) (by simp only [go_sem, ↓reduceIte, reduceIte, Nat.reduceEqDiff, String.reduceEq, Nat.reduceLT, Nat.reduceLeDiff, Nat.reduceAdd, Nat.reduceMul, Nat.reduceSub, Nat.reduceBEq, reduceCtorEq, *, w64_nat hlt hl, -htr, -f2, -hc, -ht2]) ⟨i + 1, n + cw xs[i], rfl, by omega, by omega, by omega, ?_⟩; simp only [go_sem, ↓reduceIte, reduceIte, Nat.reduceEqDiff, String.reduceEq, Nat.reduceLT, Nat.reduceLeDiff, Nat.reduceAdd, Nat.reduceMul, Nat.reduceSub, Nat.reduceBEq, reduceCtorEq, *, w64_nat hlt hl, -htr, -f2, -hc, -ht2]; done)
    · rw [List.drop_eq_nil_of_le (by omega)] at f2
      have e : n = totW xs := by rw [f2]; simp [totW]
      subst e
      (repeat' (first
 | (with_reducible first | refine callX.by (weight_c _ _) ?_ | assumption | (refine NxK.out hK _ ?_; clear hK K) | refine NxK.out (by assumption) _ ?_ | refine Nx.out (by assumption) ?_ | refine SpecC.seqW fun K hK => ?_ | refine SpecC.regW T fun K hK => ?_ | refine SpecC.condW fun A B hA hB => ?_ | refine SpecC.block ?_ | refine SpecC.skip ?_ | refine SpecC.label ?_ | refine SpecC.exit ?_ | refine SpecC.goto ?_ | refine SpecC.ret ?_)
 | ((with_reducible first | refine condK.split (fun hb => ?_) (fun hb => ?_) | refine gK.split_t (fun hb => ?_) (fun hb => ?_) | refine gK.split_f (fun hb => ?_) (fun hb => ?_)) <;> try simp only [decide_not, ilt_t, ilt_f, ile_t, ile_f, nlt_t, nlt_f, nle_t, nle_f, Bool.not_eq_true', Bool.not_eq_false', Int.ofNat_lt, Int.ofNat_le] at hb)
 | simp only [go_sem, ↓reduceIte, reduceIte, Nat.reduceEqDiff, String.reduceEq, Nat.reduceLT, Nat.reduceLeDiff, Nat.reduceAdd, Nat.reduceMul, Nat.reduceSub, Nat.reduceBEq, reduceCtorEq, *, -htr, -f2]
 | with_reducible refine fun (bn : Bool) hbn => ?_))
def chooseW : List Weight → Int → Option (List UInt8)
  | [], _ => none
  | y :: l, n => if n - cw y < 0 then some y.cluster else chooseW l (n - cw y)
def pickC (l : List Weight) (draw : Int) : Option (List UInt8) := if totW l = 0 then none else chooseW l ((max 0 draw).tmod (totW l))
set_option maxRecDepth 30000 in
set_option maxHeartbeats 4000000 in
theorem pickC_c (xs : List Weight) (draw : Int) (hl : Small xs.length) : CallR Tryz.prog 97 [.slice false (avs xs), .int .i64 draw] (.val (.tup [.str ((pickC xs draw).getD []), .bool (pickC xs draw).isSome])) := by
  have htr := totW_rng xs
  by_cases h0 : totW xs = 0
  · have e : pickC xs draw = none := by unfold pickC; rw [if_pos h0]
    rw [e]
    refine CallR.go2 (T := T) Tryz.call97 Tryz.func97 rfl Tryz.ntmps97 (congrArg Array.toList Tryz.results97) (by decide) fun ts hn h0 h1 => ?_
    (repeat' (first
 | (with_reducible first | refine callX.by (total_c _ ?_) ?_ | refine callX.by (weight_c _ _) ?_ | assumption | (refine NxK.out hK _ ?_; clear hK K) | refine NxK.out (by assumption) _ ?_ | refine Nx.out (by assumption) ?_ | refine SpecC.seqW fun K hK => ?_ | refine SpecC.regW T fun K hK => ?_ | refine SpecC.condW fun A B hA hB => ?_ | refine SpecC.block ?_ | refine SpecC.skip ?_ | refine SpecC.label ?_ | refine SpecC.exit ?_ | refine SpecC.goto ?_ | refine SpecC.ret ?_)
 | ((with_reducible first | refine condK.split (fun hb => ?_) (fun hb => ?_) | refine gK.split_t (fun hb => ?_) (fun hb => ?_) | refine gK.split_f (fun hb => ?_) (fun hb => ?_)) <;> try simp only [decide_not, ilt_t, ilt_f, ile_t, ile_f, nlt_t, nlt_f, nle_t, nle_f, Bool.not_eq_true', Bool.not_eq_false', Int.ofNat_lt, Int.ofNat_le] at hb)
 | simp only [go_sem, ↓reduceIte, reduceIte, Nat.reduceEqDiff, String.reduceEq, Nat.reduceLT, Nat.reduceLeDiff, Nat.reduceAdd, Nat.reduceMul, Nat.reduceSub, Nat.reduceBEq, reduceCtorEq, *, -htr, Option.getD_none, Option.isSome_none]
 | with_reducible refine fun (bn : Bool) hbn => ?_))
  · have e : pickC xs draw = chooseW xs ((max 0 draw).tmod (totW xs)) := by unfold pickC; rw [if_neg h0]
    rw [e]
    have hm1 : 0 ≤ (max 0 draw).tmod (totW xs) := Int.tmod_nonneg _ (by omega)
    have hm2 : (max 0 draw).tmod (totW xs) ≤ totW xs := Int.le_of_lt (Int.tmod_lt_of_pos _ (by omega))
    clear e
    obtain ⟨q0, hq⟩ : ∃ q0, (max 0 draw).tmod (totW xs) = q0 := ⟨_, rfl⟩
    rw [hq] at hm1 hm2 ⊢
    refine CallR.go2 (T := T) Tryz.call97 Tryz.func97 rfl Tryz.ntmps97 (congrArg Array.toList Tryz.results97) (by decide) fun ts hn h0 h1 => ?_
    (repeat' (first
 | (with_reducible first | refine callX.by (total_c _ ?_) ?_ | refine callX.by (weight_c _ _) ?_ | assumption | (refine NxK.out hK _ ?_; clear hK K) | refine NxK.out (by assumption) _ ?_ | refine Nx.out (by assumption) ?_ | refine SpecC.seqW fun K hK => ?_ | refine SpecC.regW T fun K hK => ?_ | refine SpecC.condW fun A B hA hB => ?_ | refine SpecC.block ?_ | refine SpecC.skip ?_ | refine SpecC.label ?_ | refine SpecC.exit ?_ | refine SpecC.goto ?_ | refine SpecC.ret ?_)
 | ((with_reducible first | refine condK.split (fun hb => ?_) (fun hb => ?_) | refine gK.split_t (fun hb => ?_) (fun hb => ?_) | refine gK.split_f (fun hb => ?_) (fun hb => ?_)) <;> try simp only [decide_not, ilt_t, ilt_f, ile_t, ile_f, nlt_t, nlt_f, nle_t, nle_f, Bool.not_eq_true', Bool.not_eq_false', Int.ofNat_lt, Int.ofNat_le] at hb)
 | simp only [go_sem, ↓reduceIte, reduceIte, Nat.reduceEqDiff, String.reduceEq, Nat.reduceLT, Nat.reduceLeDiff, Nat.reduceAdd, Nat.reduceMul, Nat.reduceSub, Nat.reduceBEq, reduceCtorEq, *, -htr, -hm1, -hm2]
 | with_reducible refine fun (bn : Bool) hbn => ?_))
    refine SpecC.loopF [18, 19] (fun m ts' => ∃ (i : Nat), ∃ (n : Int), m = xs.length - i ∧ i ≤ xs.length ∧ chooseW xs q0 = chooseW (xs.drop i) n ∧ 0 ≤ n ∧ n ≤ q0 ∧ ts'.tmp 7 = .int .i64 n ∧ ts'.tmp 20 = .int .i64 i) xs.length ?_ ?_
    · refine ⟨0, q0, rfl, Nat.zero_le _, rfl, by omega, by omega, ?_⟩
      simp only [go_sem, ↓reduceIte, reduceIte, Nat.reduceEqDiff, String.reduceEq, Nat.reduceLT, Nat.reduceLeDiff, Nat.reduceAdd, Nat.reduceMul, Nat.reduceSub, Nat.reduceBEq, reduceCtorEq, *, -htr, -hm1, -hm2]
    · rintro m A hM ts' hk ⟨i, n, hm, f1, f2, f3, f4, s1, s2⟩
      simp only [go_sem, ↓reduceIte, reduceIte, Nat.reduceEqDiff, String.reduceEq, Nat.reduceLT, Nat.reduceLeDiff, Nat.reduceAdd, Nat.reduceMul, Nat.reduceSub, Nat.reduceBEq, reduceCtorEq, *] at hk
      by_cases hlt : i < xs.length
      · rw [List.drop_eq_getElem_cons hlt, chooseW] at f2
        have hc := cw_rng xs[i]
        have hw : IntKind.i64.wrap (n - cw xs[i]) = n - cw xs[i] := IntWalk.i64_in _ (by unfold Small at hl; omega)
        by_cases hn : n - cw xs[i] < 0
        · rw [if_pos hn] at f2
          rw [f2]
          (repeat' (first
 | (with_reducible first | refine callX.by (total_c _ ?_) ?_ | refine callX.by (weight_c _ _) ?_ | assumption | (refine NxK.out hK _ ?_; clear hK K) | refine NxK.out (by assumption) _ ?_ | refine Nx.out (by assumption) ?_ | refine SpecC.seqW fun K hK => ?_ | refine SpecC.regW T fun K hK => ?_ | refine SpecC.condW fun A B hA hB => ?_ | refine SpecC.block ?_ | refine SpecC.skip ?_ | refine SpecC.label ?_ | refine SpecC.exit ?_ | refine SpecC.goto ?_ | refine SpecC.ret ?_)
 | ((with_reducible first | refine condK.split (fun hb => ?_) (fun hb => ?_) | refine gK.split_t (fun hb => ?_) (fun hb => ?_) | refine gK.split_f (fun hb => ?_) (fun hb => ?_)) <;> try simp only [decide_not, ilt_t, ilt_f, ile_t, ile_f, nlt_t, nlt_f, nle_t, nle_f, Bool.not_eq_true', Bool.not_eq_false', Int.ofNat_lt, Int.ofNat_le] at hb)
 | simp only [go_sem, ↓reduceIte, reduceIte, Nat.reduceEqDiff, String.reduceEq, Nat.reduceLT, Nat.reduceLeDiff, Nat.reduceAdd, Nat.reduceMul, Nat.reduceSub, Nat.reduceBEq, reduceCtorEq, *, -htr, -hm1, -hm2, -hc, Option.getD_some, Option.isSome_some]
 | with_reducible refine fun (bn : Bool) hbn => ?_))
        · rw [if_neg hn] at f2
          (repeat' (first
 | (with_reducible first | refine callX.by (total_c _ ?_) ?_ | refine callX.by (weight_c _ _) ?_ | assumption | (refine NxK.out hK _ ?_; clear hK K) | refine NxK.out (by assumption) _ ?_ | refine Nx.out (by assumption) ?_ | refine SpecC.seqW fun K hK => ?_ | refine SpecC.regW T fun K hK => ?_ | refine SpecC.condW fun A B hA hB => ?_ | refine SpecC.block ?_ | refine SpecC.skip ?_ | refine SpecC.label ?_ | refine SpecC.exit ?_ | refine SpecC.goto ?_ | refine SpecC.ret ?_)
 | ((with_reducible first | refine condK.split (fun hb => ?_) (fun hb => ?_) | refine gK.split_t (fun hb => ?_) (fun hb => ?_) | refine gK.split_f (fun hb => ?_) (fun hb => ?_)) <;> try simp only [decide_not, ilt_t, ilt_f, ile_t, ile_f, nlt_t, nlt_f, nle_t, nle_f, Bool.not_eq_true', Bool.not_eq_false', Int.ofNat_lt, Int.ofNat_le] at hb)
 | simp only [go_sem, ↓reduceIte, reduceIte, Nat.reduceEqDiff, String.reduceEq, Nat.reduceLT, Nat.reduceLeDiff, Nat.reduceAdd, Nat.reduceMul, Nat.reduceSub, Nat.reduceBEq, reduceCtorEq, *, -htr, -hm1, -hm2, -f2, -hc]
 | with_reducible refine fun (bn : Bool) hbn => ?_))
          all_goals ((repeat clear hK); (repeat clear hA); (repeat clear hB))
          (refine hM.on (xs.length - (i + 1)) (by omega) (by simp only [go_sem, ↓reduceIte, reduceIte, Nat.reduceEqDiff, String.reduceEq, Nat.reduceLT, Nat.reduceLeDiff, Nat.reduceAdd, Nat.reduceMul, Nat.reduceSub, Nat.reduceBEq, reduceCtorEq, *, w64_nat hlt hl, -htr, -hm1, -hm2, -f2, -hc]) ⟨i + 1, n - cw xs[i], rfl, by omega, f2, by omega, by omega, ?_⟩; simp only [go_sem, ↓reduceIte, reduceIte, Nat.reduceEqDiff, String.reduceEq, Nat.reduceLT, Nat.reduceLeDiff, Nat.reduceAdd, Nat.reduceMul, Nat.reduceSub, Nat.reduceBEq, reduceCtorEq, *, w64_nat hlt hl, -htr, -hm1, -hm2, -f2, -hc]; done)
      · rw [List.drop_eq_nil_of_le (by omega), chooseW] at f2
        rw [f2]
        (repeat' (first
 | (with_reducible first | refine callX.by (total_c _ ?_) ?_ | refine callX.by (weight_c _ _) ?_ | assumption | (refine NxK.out hK _ ?_; clear hK K) | refine NxK.out (by assumption) _ ?_ | refine Nx.out (by assumption) ?_ | refine SpecC.seqW fun K hK => ?_ | refine SpecC.regW T fun K hK => ?_ | refine SpecC.condW fun A B hA hB => ?_ | refine SpecC.block ?_ | refine SpecC.skip ?_ | refine SpecC.label ?_ | refine SpecC.exit ?_ | refine SpecC.goto ?_ | refine SpecC.ret ?_)
 | ((with_reducible first | refine condK.split (fun hb => ?_) (fun hb => ?_) | refine gK.split_t (fun hb => ?_) (fun hb => ?_) | refine gK.split_f (fun hb => ?_) (fun hb => ?_)) <;> try simp only [decide_not, ilt_t, ilt_f, ile_t, ile_f, nlt_t, nlt_f, nle_t, nle_f, Bool.not_eq_true', Bool.not_eq_false', Int.ofNat_lt, Int.ofNat_le] at hb)
 | simp only [go_sem, ↓reduceIte, reduceIte, Nat.reduceEqDiff, String.reduceEq, Nat.reduceLT, Nat.reduceLeDiff, Nat.reduceAdd, Nat.reduceMul, Nat.reduceSub, Nat.reduceBEq, reduceCtorEq, *, -htr, -hm1, -hm2, Option.getD_none, Option.isSome_none]
 | with_reducible refine fun (bn : Bool) hbn => ?_))
def pickH (l : List Int) (draw : Int) : Option Int := l[((max 0 draw).tmod l.length).toNat]?
set_option maxRecDepth 30000 in
theorem pickH_c (xs : List Int) (draw : Int) (hl : Small xs.length) : CallR Tryz.prog 99 [.slice false (avs xs), .int .i64 draw] (.val (.tup [.int .i64 ((pickH xs draw).getD 0), .bool (pickH xs draw).isSome])) := by
  by_cases h0 : xs.length = 0
  · have e : pickH xs draw = none := by
      have := List.length_eq_zero_iff.1 h0
      subst this
      simp [pickH]
    rw [e]
    refine CallR.go2 (T := T) Tryz.call99 Tryz.func99 rfl Tryz.ntmps99 (congrArg Array.toList Tryz.results99) (by decide) fun ts hn h0 h1 => ?_
    (repeat' (first
 | (with_reducible first | assumption | (refine NxK.out hK _ ?_; clear hK K) | refine NxK.out (by assumption) _ ?_ | refine Nx.out (by assumption) ?_ | refine SpecC.seqW fun K hK => ?_ | refine SpecC.regW T fun K hK => ?_ | refine SpecC.condW fun A B hA hB => ?_ | refine SpecC.block ?_ | refine SpecC.skip ?_ | refine SpecC.label ?_ | refine SpecC.exit ?_ | refine SpecC.goto ?_ | refine SpecC.ret ?_)
 | ((with_reducible first | refine condK.split (fun hb => ?_) (fun hb => ?_) | refine gK.split_t (fun hb => ?_) (fun hb => ?_) | refine gK.split_f (fun hb => ?_) (fun hb => ?_)) <;> try simp only [decide_not, ilt_t, ilt_f, ile_t, ile_f, nlt_t, nlt_f, nle_t, nle_f, Bool.not_eq_true', Bool.not_eq_false', Int.ofNat_lt, Int.ofNat_le] at hb)
 | simp only [go_sem, ↓reduceIte, reduceIte, Nat.reduceEqDiff, String.reduceEq, Nat.reduceLT, Nat.reduceLeDiff, Nat.reduceAdd, Nat.reduceMul, Nat.reduceSub, Nat.reduceBEq, reduceCtorEq, *, Option.getD_none, Option.isSome_none]
 | with_reducible refine fun (bn : Bool) hbn => ?_))
  · have hm1 : 0 ≤ (max 0 draw).tmod (xs.length : Int) := Int.tmod_nonneg _ (by omega)
    have hm2 : (max 0 draw).tmod (xs.length : Int) < xs.length := Int.tmod_lt_of_pos _ (by omega)
    obtain ⟨m, hm⟩ := Int.eq_ofNat_of_zero_le hm1
    have hm3 : m < xs.length := by omega
    have e : pickH xs draw = some xs[m] := by
      unfold pickH
      rw [hm, Int.toNat_natCast, List.getElem?_eq_getElem hm3]
    rw [e]
    clear e hm1 hm2
    have hn0 : ¬ (xs.length : Int) = 0 := by omega
    refine CallR.go2 (T := T) Tryz.call99 Tryz.func99 rfl Tryz.ntmps99 (congrArg Array.toList Tryz.results99) (by decide) fun ts hn h0 h1 => ?_
    (repeat' (first
 | (with_reducible first | assumption | (refine NxK.out hK _ ?_; clear hK K) | refine NxK.out (by assumption) _ ?_ | refine Nx.out (by assumption) ?_ | refine SpecC.seqW fun K hK => ?_ | refine SpecC.regW T fun K hK => ?_ | refine SpecC.condW fun A B hA hB => ?_ | refine SpecC.block ?_ | refine SpecC.skip ?_ | refine SpecC.label ?_ | refine SpecC.exit ?_ | refine SpecC.goto ?_ | refine SpecC.ret ?_)
 | ((with_reducible first | refine condK.split (fun hb => ?_) (fun hb => ?_) | refine gK.split_t (fun hb => ?_) (fun hb => ?_) | refine gK.split_f (fun hb => ?_) (fun hb => ?_)) <;> try simp only [decide_not, ilt_t, ilt_f, ile_t, ile_f, nlt_t, nlt_f, nle_t, nle_f, Bool.not_eq_true', Bool.not_eq_false', Int.ofNat_lt, Int.ofNat_le] at hb)
 | simp only [go_sem, ↓reduceIte, reduceIte, Nat.reduceEqDiff, String.reduceEq, Nat.reduceLT, Nat.reduceLeDiff, Nat.reduceAdd, Nat.reduceMul, Nat.reduceSub, Nat.reduceBEq, reduceCtorEq, *, Option.getD_some, Option.isSome_some]
 | with_reducible refine fun (bn : Bool) hbn => ?_))
def beatsR (a b : Rule) : Bool := if 0 < icmp (widthS a.host) (widthS b.host) then true else if icmp (widthS a.host) (widthS b.host) < 0 then false else decide (b.pfx.length < a.pfx.length)
set_option maxRecDepth 30000 in
theorem beats_c (a_host : List UInt8) (a_pfx : List UInt8) (a_split : List Weight) (b_host : List UInt8) (b_pfx : List UInt8) (b_split : List Weight) : CallR Tryz.prog 178 [.agg [.str a_host, .str a_pfx, .slice false (avs a_split)], .agg [.str b_host, .str b_pfx, .slice false (avs b_split)]] (.val (.bool (beatsR (⟨a_host, a_pfx, a_split⟩ : Rule) (⟨b_host, b_pfx, b_split⟩ : Rule)))) := by
  refine CallR.go2 (T := T) Tryz.call178 Tryz.func178 rfl Tryz.ntmps178 (congrArg Array.toList Tryz.results178) (by decide) fun ts hn h0 h1 => ?_
  (repeat' (first
 | (with_reducible first | refine callX.by (narrow_c _ _) ?_ | assumption | (refine NxK.out hK _ ?_; clear hK K) | refine NxK.out (by assumption) _ ?_ | refine Nx.out (by assumption) ?_ | refine SpecC.seqW fun K hK => ?_ | refine SpecC.regW T fun K hK => ?_ | refine SpecC.condW fun A B hA hB => ?_ | refine SpecC.block ?_ | refine SpecC.skip ?_ | refine SpecC.label ?_ | refine SpecC.exit ?_ | refine SpecC.goto ?_ | refine SpecC.ret ?_)
 | ((with_reducible first | refine condK.split (fun hb => ?_) (fun hb => ?_) | refine gK.split_t (fun hb => ?_) (fun hb => ?_) | refine gK.split_f (fun hb => ?_) (fun hb => ?_)) <;> try simp only [decide_not, ilt_t, ilt_f, ile_t, ile_f, nlt_t, nlt_f, nle_t, nle_f, Bool.not_eq_true', Bool.not_eq_false', Int.ofNat_lt, Int.ofNat_le] at hb)
 | simp only [go_sem, ↓reduceIte, reduceIte, Nat.reduceEqDiff, String.reduceEq, Nat.reduceLT, Nat.reduceLeDiff, Nat.reduceAdd, Nat.reduceMul, Nat.reduceSub, Nat.reduceBEq, reduceCtorEq, *]
 | with_reducible refine fun (bn : Bool) hbn => ?_))
  all_goals ((repeat clear hK); (repeat clear hA); (repeat clear hB))
  all_goals (unfold beatsR; split <;> first | rfl | omega | (simp_all; done) | (split <;> first | rfl | omega | (simp_all; done)))
end Go.Proofs.YtndnkbekhmndhaaGreatDoor.Lg

namespace Go.Proofs.YtndnkbekhmndhaaGreatDoor.Lg
set_option maxRecDepth 100000
set_option linter.unusedVariables false
set_option linter.unusedSimpArgs false
open Go
def zRule : Rule := ⟨[], [], []⟩
def winR (p : Rule → Bool) (x : Rule) : Option Rule → Bool
  | none => p x
  | some y => p x && beatsR x y
def bestR (p : Rule → Bool) : List Rule → Option Rule → Option Rule
  | [], o => o
  | x :: l, o => bestR p l (if winR p x o = true then some x else o)
def boxR : Option Rule → List AV
  | none => [.str [], .str [], .slice true []]
  | some x => [.str x.host, .str x.pfx, .slice false (avs x.split)]
set_option maxRecDepth 30000 in
set_option maxHeartbeats 4000000 in
theorem best_c (fn : FuncId) (caps : List AV) (hc : Caps caps) (p : Rule → Bool) (xs : List Rule) (hp : ∀ x ∈ xs, CallR Tryz.prog fn (.agg [.str x.host, .str x.pfx, .slice false (avs x.split)] :: caps) (.val (.bool (p x)))) (hl : Small xs.length) :
    CallR Tryz.prog 174 [.slice false (avs xs), .clo (.func fn) [] caps, .clo (.func 178) [] []] (.val (.tup [Dat.av ((bestR p xs none).getD zRule), .bool (bestR p xs none).isSome])) := by
  have hca := hc.args
  have hcp := hc.pure
  have hcn := hc.nrm
  refine CallR.go3 (T := T) Tryz.call174 Tryz.func174 rfl Tryz.ntmps174 (congrArg Array.toList Tryz.results174) (by decide) fun ts hn h0 h1 h2 => ?_
  (repeat' (first
 | (with_reducible first | assumption | (refine NxK.out hK _ ?_; clear hK K) | refine NxK.out (by assumption) _ ?_ | refine Nx.out (by assumption) ?_ | refine SpecC.seqW fun K hK => ?_ | refine SpecC.regW T fun K hK => ?_ | refine SpecC.condW fun A B hA hB => ?_ | refine SpecC.block ?_ | refine SpecC.skip ?_ | refine SpecC.label ?_ | refine SpecC.exit ?_ | refine SpecC.goto ?_ | refine SpecC.ret ?_)
 | ((with_reducible first | refine condK.split (fun hb => ?_) (fun hb => ?_) | refine gK.split_t (fun hb => ?_) (fun hb => ?_) | refine gK.split_f (fun hb => ?_) (fun hb => ?_)) <;> try simp only [decide_not, ilt_t, ilt_f, ile_t, ile_f, nlt_t, nlt_f, nle_t, nle_f, Bool.not_eq_true', Bool.not_eq_false', Int.ofNat_lt, Int.ofNat_le] at hb)
 | simp only [go_sem, ↓reduceIte, reduceIte, Nat.reduceEqDiff, String.reduceEq, Nat.reduceLT, Nat.reduceLeDiff, Nat.reduceAdd, Nat.reduceMul, Nat.reduceSub, Nat.reduceBEq, reduceCtorEq, *, -hp]
 | with_reducible refine fun (bn : Bool) hbn => ?_))
  refine SpecC.loopF [1, 2, 6, 12, 13] (fun m ts' => ∃ (i : Nat), ∃ (g : Nat), ∃ (o : Option Rule), m = xs.length - i ∧ i ≤ xs.length ∧ bestR p xs none = bestR p (xs.drop i) o ∧ ts'.tmp 9 = .bool o.isSome ∧ ts'.tmp 8 = .ref 8 g 0 ∧ ts'.gen 8 = g ∧ ts'.obj 8 = .box (boxR o) ∧ ts'.tmp 14 = .int .i64 i) xs.length ?_ ?_
  · refine ⟨0, ts.gen 8 + 1, none, rfl, Nat.zero_le _, rfl, ?_⟩
    simp only [go_sem, ↓reduceIte, reduceIte, Nat.reduceEqDiff, String.reduceEq, Nat.reduceLT, Nat.reduceLeDiff, Nat.reduceAdd, Nat.reduceMul, Nat.reduceSub, Nat.reduceBEq, reduceCtorEq, *, -hp, boxR, Option.isSome_none]
  · rintro m A hM ts' hk ⟨i, g, o, hm, f1, f2, s1, s2, s3, s4, s5⟩
    simp only [go_sem, ↓reduceIte, reduceIte, Nat.reduceEqDiff, String.reduceEq, Nat.reduceLT, Nat.reduceLeDiff, Nat.reduceAdd, Nat.reduceMul, Nat.reduceSub, Nat.reduceBEq, reduceCtorEq, *] at hk
    by_cases hlt : i < xs.length
    · rw [List.drop_eq_getElem_cons hlt, bestR] at f2
      have hpi := hp _ (List.getElem_mem hlt)
      cases hpx : p xs[i] with
      | false =>
        have hw : winR p xs[i] o = false := by cases o <;> simp [winR, hpx]
        rw [hw, if_neg (by decide)] at f2
        rw [hpx] at hpi
        (repeat' (first
 | (with_reducible first | refine callX.by (hpi) ?_ | assumption | (refine NxK.out hK _ ?_; clear hK K) | refine NxK.out (by assumption) _ ?_ | refine Nx.out (by assumption) ?_ | refine SpecC.seqW fun K hK => ?_ | refine SpecC.regW T fun K hK => ?_ | refine SpecC.condW fun A B hA hB => ?_ | refine SpecC.block ?_ | refine SpecC.skip ?_ | refine SpecC.label ?_ | refine SpecC.exit ?_ | refine SpecC.goto ?_ | refine SpecC.ret ?_)
 | ((with_reducible first | refine condK.split (fun hb => ?_) (fun hb => ?_) | refine gK.split_t (fun hb => ?_) (fun hb => ?_) | refine gK.split_f (fun hb => ?_) (fun hb => ?_)) <;> try simp only [decide_not, ilt_t, ilt_f, ile_t, ile_f, nlt_t, nlt_f, nle_t, nle_f, Bool.not_eq_true', Bool.not_eq_false', Int.ofNat_lt, Int.ofNat_le] at hb)
 | simp only [go_sem, ↓reduceIte, reduceIte, Nat.reduceEqDiff, String.reduceEq, Nat.reduceLT, Nat.reduceLeDiff, Nat.reduceAdd, Nat.reduceMul, Nat.reduceSub, Nat.reduceBEq, reduceCtorEq, *, -hp, -hpi, -f2]
 | with_reducible refine fun (bn : Bool) hbn => ?_))
        all_goals ((repeat clear hK); (repeat clear hA); (repeat clear hB))
        (refine hM.on (xs.length - (i + 1)) (by omega) (by simp only [go_sem, ↓reduceIte, reduceIte, Nat.reduceEqDiff, String.reduceEq, Nat.reduceLT, Nat.reduceLeDiff, Nat.reduceAdd, Nat.reduceMul, Nat.reduceSub, Nat.reduceBEq, reduceCtorEq, *, w64_nat hlt hl, -f2, -hp, -hpi]) ⟨i + 1, g, o, rfl, by omega, f2, ?_⟩; simp only [go_sem, ↓reduceIte, reduceIte, Nat.reduceEqDiff, String.reduceEq, Nat.reduceLT, Nat.reduceLeDiff, Nat.reduceAdd, Nat.reduceMul, Nat.reduceSub, Nat.reduceBEq, reduceCtorEq, *, w64_nat hlt hl, -f2, -hp, -hpi]; done)
      | true =>
        rw [hpx] at hpi
        cases o with
        | none =>
          have hw : winR p xs[i] none = true := by simp [winR, hpx]
          rw [hw, if_pos rfl] at f2
          (repeat' (first
 | (with_reducible first | refine callX.by (hpi) ?_ | assumption | (refine NxK.out hK _ ?_; clear hK K) | refine NxK.out (by assumption) _ ?_ | refine Nx.out (by assumption) ?_ | refine SpecC.seqW fun K hK => ?_ | refine SpecC.regW T fun K hK => ?_ | refine SpecC.condW fun A B hA hB => ?_ | refine SpecC.block ?_ | refine SpecC.skip ?_ | refine SpecC.label ?_ | refine SpecC.exit ?_ | refine SpecC.goto ?_ | refine SpecC.ret ?_)
 | ((with_reducible first | refine condK.split (fun hb => ?_) (fun hb => ?_) | refine gK.split_t (fun hb => ?_) (fun hb => ?_) | refine gK.split_f (fun hb => ?_) (fun hb => ?_)) <;> try simp only [decide_not, ilt_t, ilt_f, ile_t, ile_f, nlt_t, nlt_f, nle_t, nle_f, Bool.not_eq_true', Bool.not_eq_false', Int.ofNat_lt, Int.ofNat_le] at hb)
 | simp only [go_sem, ↓reduceIte, reduceIte, Nat.reduceEqDiff, String.reduceEq, Nat.reduceLT, Nat.reduceLeDiff, Nat.reduceAdd, Nat.reduceMul, Nat.reduceSub, Nat.reduceBEq, reduceCtorEq, *, -hp, -hpi, -f2, Option.isSome_none, boxR]
 | with_reducible refine fun (bn : Bool) hbn => ?_))
          all_goals ((repeat clear hK); (repeat clear hA); (repeat clear hB))
          (refine hM.on (xs.length - (i + 1)) (by omega) (by simp only [go_sem, ↓reduceIte, reduceIte, Nat.reduceEqDiff, String.reduceEq, Nat.reduceLT, Nat.reduceLeDiff, Nat.reduceAdd, Nat.reduceMul, Nat.reduceSub, Nat.reduceBEq, reduceCtorEq, *, w64_nat hlt hl, -f2, -hp, -hpi, boxR, Option.isSome_some]) ⟨i + 1, g, some xs[i], rfl, by omega, f2, ?_⟩; simp only [go_sem, ↓reduceIte, reduceIte, Nat.reduceEqDiff, String.reduceEq, Nat.reduceLT, Nat.reduceLeDiff, Nat.reduceAdd, Nat.reduceMul, Nat.reduceSub, Nat.reduceBEq, reduceCtorEq, *, w64_nat hlt hl, -f2, -hp, -hpi, boxR, Option.isSome_some]; done)
        | some y =>
          have hb0 := beats_c xs[i].host xs[i].pfx xs[i].split y.host y.pfx y.split
          cases hby : beatsR xs[i] y with
          | true =>
            have hw : winR p xs[i] (some y) = true := by simp [winR, hpx, hby]
            rw [hw, if_pos rfl] at f2
            rw [show beatsR ⟨xs[i].host, xs[i].pfx, xs[i].split⟩ ⟨y.host, y.pfx, y.split⟩ = true from hby] at hb0
            (repeat' (first
 | (with_reducible first | refine callX.by (hpi) ?_ | refine callX.by (hb0) ?_ | assumption | (refine NxK.out hK _ ?_; clear hK K) | refine NxK.out (by assumption) _ ?_ | refine Nx.out (by assumption) ?_ | refine SpecC.seqW fun K hK => ?_ | refine SpecC.regW T fun K hK => ?_ | refine SpecC.condW fun A B hA hB => ?_ | refine SpecC.block ?_ | refine SpecC.skip ?_ | refine SpecC.label ?_ | refine SpecC.exit ?_ | refine SpecC.goto ?_ | refine SpecC.ret ?_)
 | ((with_reducible first | refine condK.split (fun hb => ?_) (fun hb => ?_) | refine gK.split_t (fun hb => ?_) (fun hb => ?_) | refine gK.split_f (fun hb => ?_) (fun hb => ?_)) <;> try simp only [decide_not, ilt_t, ilt_f, ile_t, ile_f, nlt_t, nlt_f, nle_t, nle_f, Bool.not_eq_true', Bool.not_eq_false', Int.ofNat_lt, Int.ofNat_le] at hb)
 | simp only [go_sem, ↓reduceIte, reduceIte, Nat.reduceEqDiff, String.reduceEq, Nat.reduceLT, Nat.reduceLeDiff, Nat.reduceAdd, Nat.reduceMul, Nat.reduceSub, Nat.reduceBEq, reduceCtorEq, *, -hp, -hpi, -hb0, -f2, Option.isSome_some, boxR]
 | with_reducible refine fun (bn : Bool) hbn => ?_))
            all_goals ((repeat clear hK); (repeat clear hA); (repeat clear hB))
            (refine hM.on (xs.length - (i + 1)) (by omega) (by simp only [go_sem, ↓reduceIte, reduceIte, Nat.reduceEqDiff, String.reduceEq, Nat.reduceLT, Nat.reduceLeDiff, Nat.reduceAdd, Nat.reduceMul, Nat.reduceSub, Nat.reduceBEq, reduceCtorEq, *, w64_nat hlt hl, -f2, -hp, -hpi, -hb0, boxR, Option.isSome_some]) ⟨i + 1, g, some xs[i], rfl, by omega, f2, ?_⟩; simp only [go_sem, ↓reduceIte, reduceIte, Nat.reduceEqDiff, String.reduceEq, Nat.reduceLT, Nat.reduceLeDiff, Nat.reduceAdd, Nat.reduceMul, Nat.reduceSub, Nat.reduceBEq, reduceCtorEq, *, w64_nat hlt hl, -f2, -hp, -hpi, -hb0, boxR, Option.isSome_some]; done)
          | false =>
            have hw : winR p xs[i] (some y) = false := by simp [winR, hpx, hby]
            rw [hw, if_neg (by decide)] at f2
            rw [show beatsR ⟨xs[i].host, xs[i].pfx, xs[i].split⟩ ⟨y.host, y.pfx, y.split⟩ = false from hby] at hb0
            (repeat' (first
 | (with_reducible first | refine callX.by (hpi) ?_ | refine callX.by (hb0) ?_ | assumption | (refine NxK.out hK _ ?_; clear hK K) | refine NxK.out (by assumption) _ ?_ | refine Nx.out (by assumption) ?_ | refine SpecC.seqW fun K hK => ?_ | refine SpecC.regW T fun K hK => ?_ | refine SpecC.condW fun A B hA hB => ?_ | refine SpecC.block ?_ | refine SpecC.skip ?_ | refine SpecC.label ?_ | refine SpecC.exit ?_ | refine SpecC.goto ?_ | refine SpecC.ret ?_)
 | ((with_reducible first | refine condK.split (fun hb => ?_) (fun hb => ?_) | refine gK.split_t (fun hb => ?_) (fun hb => ?_) | refine gK.split_f (fun hb => ?_) (fun hb => ?_)) <;> try simp only [decide_not, ilt_t, ilt_f, ile_t, ile_f, nlt_t, nlt_f, nle_t, nle_f, Bool.not_eq_true', Bool.not_eq_false', Int.ofNat_lt, Int.ofNat_le] at hb)
 | simp only [go_sem, ↓reduceIte, reduceIte, Nat.reduceEqDiff, String.reduceEq, Nat.reduceLT, Nat.reduceLeDiff, Nat.reduceAdd, Nat.reduceMul, Nat.reduceSub, Nat.reduceBEq, reduceCtorEq, *, -hp, -hpi, -hb0, -f2, Option.isSome_some, boxR]
 | with_reducible refine fun (bn : Bool) hbn => ?_))
            all_goals ((repeat clear hK); (repeat clear hA); (repeat clear hB))
            (refine hM.on (xs.length - (i + 1)) (by omega) (by simp only [go_sem, ↓reduceIte, reduceIte, Nat.reduceEqDiff, String.reduceEq, Nat.reduceLT, Nat.reduceLeDiff, Nat.reduceAdd, Nat.reduceMul, Nat.reduceSub, Nat.reduceBEq, reduceCtorEq, *, w64_nat hlt hl, -f2, -hp, -hpi, -hb0, boxR, Option.isSome_some]) ⟨i + 1, g, some y, rfl, by omega, f2, ?_⟩; simp only [go_sem, ↓reduceIte, reduceIte, Nat.reduceEqDiff, String.reduceEq, Nat.reduceLT, Nat.reduceLeDiff, Nat.reduceAdd, Nat.reduceMul, Nat.reduceSub, Nat.reduceBEq, reduceCtorEq, *, w64_nat hlt hl, -f2, -hp, -hpi, -hb0, boxR, Option.isSome_some]; done)
    · rw [List.drop_eq_nil_of_le (by omega), bestR] at f2
      rw [f2]
      cases o with
      | none => (repeat' (first
 | (with_reducible first | assumption | (refine NxK.out hK _ ?_; clear hK K) | refine NxK.out (by assumption) _ ?_ | refine Nx.out (by assumption) ?_ | refine SpecC.seqW fun K hK => ?_ | refine SpecC.regW T fun K hK => ?_ | refine SpecC.condW fun A B hA hB => ?_ | refine SpecC.block ?_ | refine SpecC.skip ?_ | refine SpecC.label ?_ | refine SpecC.exit ?_ | refine SpecC.goto ?_ | refine SpecC.ret ?_)
 | ((with_reducible first | refine condK.split (fun hb => ?_) (fun hb => ?_) | refine gK.split_t (fun hb => ?_) (fun hb => ?_) | refine gK.split_f (fun hb => ?_) (fun hb => ?_)) <;> try simp only [decide_not, ilt_t, ilt_f, ile_t, ile_f, nlt_t, nlt_f, nle_t, nle_f, Bool.not_eq_true', Bool.not_eq_false', Int.ofNat_lt, Int.ofNat_le] at hb)
 | simp only [go_sem, ↓reduceIte, reduceIte, Nat.reduceEqDiff, String.reduceEq, Nat.reduceLT, Nat.reduceLeDiff, Nat.reduceAdd, Nat.reduceMul, Nat.reduceSub, Nat.reduceBEq, reduceCtorEq, *, -hp, boxR, Option.isSome_none, Option.getD_none, zRule, avs_nil]
 | with_reducible refine fun (bn : Bool) hbn => ?_))
      | some y => (repeat' (first
 | (with_reducible first | assumption | (refine NxK.out hK _ ?_; clear hK K) | refine NxK.out (by assumption) _ ?_ | refine Nx.out (by assumption) ?_ | refine SpecC.seqW fun K hK => ?_ | refine SpecC.regW T fun K hK => ?_ | refine SpecC.condW fun A B hA hB => ?_ | refine SpecC.block ?_ | refine SpecC.skip ?_ | refine SpecC.label ?_ | refine SpecC.exit ?_ | refine SpecC.goto ?_ | refine SpecC.ret ?_)
 | ((with_reducible first | refine condK.split (fun hb => ?_) (fun hb => ?_) | refine gK.split_t (fun hb => ?_) (fun hb => ?_) | refine gK.split_f (fun hb => ?_) (fun hb => ?_)) <;> try simp only [decide_not, ilt_t, ilt_f, ile_t, ile_f, nlt_t, nlt_f, nle_t, nle_f, Bool.not_eq_true', Bool.not_eq_false', Int.ofNat_lt, Int.ofNat_le] at hb)
 | simp only [go_sem, ↓reduceIte, reduceIte, Nat.reduceEqDiff, String.reduceEq, Nat.reduceLT, Nat.reduceLeDiff, Nat.reduceAdd, Nat.reduceMul, Nat.reduceSub, Nat.reduceBEq, reduceCtorEq, *, -hp, boxR, Option.isSome_some, Option.getD_some]
 | with_reducible refine fun (bn : Bool) hbn => ?_))
def mayR (h pa : List UInt8) (r : Rule) : Bool := matchH r.host h && underP r.pfx pa
set_option maxRecDepth 30000 in
theorem mayRule_c (r_host : List UInt8) (r_pfx : List UInt8) (r_split : List Weight) (h pa : List UInt8) (hr : SmRule (⟨r_host, r_pfx, r_split⟩ : Rule)) (hh : Small h.length) : CallR Tryz.prog 175 [.agg [.str r_host, .str r_pfx, .slice false (avs r_split)], .ro [.str h], .ro [.str pa]] (.val (.bool (mayR h pa (⟨r_host, r_pfx, r_split⟩ : Rule)))) := by
  have h1 : Small r_host.length := hr.1
  have h2 : Small r_pfx.length := hr.2.1
  clear hr
  refine CallR.go3 (T := T) Tryz.call175 Tryz.func175 rfl Tryz.ntmps175 (congrArg Array.toList Tryz.results175) (by decide) fun ts hn h0 h1 h2 => ?_
  (repeat' (first
 | (with_reducible first | refine callX.by (matches_c _ _ ?_ ?_) ?_ | refine callX.by (under_c _ _ ?_) ?_ | assumption | (refine NxK.out hK _ ?_; clear hK K) | refine NxK.out (by assumption) _ ?_ | refine Nx.out (by assumption) ?_ | refine SpecC.seqW fun K hK => ?_ | refine SpecC.regW T fun K hK => ?_ | refine SpecC.condW fun A B hA hB => ?_ | refine SpecC.block ?_ | refine SpecC.skip ?_ | refine SpecC.label ?_ | refine SpecC.exit ?_ | refine SpecC.goto ?_ | refine SpecC.ret ?_)
 | ((with_reducible first | refine condK.split (fun hb => ?_) (fun hb => ?_) | refine gK.split_t (fun hb => ?_) (fun hb => ?_) | refine gK.split_f (fun hb => ?_) (fun hb => ?_)) <;> try simp only [decide_not, ilt_t, ilt_f, ile_t, ile_f, nlt_t, nlt_f, nle_t, nle_f, Bool.not_eq_true', Bool.not_eq_false', Int.ofNat_lt, Int.ofNat_le] at hb)
 | simp only [go_sem, ↓reduceIte, reduceIte, Nat.reduceEqDiff, String.reduceEq, Nat.reduceLT, Nat.reduceLeDiff, Nat.reduceAdd, Nat.reduceMul, Nat.reduceSub, Nat.reduceBEq, reduceCtorEq, *]
 | with_reducible refine fun (bn : Bool) hbn => ?_))
  all_goals ((repeat clear hK); (repeat clear hA); (repeat clear hB))
  all_goals simp_all [mayR]
theorem caps_str2 (a b : List UInt8) : Caps [.ro [.str a], .ro [.str b]] := ⟨by simp only [go_sem, Bool.and_self], by simp only [go_sem]⟩
def pickR (l : List Rule) (h pa : List UInt8) : Option Rule := bestR (mayR h pa) l none
set_option maxRecDepth 30000 in
theorem pickR_c (xs : List Rule) (h pa : List UInt8) (hl : Small xs.length) (hs : ∀ x ∈ xs, SmRule x) (hh : Small h.length) : CallR Tryz.prog 132 [.slice false (avs xs), .str h, .str pa] (.val (.tup [Dat.av ((pickR xs h pa).getD zRule), .bool (pickR xs h pa).isSome])) := by
  have hb := best_c 175 [.ro [.str h], .ro [.str pa]] (caps_str2 h pa) (mayR h pa) xs (fun x hx => mayRule_c x.host x.pfx x.split h pa (hs x hx) hh) hl
  rw [show bestR (mayR h pa) xs none = pickR xs h pa from rfl] at hb
  refine CallR.go3 (T := T) Tryz.call132 Tryz.func132 rfl Tryz.ntmps132 (congrArg Array.toList Tryz.results132) (by decide) fun ts hn h0 h1 h2 => ?_
  (repeat' (first
 | (with_reducible first | refine callX.by (hb) ?_ | refine callX.by (beats_c _ _ _ _ _ _) ?_ | assumption | (refine NxK.out hK _ ?_; clear hK K) | refine NxK.out (by assumption) _ ?_ | refine Nx.out (by assumption) ?_ | refine SpecC.seqW fun K hK => ?_ | refine SpecC.regW T fun K hK => ?_ | refine SpecC.condW fun A B hA hB => ?_ | refine SpecC.block ?_ | refine SpecC.skip ?_ | refine SpecC.label ?_ | refine SpecC.exit ?_ | refine SpecC.goto ?_ | refine SpecC.ret ?_)
 | ((with_reducible first | refine condK.split (fun hb => ?_) (fun hb => ?_) | refine gK.split_t (fun hb => ?_) (fun hb => ?_) | refine gK.split_f (fun hb => ?_) (fun hb => ?_)) <;> try simp only [decide_not, ilt_t, ilt_f, ile_t, ile_f, nlt_t, nlt_f, nle_t, nle_f, Bool.not_eq_true', Bool.not_eq_false', Int.ofNat_lt, Int.ofNat_le] at hb)
 | simp only [go_sem, ↓reduceIte, reduceIte, Nat.reduceEqDiff, String.reduceEq, Nat.reduceLT, Nat.reduceLeDiff, Nat.reduceAdd, Nat.reduceMul, Nat.reduceSub, Nat.reduceBEq, reduceCtorEq, *, -hb, -hs]
 | with_reducible refine fun (bn : Bool) hbn => ?_))
end Go.Proofs.YtndnkbekhmndhaaGreatDoor.Lg
