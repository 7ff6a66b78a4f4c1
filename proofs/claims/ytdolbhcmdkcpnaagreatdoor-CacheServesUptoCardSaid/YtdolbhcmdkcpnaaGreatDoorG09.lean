/- Parts of the proof, one behind the other. -/
import Derived.Laws.RangeAny
import Derived.Test.YtdolbhcmdkcpnaaGreatDoorG08
namespace Go.Proofs.YtdolbhcmdkcpnaaGreatDoor.Lg
set_option maxRecDepth 100000
set_option linter.unusedVariables false
set_option linter.unusedSimpArgs false
open Go
def lowR (c : Int) : Bool := decide (97 ≤ c) && decide (c ≤ 122)
def plainR (c : Int) : Bool := lowR c || (decide (48 ≤ c) && decide (c ≤ 57)) || decide (c = 45)
set_option maxRecDepth 30000 in
theorem low_c (c : Int) : CallR Tryz.prog 165 [.int .i32 c] (.val (.bool (lowR c))) := by
  refine CallR.go1 (T := T) Tryz.call165 Tryz.func165 rfl Tryz.ntmps165 (congrArg Array.toList Tryz.results165) (by decide) fun ts hn h0 => ?_
  (repeat' (first
 | (with_reducible first | assumption | (refine NxK.out hK _ ?_; clear hK K) | refine NxK.out (by assumption) _ ?_ | refine Nx.out (by assumption) ?_ | refine SpecC.seqW fun K hK => ?_ | refine SpecC.regW T fun K hK => ?_ | refine SpecC.condW fun A B hA hB => ?_ | refine SpecC.block ?_ | refine SpecC.skip ?_ | refine SpecC.label ?_ | refine SpecC.exit ?_ | refine SpecC.goto ?_ | refine SpecC.ret ?_)
 | ((with_reducible first | refine condK.split (fun hb => ?_) (fun hb => ?_) | refine gK.split_t (fun hb => ?_) (fun hb => ?_) | refine gK.split_f (fun hb => ?_) (fun hb => ?_)) <;> try simp only [decide_not, ilt_t, ilt_f, ile_t, ile_f, nlt_t, nlt_f, nle_t, nle_f, Bool.not_eq_true', Bool.not_eq_false', Int.ofNat_lt, Int.ofNat_le] at hb)
 | simp only [go_sem, ↓reduceIte, reduceIte, Nat.reduceEqDiff, String.reduceEq, Nat.reduceLT, Nat.reduceLeDiff, Nat.reduceAdd, Nat.reduceMul, Nat.reduceSub, Nat.reduceBEq, reduceCtorEq, *]
 | with_reducible refine fun (bn : Bool) hbn => ?_))
  all_goals ((repeat clear hK); (repeat clear hA); (repeat clear hB))
  all_goals (simp only [lowR]; rw [Bool.eq_iff_iff]; simp only [Bool.and_eq_true, Bool.or_eq_true, Bool.not_eq_true', Bool.false_eq_true, decide_eq_true_eq, decide_eq_false_iff_not, true_and, and_true, true_iff, false_iff, iff_true, iff_false, true_or, or_true, false_or, or_false] at *; omega)
set_option maxRecDepth 30000 in
theorem plain_c (c : Int) : CallR Tryz.prog 164 [.int .i32 c] (.val (.bool (plainR c))) := by
  refine CallR.go1 (T := T) Tryz.call164 Tryz.func164 rfl Tryz.ntmps164 (congrArg Array.toList Tryz.results164) (by decide) fun ts hn h0 => ?_
  (repeat' (first
 | (with_reducible first | refine callX.by (low_c _) ?_ | assumption | (refine NxK.out hK _ ?_; clear hK K) | refine NxK.out (by assumption) _ ?_ | refine Nx.out (by assumption) ?_ | refine SpecC.seqW fun K hK => ?_ | refine SpecC.regW T fun K hK => ?_ | refine SpecC.condW fun A B hA hB => ?_ | refine SpecC.block ?_ | refine SpecC.skip ?_ | refine SpecC.label ?_ | refine SpecC.exit ?_ | refine SpecC.goto ?_ | refine SpecC.ret ?_)
 | ((with_reducible first | refine condK.split (fun hb => ?_) (fun hb => ?_) | refine gK.split_t (fun hb => ?_) (fun hb => ?_) | refine gK.split_f (fun hb => ?_) (fun hb => ?_)) <;> try simp only [decide_not, ilt_t, ilt_f, ile_t, ile_f, nlt_t, nlt_f, nle_t, nle_f, Bool.not_eq_true', Bool.not_eq_false', Int.ofNat_lt, Int.ofNat_le] at hb)
 | simp only [go_sem, ↓reduceIte, reduceIte, Nat.reduceEqDiff, String.reduceEq, Nat.reduceLT, Nat.reduceLeDiff, Nat.reduceAdd, Nat.reduceMul, Nat.reduceSub, Nat.reduceBEq, reduceCtorEq, *]
 | with_reducible refine fun (bn : Bool) hbn => ?_))
  all_goals ((repeat clear hK); (repeat clear hA); (repeat clear hB))
  all_goals (simp only [plainR]; simp_all)
  all_goals (intros; omega)
theorem decL_low {s : List UInt8} {i : Nat} (h : i < s.length) (ha : s[i].toNat < 128) : decL s i = (s[i].toNat, 1) := by
  have h' : i < (⟨s.toArray⟩ : ByteArray).size := by show i < s.toArray.size; simpa using h
  have := decode_ascii ⟨s.toArray⟩ i h' (by show (s.toArray[i]'(by simpa using h)).toNat < 128; simpa using ha)
  rw [decL, this]
  show ((s.toArray[i]'(by simpa using h)).toNat, 1) = _
  simp
theorem decL_high {s : List UInt8} {i : Nat} (h : i < s.length) (ha : ¬ s[i].toNat < 128) : 128 ≤ (decL s i).1 := by
  have h' : i < (⟨s.toArray⟩ : ByteArray).size := by show i < s.toArray.size; simpa using h
  exact (decode_high ⟨s.toArray⟩ i h' (by show 128 ≤ (s.toArray[i]'(by simpa using h)).toNat; simp; omega)).1
theorem plain_high {c : Int} (h : 128 ≤ c) : plainR c = false := by
  simp only [plainR, lowR, Bool.or_eq_false_iff, Bool.and_eq_false_iff, decide_eq_false_iff_not]; omega
def nmL : List UInt8 → Bool → Bool
  | [], _ => true
  | b :: r, f => plainR b.toNat && (!f || lowR b.toNat) && nmL r false
def nmOk (s : List UInt8) : Bool := decide (s.length ≤ 12) && (nmL s true && decide (s ≠ []))
set_option maxRecDepth 30000 in
theorem nmOk_c (s : List UInt8) : CallR Tryz.prog 130 [.str s] (.val (.bool (nmOk s))) := by
  by_cases h12 : 12 < s.length
  · refine CallR.go1 (T := T) Tryz.call130 Tryz.func130 rfl Tryz.ntmps130 (congrArg Array.toList Tryz.results130) (by decide) fun ts hn h0 => ?_
    (repeat' (first
 | (with_reducible first | refine callX.by (plain_c _) ?_ | refine callX.by (low_c _) ?_ | assumption | (refine NxK.out hK _ ?_; clear hK K) | refine NxK.out (by assumption) _ ?_ | refine Nx.out (by assumption) ?_ | refine SpecC.seqW fun K hK => ?_ | refine SpecC.regW T fun K hK => ?_ | refine SpecC.condW fun A B hA hB => ?_ | refine SpecC.block ?_ | refine SpecC.skip ?_ | refine SpecC.label ?_ | refine SpecC.exit ?_ | refine SpecC.goto ?_ | refine SpecC.ret ?_)
 | ((with_reducible first | refine condK.split (fun hb => ?_) (fun hb => ?_) | refine gK.split_t (fun hb => ?_) (fun hb => ?_) | refine gK.split_f (fun hb => ?_) (fun hb => ?_)) <;> try simp only [decide_not, ilt_t, ilt_f, ile_t, ile_f, nlt_t, nlt_f, nle_t, nle_f, Bool.not_eq_true', Bool.not_eq_false', Int.ofNat_lt, Int.ofNat_le] at hb)
 | simp only [go_sem, ↓reduceIte, reduceIte, Nat.reduceEqDiff, String.reduceEq, Nat.reduceLT, Nat.reduceLeDiff, Nat.reduceAdd, Nat.reduceMul, Nat.reduceSub, Nat.reduceBEq, reduceCtorEq, *]
 | with_reducible refine fun (bn : Bool) hbn => ?_))
    all_goals (simp only [nmOk]; simp; omega)
  have h12i : ¬ (12 : Int) < (s.length : Int) := by omega
  have hsm : Small s.length := by unfold Small; omega
  refine CallR.go1 (T := T) Tryz.call130 Tryz.func130 rfl Tryz.ntmps130 (congrArg Array.toList Tryz.results130) (by decide) fun ts hn h0 => ?_
  (repeat' (first
 | (with_reducible first | refine callX.by (plain_c _) ?_ | refine callX.by (low_c _) ?_ | assumption | (refine NxK.out hK _ ?_; clear hK K) | refine NxK.out (by assumption) _ ?_ | refine Nx.out (by assumption) ?_ | refine SpecC.seqW fun K hK => ?_ | refine SpecC.regW T fun K hK => ?_ | refine SpecC.condW fun A B hA hB => ?_ | refine SpecC.block ?_ | refine SpecC.skip ?_ | refine SpecC.label ?_ | refine SpecC.exit ?_ | refine SpecC.goto ?_ | refine SpecC.ret ?_)
 | ((with_reducible first | refine condK.split (fun hb => ?_) (fun hb => ?_) | refine gK.split_t (fun hb => ?_) (fun hb => ?_) | refine gK.split_f (fun hb => ?_) (fun hb => ?_)) <;> try simp only [decide_not, ilt_t, ilt_f, ile_t, ile_f, nlt_t, nlt_f, nle_t, nle_f, Bool.not_eq_true', Bool.not_eq_false', Int.ofNat_lt, Int.ofNat_le] at hb)
 | simp only [go_sem, ↓reduceIte, reduceIte, Nat.reduceEqDiff, String.reduceEq, Nat.reduceLT, Nat.reduceLeDiff, Nat.reduceAdd, Nat.reduceMul, Nat.reduceSub, Nat.reduceBEq, reduceCtorEq, *]
 | with_reducible refine fun (bn : Bool) hbn => ?_))
  refine SpecC.loopF [0] (fun m ts' => ∃ (i : Nat), ∃ (u : Nat), m = s.length - i ∧ i ≤ s.length ∧ nmL s true = nmL (s.drop i) (decide (i = 0)) ∧ ts'.tmp 9 = .ref 9 u 0 ∧ ts'.gen 9 = u ∧ ts'.obj 9 = .iter s i) s.length ?_ ?_
  · refine ⟨0, ts.gen 9 + 1, ?_⟩
    simp only [go_sem, ↓reduceIte, reduceIte, Nat.reduceEqDiff, String.reduceEq, Nat.reduceLT, Nat.reduceLeDiff, Nat.reduceAdd, Nat.reduceMul, Nat.reduceSub, Nat.reduceBEq, reduceCtorEq, *]
  · rintro m A hM ts' hk ⟨i, u, hm, f1, f2, s1, s2, s3⟩
    simp only [go_sem, ↓reduceIte, reduceIte, Nat.reduceEqDiff, String.reduceEq, Nat.reduceLT, Nat.reduceLeDiff, Nat.reduceAdd, Nat.reduceMul, Nat.reduceSub, Nat.reduceBEq, reduceCtorEq, *] at hk
    by_cases hlt : i < s.length
    · rw [List.drop_eq_getElem_cons hlt, nmL] at f2
      by_cases ha : s[i].toNat < 128
      · have hd := decL_low hlt ha
        (repeat' (first
 | (with_reducible first | refine callX.by (plain_c _) ?_ | refine callX.by (low_c _) ?_ | assumption | (refine NxK.out hK _ ?_; clear hK K) | refine NxK.out (by assumption) _ ?_ | refine Nx.out (by assumption) ?_ | refine SpecC.seqW fun K hK => ?_ | refine SpecC.regW T fun K hK => ?_ | refine SpecC.condW fun A B hA hB => ?_ | refine SpecC.block ?_ | refine SpecC.skip ?_ | refine SpecC.label ?_ | refine SpecC.exit ?_ | refine SpecC.goto ?_ | refine SpecC.ret ?_)
 | ((with_reducible first | refine condK.split (fun hb => ?_) (fun hb => ?_) | refine gK.split_t (fun hb => ?_) (fun hb => ?_) | refine gK.split_f (fun hb => ?_) (fun hb => ?_)) <;> try simp only [decide_not, ilt_t, ilt_f, ile_t, ile_f, nlt_t, nlt_f, nle_t, nle_f, Bool.not_eq_true', Bool.not_eq_false', Int.ofNat_lt, Int.ofNat_le] at hb)
 | simp only [go_sem, ↓reduceIte, reduceIte, Nat.reduceEqDiff, String.reduceEq, Nat.reduceLT, Nat.reduceLeDiff, Nat.reduceAdd, Nat.reduceMul, Nat.reduceSub, Nat.reduceBEq, reduceCtorEq, *, -f2]
 | with_reducible refine fun (bn : Bool) hbn => ?_))
        all_goals ((repeat clear hK); (repeat clear hA); (repeat clear hB))
        all_goals first
          | (refine hM.on (s.length - (i + 1)) (by omega) (by simp only [go_sem, ↓reduceIte, reduceIte, Nat.reduceEqDiff, String.reduceEq, Nat.reduceLT, Nat.reduceLeDiff, Nat.reduceAdd, Nat.reduceMul, Nat.reduceSub, Nat.reduceBEq, reduceCtorEq, *, -f2]) ⟨i + 1, u, rfl, by omega, by clear hM; rw [f2]; simp_all, ?_⟩; simp only [go_sem, ↓reduceIte, reduceIte, Nat.reduceEqDiff, String.reduceEq, Nat.reduceLT, Nat.reduceLeDiff, Nat.reduceAdd, Nat.reduceMul, Nat.reduceSub, Nat.reduceBEq, reduceCtorEq, *, -f2]; done)
          | (clear hM; simp_all [nmOk]; done)
          | (clear hM; grind [nmOk])
      · have hd := decL_high hlt ha
        have hp := plain_high (c := ((decL s i).1 : Int)) (by omega)
        have hp2 := plain_high (c := (s[i].toNat : Int)) (by omega)
        rw [hp2] at f2
        (repeat' (first
 | (with_reducible first | refine callX.by (plain_c _) ?_ | refine callX.by (low_c _) ?_ | assumption | (refine NxK.out hK _ ?_; clear hK K) | refine NxK.out (by assumption) _ ?_ | refine Nx.out (by assumption) ?_ | refine SpecC.seqW fun K hK => ?_ | refine SpecC.regW T fun K hK => ?_ | refine SpecC.condW fun A B hA hB => ?_ | refine SpecC.block ?_ | refine SpecC.skip ?_ | refine SpecC.label ?_ | refine SpecC.exit ?_ | refine SpecC.goto ?_ | refine SpecC.ret ?_)
 | ((with_reducible first | refine condK.split (fun hb => ?_) (fun hb => ?_) | refine gK.split_t (fun hb => ?_) (fun hb => ?_) | refine gK.split_f (fun hb => ?_) (fun hb => ?_)) <;> try simp only [decide_not, ilt_t, ilt_f, ile_t, ile_f, nlt_t, nlt_f, nle_t, nle_f, Bool.not_eq_true', Bool.not_eq_false', Int.ofNat_lt, Int.ofNat_le] at hb)
 | simp only [go_sem, ↓reduceIte, reduceIte, Nat.reduceEqDiff, String.reduceEq, Nat.reduceLT, Nat.reduceLeDiff, Nat.reduceAdd, Nat.reduceMul, Nat.reduceSub, Nat.reduceBEq, reduceCtorEq, *, -f2]
 | with_reducible refine fun (bn : Bool) hbn => ?_))
        all_goals ((repeat clear hK); (repeat clear hA); (repeat clear hB))
        all_goals (clear hM; simp_all [nmOk]; done)
    · rw [List.drop_eq_nil_of_le (by omega), nmL] at f2
      (repeat' (first
 | (with_reducible first | refine callX.by (plain_c _) ?_ | refine callX.by (low_c _) ?_ | assumption | (refine NxK.out hK _ ?_; clear hK K) | refine NxK.out (by assumption) _ ?_ | refine Nx.out (by assumption) ?_ | refine SpecC.seqW fun K hK => ?_ | refine SpecC.regW T fun K hK => ?_ | refine SpecC.condW fun A B hA hB => ?_ | refine SpecC.block ?_ | refine SpecC.skip ?_ | refine SpecC.label ?_ | refine SpecC.exit ?_ | refine SpecC.goto ?_ | refine SpecC.ret ?_)
 | ((with_reducible first | refine condK.split (fun hb => ?_) (fun hb => ?_) | refine gK.split_t (fun hb => ?_) (fun hb => ?_) | refine gK.split_f (fun hb => ?_) (fun hb => ?_)) <;> try simp only [decide_not, ilt_t, ilt_f, ile_t, ile_f, nlt_t, nlt_f, nle_t, nle_f, Bool.not_eq_true', Bool.not_eq_false', Int.ofNat_lt, Int.ofNat_le] at hb)
 | simp only [go_sem, ↓reduceIte, reduceIte, Nat.reduceEqDiff, String.reduceEq, Nat.reduceLT, Nat.reduceLeDiff, Nat.reduceAdd, Nat.reduceMul, Nat.reduceSub, Nat.reduceBEq, reduceCtorEq, *, -f2]
 | with_reducible refine fun (bn : Bool) hbn => ?_))
      all_goals ((repeat clear hK); (repeat clear hA); (repeat clear hB))
      all_goals (clear hM; rw [nmOk, f2]; simp; omega)
def hasPfx (s p : List UInt8) : Bool := decide (p.length ≤ s.length) && decide (s.take p.length = p)
set_option maxRecDepth 30000 in
theorem hasPfx1_c (s p : List UInt8) : CallR Tryz.prog 215 [.str s, .str p] (.val (.bool (hasPfx s p))) := by
  by_cases hle : p.length ≤ s.length
  · refine CallR.go2 (T := T) Tryz.call215 Tryz.func215 rfl Tryz.ntmps215 (congrArg Array.toList Tryz.results215) (by decide) fun ts hn h0 h1 => ?_
    (repeat' (first
 | (with_reducible first | assumption | (refine NxK.out hK _ ?_; clear hK K) | refine NxK.out (by assumption) _ ?_ | refine Nx.out (by assumption) ?_ | refine SpecC.seqW fun K hK => ?_ | refine SpecC.regW T fun K hK => ?_ | refine SpecC.condW fun A B hA hB => ?_ | refine SpecC.block ?_ | refine SpecC.skip ?_ | refine SpecC.label ?_ | refine SpecC.exit ?_ | refine SpecC.goto ?_ | refine SpecC.ret ?_)
 | ((with_reducible first | refine condK.split (fun hb => ?_) (fun hb => ?_) | refine gK.split_t (fun hb => ?_) (fun hb => ?_) | refine gK.split_f (fun hb => ?_) (fun hb => ?_)) <;> try simp only [decide_not, ilt_t, ilt_f, ile_t, ile_f, nlt_t, nlt_f, nle_t, nle_f, Bool.not_eq_true', Bool.not_eq_false', Int.ofNat_lt, Int.ofNat_le] at hb)
 | simp only [go_sem, ↓reduceIte, reduceIte, Nat.reduceEqDiff, String.reduceEq, Nat.reduceLT, Nat.reduceLeDiff, Nat.reduceAdd, Nat.reduceMul, Nat.reduceSub, Nat.reduceBEq, reduceCtorEq, *, Int.le_refl, Int.toNat_zero, List.drop_zero]
 | with_reducible refine fun (bn : Bool) hbn => ?_))
    all_goals ((repeat clear hK); (repeat clear hA); (repeat clear hB))
    all_goals simp [hasPfx, hle]
  · refine CallR.go2 (T := T) Tryz.call215 Tryz.func215 rfl Tryz.ntmps215 (congrArg Array.toList Tryz.results215) (by decide) fun ts hn h0 h1 => ?_
    (repeat' (first
 | (with_reducible first | assumption | (refine NxK.out hK _ ?_; clear hK K) | refine NxK.out (by assumption) _ ?_ | refine Nx.out (by assumption) ?_ | refine SpecC.seqW fun K hK => ?_ | refine SpecC.regW T fun K hK => ?_ | refine SpecC.condW fun A B hA hB => ?_ | refine SpecC.block ?_ | refine SpecC.skip ?_ | refine SpecC.label ?_ | refine SpecC.exit ?_ | refine SpecC.goto ?_ | refine SpecC.ret ?_)
 | ((with_reducible first | refine condK.split (fun hb => ?_) (fun hb => ?_) | refine gK.split_t (fun hb => ?_) (fun hb => ?_) | refine gK.split_f (fun hb => ?_) (fun hb => ?_)) <;> try simp only [decide_not, ilt_t, ilt_f, ile_t, ile_f, nlt_t, nlt_f, nle_t, nle_f, Bool.not_eq_true', Bool.not_eq_false', Int.ofNat_lt, Int.ofNat_le] at hb)
 | simp only [go_sem, ↓reduceIte, reduceIte, Nat.reduceEqDiff, String.reduceEq, Nat.reduceLT, Nat.reduceLeDiff, Nat.reduceAdd, Nat.reduceMul, Nat.reduceSub, Nat.reduceBEq, reduceCtorEq, *]
 | with_reducible refine fun (bn : Bool) hbn => ?_))
    all_goals ((repeat clear hK); (repeat clear hA); (repeat clear hB))
    all_goals simp [hasPfx, hle]
set_option maxRecDepth 30000 in
theorem hasPfx_c (s p : List UInt8) : CallR Tryz.prog 210 [.str s, .str p] (.val (.bool (hasPfx s p))) := by
  refine CallR.go2 (T := T) Tryz.call210 Tryz.func210 rfl Tryz.ntmps210 (congrArg Array.toList Tryz.results210) (by decide) fun ts hn h0 h1 => ?_
  (repeat' (first
 | (with_reducible first | refine callX.by (hasPfx1_c _ _) ?_ | assumption | (refine NxK.out hK _ ?_; clear hK K) | refine NxK.out (by assumption) _ ?_ | refine Nx.out (by assumption) ?_ | refine SpecC.seqW fun K hK => ?_ | refine SpecC.regW T fun K hK => ?_ | refine SpecC.condW fun A B hA hB => ?_ | refine SpecC.block ?_ | refine SpecC.skip ?_ | refine SpecC.label ?_ | refine SpecC.exit ?_ | refine SpecC.goto ?_ | refine SpecC.ret ?_)
 | ((with_reducible first | refine condK.split (fun hb => ?_) (fun hb => ?_) | refine gK.split_t (fun hb => ?_) (fun hb => ?_) | refine gK.split_f (fun hb => ?_) (fun hb => ?_)) <;> try simp only [decide_not, ilt_t, ilt_f, ile_t, ile_f, nlt_t, nlt_f, nle_t, nle_f, Bool.not_eq_true', Bool.not_eq_false', Int.ofNat_lt, Int.ofNat_le] at hb)
 | simp only [go_sem, ↓reduceIte, reduceIte, Nat.reduceEqDiff, String.reduceEq, Nat.reduceLT, Nat.reduceLeDiff, Nat.reduceAdd, Nat.reduceMul, Nat.reduceSub, Nat.reduceBEq, reduceCtorEq, *]
 | with_reducible refine fun (bn : Bool) hbn => ?_))
def trimPfx (s p : List UInt8) : List UInt8 := if hasPfx s p = true then s.drop p.length else s
set_option maxRecDepth 30000 in
theorem trimPfx1_c (s p : List UInt8) : CallR Tryz.prog 214 [.str s, .str p] (.val (.str (trimPfx s p))) := by
  by_cases hp : hasPfx s p = true
  · have hle : p.length ≤ s.length := by
      have := hp
      simp only [hasPfx, Bool.and_eq_true, decide_eq_true_eq] at this
      exact this.1
    have ht : (s.drop p.length).take (s.length - p.length) = s.drop p.length := List.take_of_length_le (by simp)
    refine CallR.go2 (T := T) Tryz.call214 Tryz.func214 rfl Tryz.ntmps214 (congrArg Array.toList Tryz.results214) (by decide) fun ts hn h0 h1 => ?_
    (repeat' (first
 | (with_reducible first | refine callX.by (hasPfx1_c _ _) ?_ | assumption | (refine NxK.out hK _ ?_; clear hK K) | refine NxK.out (by assumption) _ ?_ | refine Nx.out (by assumption) ?_ | refine SpecC.seqW fun K hK => ?_ | refine SpecC.regW T fun K hK => ?_ | refine SpecC.condW fun A B hA hB => ?_ | refine SpecC.block ?_ | refine SpecC.skip ?_ | refine SpecC.label ?_ | refine SpecC.exit ?_ | refine SpecC.goto ?_ | refine SpecC.ret ?_)
 | ((with_reducible first | refine condK.split (fun hb => ?_) (fun hb => ?_) | refine gK.split_t (fun hb => ?_) (fun hb => ?_) | refine gK.split_f (fun hb => ?_) (fun hb => ?_)) <;> try simp only [decide_not, ilt_t, ilt_f, ile_t, ile_f, nlt_t, nlt_f, nle_t, nle_f, Bool.not_eq_true', Bool.not_eq_false', Int.ofNat_lt, Int.ofNat_le] at hb)
 | simp only [go_sem, ↓reduceIte, reduceIte, Nat.reduceEqDiff, String.reduceEq, Nat.reduceLT, Nat.reduceLeDiff, Nat.reduceAdd, Nat.reduceMul, Nat.reduceSub, Nat.reduceBEq, reduceCtorEq, *]
 | with_reducible refine fun (bn : Bool) hbn => ?_))
    all_goals ((repeat clear hK); (repeat clear hA); (repeat clear hB))
    all_goals simp [trimPfx, hp]
  · have hp' : hasPfx s p = false := by simpa using hp
    refine CallR.go2 (T := T) Tryz.call214 Tryz.func214 rfl Tryz.ntmps214 (congrArg Array.toList Tryz.results214) (by decide) fun ts hn h0 h1 => ?_
    (repeat' (first
 | (with_reducible first | refine callX.by (hasPfx1_c _ _) ?_ | assumption | (refine NxK.out hK _ ?_; clear hK K) | refine NxK.out (by assumption) _ ?_ | refine Nx.out (by assumption) ?_ | refine SpecC.seqW fun K hK => ?_ | refine SpecC.regW T fun K hK => ?_ | refine SpecC.condW fun A B hA hB => ?_ | refine SpecC.block ?_ | refine SpecC.skip ?_ | refine SpecC.label ?_ | refine SpecC.exit ?_ | refine SpecC.goto ?_ | refine SpecC.ret ?_)
 | ((with_reducible first | refine condK.split (fun hb => ?_) (fun hb => ?_) | refine gK.split_t (fun hb => ?_) (fun hb => ?_) | refine gK.split_f (fun hb => ?_) (fun hb => ?_)) <;> try simp only [decide_not, ilt_t, ilt_f, ile_t, ile_f, nlt_t, nlt_f, nle_t, nle_f, Bool.not_eq_true', Bool.not_eq_false', Int.ofNat_lt, Int.ofNat_le] at hb)
 | simp only [go_sem, ↓reduceIte, reduceIte, Nat.reduceEqDiff, String.reduceEq, Nat.reduceLT, Nat.reduceLeDiff, Nat.reduceAdd, Nat.reduceMul, Nat.reduceSub, Nat.reduceBEq, reduceCtorEq, *]
 | with_reducible refine fun (bn : Bool) hbn => ?_))
    all_goals ((repeat clear hK); (repeat clear hA); (repeat clear hB))
    all_goals simp [trimPfx, hp']
set_option maxRecDepth 30000 in
theorem trimPfx_c (s p : List UInt8) : CallR Tryz.prog 209 [.str s, .str p] (.val (.str (trimPfx s p))) := by
  refine CallR.go2 (T := T) Tryz.call209 Tryz.func209 rfl Tryz.ntmps209 (congrArg Array.toList Tryz.results209) (by decide) fun ts hn h0 h1 => ?_
  (repeat' (first
 | (with_reducible first | refine callX.by (trimPfx1_c _ _) ?_ | assumption | (refine NxK.out hK _ ?_; clear hK K) | refine NxK.out (by assumption) _ ?_ | refine Nx.out (by assumption) ?_ | refine SpecC.seqW fun K hK => ?_ | refine SpecC.regW T fun K hK => ?_ | refine SpecC.condW fun A B hA hB => ?_ | refine SpecC.block ?_ | refine SpecC.skip ?_ | refine SpecC.label ?_ | refine SpecC.exit ?_ | refine SpecC.goto ?_ | refine SpecC.ret ?_)
 | ((with_reducible first | refine condK.split (fun hb => ?_) (fun hb => ?_) | refine gK.split_t (fun hb => ?_) (fun hb => ?_) | refine gK.split_f (fun hb => ?_) (fun hb => ?_)) <;> try simp only [decide_not, ilt_t, ilt_f, ile_t, ile_f, nlt_t, nlt_f, nle_t, nle_f, Bool.not_eq_true', Bool.not_eq_false', Int.ofNat_lt, Int.ofNat_le] at hb)
 | simp only [go_sem, ↓reduceIte, reduceIte, Nat.reduceEqDiff, String.reduceEq, Nat.reduceLT, Nat.reduceLeDiff, Nat.reduceAdd, Nat.reduceMul, Nat.reduceSub, Nat.reduceBEq, reduceCtorEq, *]
 | with_reducible refine fun (bn : Bool) hbn => ?_))
def pthL : List UInt8 → Bool
  | [] => true
  | b :: r => (plainR b.toNat || decide ((b.toNat : Int) = 47)) && pthL r
def pthOk (s : List UInt8) : Bool := pthL s && (decide (s.length ≤ 40) && hasPfx s [47])
set_option maxRecDepth 30000 in
theorem pthOk_c (s : List UInt8) : CallR Tryz.prog 198 [.str s] (.val (.bool (pthOk s))) := by
  refine CallR.go1 (T := T) Tryz.call198 Tryz.func198 rfl Tryz.ntmps198 (congrArg Array.toList Tryz.results198) (by decide) fun ts hn h0 => ?_
  (repeat' (first
 | (with_reducible first | refine callX.by (plain_c _) ?_ | refine callX.by (hasPfx_c _ _) ?_ | assumption | (refine NxK.out hK _ ?_; clear hK K) | refine NxK.out (by assumption) _ ?_ | refine Nx.out (by assumption) ?_ | refine SpecC.seqW fun K hK => ?_ | refine SpecC.regW T fun K hK => ?_ | refine SpecC.condW fun A B hA hB => ?_ | refine SpecC.block ?_ | refine SpecC.skip ?_ | refine SpecC.label ?_ | refine SpecC.exit ?_ | refine SpecC.goto ?_ | refine SpecC.ret ?_)
 | ((with_reducible first | refine condK.split (fun hb => ?_) (fun hb => ?_) | refine gK.split_t (fun hb => ?_) (fun hb => ?_) | refine gK.split_f (fun hb => ?_) (fun hb => ?_)) <;> try simp only [decide_not, ilt_t, ilt_f, ile_t, ile_f, nlt_t, nlt_f, nle_t, nle_f, Bool.not_eq_true', Bool.not_eq_false', Int.ofNat_lt, Int.ofNat_le] at hb)
 | simp only [go_sem, ↓reduceIte, reduceIte, Nat.reduceEqDiff, String.reduceEq, Nat.reduceLT, Nat.reduceLeDiff, Nat.reduceAdd, Nat.reduceMul, Nat.reduceSub, Nat.reduceBEq, reduceCtorEq, *]
 | with_reducible refine fun (bn : Bool) hbn => ?_))
  refine SpecC.loopF [0] (fun m ts' => ∃ (i : Nat), ∃ (u : Nat), m = s.length - i ∧ i ≤ s.length ∧ pthL s = pthL (s.drop i) ∧ ts'.tmp 6 = .ref 6 u 0 ∧ ts'.gen 6 = u ∧ ts'.obj 6 = .iter s i) s.length ?_ ?_
  · refine ⟨0, ts.gen 6 + 1, ?_⟩
    simp only [go_sem, ↓reduceIte, reduceIte, Nat.reduceEqDiff, String.reduceEq, Nat.reduceLT, Nat.reduceLeDiff, Nat.reduceAdd, Nat.reduceMul, Nat.reduceSub, Nat.reduceBEq, reduceCtorEq, *]
  · rintro m A hM ts' hk ⟨i, u, hm, f1, f2, s1, s2, s3⟩
    simp only [go_sem, ↓reduceIte, reduceIte, Nat.reduceEqDiff, String.reduceEq, Nat.reduceLT, Nat.reduceLeDiff, Nat.reduceAdd, Nat.reduceMul, Nat.reduceSub, Nat.reduceBEq, reduceCtorEq, *] at hk
    by_cases hlt : i < s.length
    · rw [List.drop_eq_getElem_cons hlt, pthL] at f2
      by_cases ha : s[i].toNat < 128
      · have hd := decL_low hlt ha
        (repeat' (first
 | (with_reducible first | refine callX.by (plain_c _) ?_ | refine callX.by (hasPfx_c _ _) ?_ | assumption | (refine NxK.out hK _ ?_; clear hK K) | refine NxK.out (by assumption) _ ?_ | refine Nx.out (by assumption) ?_ | refine SpecC.seqW fun K hK => ?_ | refine SpecC.regW T fun K hK => ?_ | refine SpecC.condW fun A B hA hB => ?_ | refine SpecC.block ?_ | refine SpecC.skip ?_ | refine SpecC.label ?_ | refine SpecC.exit ?_ | refine SpecC.goto ?_ | refine SpecC.ret ?_)
 | ((with_reducible first | refine condK.split (fun hb => ?_) (fun hb => ?_) | refine gK.split_t (fun hb => ?_) (fun hb => ?_) | refine gK.split_f (fun hb => ?_) (fun hb => ?_)) <;> try simp only [decide_not, ilt_t, ilt_f, ile_t, ile_f, nlt_t, nlt_f, nle_t, nle_f, Bool.not_eq_true', Bool.not_eq_false', Int.ofNat_lt, Int.ofNat_le] at hb)
 | simp only [go_sem, ↓reduceIte, reduceIte, Nat.reduceEqDiff, String.reduceEq, Nat.reduceLT, Nat.reduceLeDiff, Nat.reduceAdd, Nat.reduceMul, Nat.reduceSub, Nat.reduceBEq, reduceCtorEq, *, -f2]
 | with_reducible refine fun (bn : Bool) hbn => ?_))
        all_goals ((repeat clear hK); (repeat clear hA); (repeat clear hB))
        all_goals first
          | (refine hM.on (s.length - (i + 1)) (by omega) (by simp only [go_sem, ↓reduceIte, reduceIte, Nat.reduceEqDiff, String.reduceEq, Nat.reduceLT, Nat.reduceLeDiff, Nat.reduceAdd, Nat.reduceMul, Nat.reduceSub, Nat.reduceBEq, reduceCtorEq, *, -f2]) ⟨i + 1, u, rfl, by omega, by clear hM; rw [f2]; simp_all, ?_⟩; simp only [go_sem, ↓reduceIte, reduceIte, Nat.reduceEqDiff, String.reduceEq, Nat.reduceLT, Nat.reduceLeDiff, Nat.reduceAdd, Nat.reduceMul, Nat.reduceSub, Nat.reduceBEq, reduceCtorEq, *, -f2]; done)
          | (clear hM; simp_all [pthOk]; done)
          | (clear hM; grind [pthOk])
      · have hd := decL_high hlt ha
        have hp := plain_high (c := ((decL s i).1 : Int)) (by omega)
        have hp2 := plain_high (c := (s[i].toNat : Int)) (by omega)
        have hp3 : ¬ ((decL s i).1 : Int) = 47 := by omega
        have hp4 : ¬ (s[i].toNat : Int) = 47 := by omega
        rw [hp2, decide_eq_false hp4] at f2
        (repeat' (first
 | (with_reducible first | refine callX.by (plain_c _) ?_ | refine callX.by (hasPfx_c _ _) ?_ | assumption | (refine NxK.out hK _ ?_; clear hK K) | refine NxK.out (by assumption) _ ?_ | refine Nx.out (by assumption) ?_ | refine SpecC.seqW fun K hK => ?_ | refine SpecC.regW T fun K hK => ?_ | refine SpecC.condW fun A B hA hB => ?_ | refine SpecC.block ?_ | refine SpecC.skip ?_ | refine SpecC.label ?_ | refine SpecC.exit ?_ | refine SpecC.goto ?_ | refine SpecC.ret ?_)
 | ((with_reducible first | refine condK.split (fun hb => ?_) (fun hb => ?_) | refine gK.split_t (fun hb => ?_) (fun hb => ?_) | refine gK.split_f (fun hb => ?_) (fun hb => ?_)) <;> try simp only [decide_not, ilt_t, ilt_f, ile_t, ile_f, nlt_t, nlt_f, nle_t, nle_f, Bool.not_eq_true', Bool.not_eq_false', Int.ofNat_lt, Int.ofNat_le] at hb)
 | simp only [go_sem, ↓reduceIte, reduceIte, Nat.reduceEqDiff, String.reduceEq, Nat.reduceLT, Nat.reduceLeDiff, Nat.reduceAdd, Nat.reduceMul, Nat.reduceSub, Nat.reduceBEq, reduceCtorEq, *, -f2]
 | with_reducible refine fun (bn : Bool) hbn => ?_))
        all_goals ((repeat clear hK); (repeat clear hA); (repeat clear hB))
        all_goals (clear hM; simp_all [pthOk]; done)
    · rw [List.drop_eq_nil_of_le (by omega), pthL] at f2
      (repeat' (first
 | (with_reducible first | refine callX.by (plain_c _) ?_ | refine callX.by (hasPfx_c _ _) ?_ | assumption | (refine NxK.out hK _ ?_; clear hK K) | refine NxK.out (by assumption) _ ?_ | refine Nx.out (by assumption) ?_ | refine SpecC.seqW fun K hK => ?_ | refine SpecC.regW T fun K hK => ?_ | refine SpecC.condW fun A B hA hB => ?_ | refine SpecC.block ?_ | refine SpecC.skip ?_ | refine SpecC.label ?_ | refine SpecC.exit ?_ | refine SpecC.goto ?_ | refine SpecC.ret ?_)
 | ((with_reducible first | refine condK.split (fun hb => ?_) (fun hb => ?_) | refine gK.split_t (fun hb => ?_) (fun hb => ?_) | refine gK.split_f (fun hb => ?_) (fun hb => ?_)) <;> try simp only [decide_not, ilt_t, ilt_f, ile_t, ile_f, nlt_t, nlt_f, nle_t, nle_f, Bool.not_eq_true', Bool.not_eq_false', Int.ofNat_lt, Int.ofNat_le] at hb)
 | simp only [go_sem, ↓reduceIte, reduceIte, Nat.reduceEqDiff, String.reduceEq, Nat.reduceLT, Nat.reduceLeDiff, Nat.reduceAdd, Nat.reduceMul, Nat.reduceSub, Nat.reduceBEq, reduceCtorEq, *, -f2]
 | with_reducible refine fun (bn : Bool) hbn => ?_))
      all_goals ((repeat clear hK); (repeat clear hA); (repeat clear hB))
      all_goals (clear hM; simp_all [pthOk])
      all_goals (intros; omega)
def idxB (s : List UInt8) (c : UInt8) : Int := Lib.indexByte s c
theorem idxByteS_c (s : List UInt8) (c : UInt8) : CallR Tryz.prog 226 [.str s, .int .u8 c.toNat] (.val (.int .i64 (idxB s c))) := by
  refine CallP.extn rfl fun vals w c1 hs hv => ?_
  have h0 := hv 0
  have h1 := hv 1
  obtain ⟨s1, e0, hs0⟩ := rep_str h0
  have e1 := rep_int h1
  have hvals : vals = #[.string s1, .int .u8 c.toNat] := by
    apply Array.ext
    · simpa using hs
    · intro i h1 h2
      have hi : i < 2 := by rw [hs] at h1; simpa using h1
      match i, hi with
      | 0, _ => rw [Array.getD_eq_getD_getElem?, Array.getElem?_eq_getElem h1] at e0; simpa using e0
      | 1, _ => rw [Array.getD_eq_getD_getElem?, Array.getElem?_eq_getElem h1] at e1; simpa using e1
  refine ⟨_, ?_, .int _ _⟩
  rw [hvals, run_callFunc_extern Tryz.func226 (by kernel_rfl) (by kernel_rfl) (by kernel_rfl) (e := Extern.BytealgIndexByte.indexByte) (by kernel_rfl), Lib.run_indexByteString]
  simp [Result.andThen, idxB, hs0]
set_option maxRecDepth 30000 in
theorem idxByte_c (s : List UInt8) (c : UInt8) : CallR Tryz.prog 222 [.str s, .int .u8 c.toNat] (.val (.int .i64 (idxB s c))) := by
  refine CallR.go2 (T := T) Tryz.call222 Tryz.func222 rfl Tryz.ntmps222 (congrArg Array.toList Tryz.results222) (by decide) fun ts hn h0 h1 => ?_
  (repeat' (first
 | (with_reducible first | refine callX.by (idxByteS_c _ _) ?_ | assumption | (refine NxK.out hK _ ?_; clear hK K) | refine NxK.out (by assumption) _ ?_ | refine Nx.out (by assumption) ?_ | refine SpecC.seqW fun K hK => ?_ | refine SpecC.regW T fun K hK => ?_ | refine SpecC.condW fun A B hA hB => ?_ | refine SpecC.block ?_ | refine SpecC.skip ?_ | refine SpecC.label ?_ | refine SpecC.exit ?_ | refine SpecC.goto ?_ | refine SpecC.ret ?_)
 | ((with_reducible first | refine condK.split (fun hb => ?_) (fun hb => ?_) | refine gK.split_t (fun hb => ?_) (fun hb => ?_) | refine gK.split_f (fun hb => ?_) (fun hb => ?_)) <;> try simp only [decide_not, ilt_t, ilt_f, ile_t, ile_f, nlt_t, nlt_f, nle_t, nle_f, Bool.not_eq_true', Bool.not_eq_false', Int.ofNat_lt, Int.ofNat_le] at hb)
 | simp only [go_sem, ↓reduceIte, reduceIte, Nat.reduceEqDiff, String.reduceEq, Nat.reduceLT, Nat.reduceLeDiff, Nat.reduceAdd, Nat.reduceMul, Nat.reduceSub, Nat.reduceBEq, reduceCtorEq, *]
 | with_reducible refine fun (bn : Bool) hbn => ?_))
set_option maxRecDepth 30000 in
theorem idxDot1_c (s : List UInt8) : CallR Tryz.prog 221 [.str s, .str [46]] (.val (.int .i64 (idxB s 46))) := by
  have h := idxByte_c s 46
  refine CallR.go2 (T := T) Tryz.call221 Tryz.func221 rfl Tryz.ntmps221 (congrArg Array.toList Tryz.results221) (by decide) fun ts hn h0 h1 => ?_
  (repeat' (first
 | (with_reducible first | refine callX.by (h) ?_ | refine callX.by (idxByte_c _ _) ?_ | assumption | (refine NxK.out hK _ ?_; clear hK K) | refine NxK.out (by assumption) _ ?_ | refine Nx.out (by assumption) ?_ | refine SpecC.seqW fun K hK => ?_ | refine SpecC.regW T fun K hK => ?_ | refine SpecC.condW fun A B hA hB => ?_ | refine SpecC.block ?_ | refine SpecC.skip ?_ | refine SpecC.label ?_ | refine SpecC.exit ?_ | refine SpecC.goto ?_ | refine SpecC.ret ?_)
 | ((with_reducible first | refine condK.split (fun hb => ?_) (fun hb => ?_) | refine gK.split_t (fun hb => ?_) (fun hb => ?_) | refine gK.split_f (fun hb => ?_) (fun hb => ?_)) <;> try simp only [decide_not, ilt_t, ilt_f, ile_t, ile_f, nlt_t, nlt_f, nle_t, nle_f, Bool.not_eq_true', Bool.not_eq_false', Int.ofNat_lt, Int.ofNat_le] at hb)
 | simp only [go_sem, ↓reduceIte, reduceIte, Nat.reduceEqDiff, String.reduceEq, Nat.reduceLT, Nat.reduceLeDiff, Nat.reduceAdd, Nat.reduceMul, Nat.reduceSub, Nat.reduceBEq, reduceCtorEq, *, Int.reduceEq, Int.le_refl, Int.toNat_zero, Int.cast_ofNat_Int, Int.reduceLT]
 | with_reducible refine fun (bn : Bool) hbn => ?_))
  · have : s = [46] := (of_decide_eq_true hb).symm
    subst this
    simp [idxB, Lib.indexByte]
  all_goals trace_state
set_option maxRecDepth 30000 in
theorem idxDot_c (s : List UInt8) : CallR Tryz.prog 219 [.str s, .str [46]] (.val (.int .i64 (idxB s 46))) := by
  refine CallR.go2 (T := T) Tryz.call219 Tryz.func219 rfl Tryz.ntmps219 (congrArg Array.toList Tryz.results219) (by decide) fun ts hn h0 h1 => ?_
  (repeat' (first
 | (with_reducible first | refine callX.by (idxDot1_c _) ?_ | assumption | (refine NxK.out hK _ ?_; clear hK K) | refine NxK.out (by assumption) _ ?_ | refine Nx.out (by assumption) ?_ | refine SpecC.seqW fun K hK => ?_ | refine SpecC.regW T fun K hK => ?_ | refine SpecC.condW fun A B hA hB => ?_ | refine SpecC.block ?_ | refine SpecC.skip ?_ | refine SpecC.label ?_ | refine SpecC.exit ?_ | refine SpecC.goto ?_ | refine SpecC.ret ?_)
 | ((with_reducible first | refine condK.split (fun hb => ?_) (fun hb => ?_) | refine gK.split_t (fun hb => ?_) (fun hb => ?_) | refine gK.split_f (fun hb => ?_) (fun hb => ?_)) <;> try simp only [decide_not, ilt_t, ilt_f, ile_t, ile_f, nlt_t, nlt_f, nle_t, nle_f, Bool.not_eq_true', Bool.not_eq_false', Int.ofNat_lt, Int.ofNat_le] at hb)
 | simp only [go_sem, ↓reduceIte, reduceIte, Nat.reduceEqDiff, String.reduceEq, Nat.reduceLT, Nat.reduceLeDiff, Nat.reduceAdd, Nat.reduceMul, Nat.reduceSub, Nat.reduceBEq, reduceCtorEq, *]
 | with_reducible refine fun (bn : Bool) hbn => ?_))
theorem idxB_cases : ∀ (s : List UInt8) (c : UInt8), (idxB s c = -1 ∧ ∀ x ∈ s, x ≠ c) ∨ ∃ a b, idxB s c = (a.length : Nat) ∧ s = a ++ c :: b ∧ ∀ x ∈ a, x ≠ c
  | [], c => .inl ⟨rfl, by simp⟩
  | x :: r, c => by
    unfold idxB
    rw [Lib.indexByte]
    by_cases h : x = c
    · subst h
      exact .inr ⟨[], r, by simp, by simp, by simp⟩
    · rcases idxB_cases r c with ⟨h1, h2⟩ | ⟨a, b, h1, h2, h3⟩
      · unfold idxB at h1
        left
        refine ⟨by simp [h, h1], ?_⟩
        intro y hy
        rcases List.mem_cons.1 hy with rfl | hy
        · exact h
        · exact h2 y hy
      · unfold idxB at h1
        right
        refine ⟨x :: a, b, ?_, by rw [h2]; simp, ?_⟩
        · simp only [List.length_cons]
          simp [h, h1]
        · intro y hy
          rcases List.mem_cons.1 hy with rfl | hy
          · exact h
          · exact h3 y hy
theorem Bel.gr {w w' : World} (h : Bel (fun _ => False) w w') : Nm.Gr w w' := ⟨⟨h.os, h.tape, h.output, h.size, fun k hk => h.block k hk (fun h => h)⟩, h.drawn⟩
theorem gr_bel {w w' : World} (h : Nm.Gr w w') : Bel (fun _ => False) w w' := ⟨h.below.os, h.below.tape, h.below.output, h.below.size, fun k hk _ => h.below.block k hk, h.drawn⟩
theorem rep1 {c : Ctx} {s : ByteArray} (i : Nat) : Rep c ((#[Value.string s] : Array Value).getD i undef) (([.str s.data.toList] : List AV).getD i .any) := by
  match i with
  | 0 => exact .str _ _ rfl
  | i + 1 => exact .any _
theorem idxOk : Nm.IdxOk Tryz.prog 219 := by
  intro r W
  have h := (idxDot_c r.data.toList).top #[.string r, .string Nm.dot] W rfl fun i => by
    match i with
    | 0 => exact .str _ _ rfl
    | 1 => exact .str _ _ rfl
    | i + 2 => exact .any _
  rw [Tryz.call219 _ _] at h
  refine Calls.mono h ?_
  rintro e w' ⟨v, rfl, hv, hb⟩
  cases hv
  refine ⟨⟨_, rfl, ?_⟩, hb.gr⟩
  exact idxB_cases _ _
theorem nameOk : Nm.NameOk Tryz.prog 130 nmOk := by
  intro x W
  have h := (nmOk_c x.data.toList).top #[.string x] W rfl rep1
  rw [Tryz.call130 _ _] at h
  refine Calls.mono h ?_
  rintro e w' ⟨v, rfl, hv, hb⟩
  cases hv
  exact ⟨rfl, hb.gr⟩
def namesOk (s : List UInt8) : Bool := (Nm.splitB s).all nmOk
theorem names_c (s : List UInt8) (hs : Small s.length) : CallR Tryz.prog 208 [.str s] (.val (.bool (namesOk s))) := by
  refine CallR.calls rfl Tryz.call208 fun vals w c hsz hv => ?_
  obtain ⟨s0, e0, hs0⟩ := rep_str (hv 0)
  have hvals : vals = #[.string s0] := by
    apply Array.ext
    · simpa using hsz
    · intro i h1 h2
      have hi : i < 1 := by rw [hsz] at h1; simpa using h1
      match i, hi with
      | 0, _ => rw [Array.getD_eq_getD_getElem?, Array.getElem?_eq_getElem h1] at e0; simpa using e0
  rw [hvals]
  have hlen : s0.size = s.length := by rw [← hs0]; exact Array.length_toList.symm
  refine Calls.mono (Nm.names_calls nmOk idxOk nameOk s0 (by rw [hlen]; exact hs) w) ?_
  rintro e w' ⟨rfl, hg⟩
  exact ⟨_, rfl, fun c' => by rw [hs0]; exact .bool _, gr_bel hg⟩
def hostOk (s : List UInt8) : Bool := decide (s.length ≤ 40) && (decide (s = [42]) || namesOk (trimPfx s [42, 46]))
set_option maxRecDepth 30000 in
theorem hostOk_c (s : List UInt8) (hs : Small s.length) : CallR Tryz.prog 197 [.str s] (.val (.bool (hostOk s))) := by
  have ht : Small (trimPfx s [42, 46]).length := by
    unfold trimPfx Small at *
    split
    · simp; omega
    · exact hs
  refine CallR.go1 (T := T) Tryz.call197 Tryz.func197 rfl Tryz.ntmps197 (congrArg Array.toList Tryz.results197) (by decide) fun ts hn h0 => ?_
  (repeat' (first
 | (with_reducible first | refine callX.by (trimPfx_c _ _) ?_ | refine callX.by (names_c _ ?_) ?_ | assumption | (refine NxK.out hK _ ?_; clear hK K) | refine NxK.out (by assumption) _ ?_ | refine Nx.out (by assumption) ?_ | refine SpecC.seqW fun K hK => ?_ | refine SpecC.regW T fun K hK => ?_ | refine SpecC.condW fun A B hA hB => ?_ | refine SpecC.block ?_ | refine SpecC.skip ?_ | refine SpecC.label ?_ | refine SpecC.exit ?_ | refine SpecC.goto ?_ | refine SpecC.ret ?_)
 | ((with_reducible first | refine condK.split (fun hb => ?_) (fun hb => ?_) | refine gK.split_t (fun hb => ?_) (fun hb => ?_) | refine gK.split_f (fun hb => ?_) (fun hb => ?_)) <;> try simp only [decide_not, ilt_t, ilt_f, ile_t, ile_f, nlt_t, nlt_f, nle_t, nle_f, Bool.not_eq_true', Bool.not_eq_false', Int.ofNat_lt, Int.ofNat_le] at hb)
 | simp only [go_sem, ↓reduceIte, reduceIte, Nat.reduceEqDiff, String.reduceEq, Nat.reduceLT, Nat.reduceLeDiff, Nat.reduceAdd, Nat.reduceMul, Nat.reduceSub, Nat.reduceBEq, reduceCtorEq, *]
 | with_reducible refine fun (bn : Bool) hbn => ?_))
  all_goals ((repeat clear hK); (repeat clear hA); (repeat clear hB))
  all_goals simp_all [hostOk]
  all_goals (intros; omega)
end Go.Proofs.YtdolbhcmdkcpnaaGreatDoor.Lg

namespace Go.Proofs.YtdolbhcmdkcpnaaGreatDoor.Lg
set_option maxRecDepth 100000
set_option linter.unusedVariables false
set_option linter.unusedSimpArgs false
open Go
def idxF {α : Type} (p : α → Bool) : List α → Int → Int
  | [], _ => -1
  | x :: r, i => if p x then i else idxF p r (i + 1)
theorem idxF_none {α : Type} (p : α → Bool) : ∀ (l : List α) (i : Int), 0 ≤ i → idxF p l i = -1 → ∀ x ∈ l, p x = false
  | [], _, _, _ => by simp
  | x :: r, i, h0, h => by
    rw [idxF] at h
    split at h
    · omega
    · rename_i hp
      intro y hy
      rcases List.mem_cons.1 hy with rfl | hy
      · simpa using hp
      · exact idxF_none p r (i + 1) (by omega) h y hy
theorem idxF_some {α : Type} (p : α → Bool) : ∀ (l : List α) (i : Int), 0 ≤ i → idxF p l i ≠ -1 → ∃ k : Nat, idxF p l i = i + k ∧ k < l.length ∧ (∀ x ∈ l.take k, p x = false) ∧ (∀ h : k < l.length, p l[k] = true)
  | [], i, _, h => absurd rfl h
  | x :: r, i, h0, h => by
    rw [idxF] at h ⊢
    split
    · rename_i hp; exact ⟨0, by simp, by simp, by simp, by simpa using hp⟩
    · rename_i hp
      rw [if_neg hp] at h
      obtain ⟨k, h1, h2, h3, h4⟩ := idxF_some p r (i + 1) (by omega) h
      refine ⟨k + 1, by rw [h1]; push_cast; omega, by simpa using h2, ?_, fun h => by simpa using h4 (by simpa using h2)⟩
      intro y hy
      rw [List.take_succ_cons] at hy
      rcases List.mem_cons.1 hy with rfl | hy
      · simpa using hp
      · exact h3 y hy
theorem filt_step {α : Type} (q : α → Bool) {xs : List α} {j : Nat} (h : j < xs.length) : (xs.take (j + 1)).filter q = (xs.take j).filter q ++ (if q xs[j] then [xs[j]] else []) := by
  rw [List.take_succ_eq_append_getElem h, List.filter_append]
  congr 1
  by_cases hq : q xs[j] <;> simp [hq]
theorem take_set_succ {α : Type} {l : List α} {i : Nat} (x : α) (h : i < l.length) : (l.set i x).take (i + 1) = l.take i ++ [x] := by
  rw [List.take_succ_eq_append_getElem (by simpa using h), List.take_set_of_le (Nat.le_refl i)]
  simp
end Go.Proofs.YtdolbhcmdkcpnaaGreatDoor.Lg

namespace Go.Proofs.YtdolbhcmdkcpnaaGreatDoor.Lg
set_option maxRecDepth 100000
set_option linter.unusedVariables false
set_option linter.unusedSimpArgs false
open Go
end Go.Proofs.YtdolbhcmdkcpnaaGreatDoor.Lg

namespace Go.Proofs.YtdolbhcmdkcpnaaGreatDoor.Lg
set_option maxRecDepth 100000
set_option linter.unusedVariables false
set_option linter.unusedSimpArgs false
open Go
end Go.Proofs.YtdolbhcmdkcpnaaGreatDoor.Lg

namespace Go.Proofs.YtdolbhcmdkcpnaaGreatDoor.Lg
set_option maxRecDepth 100000
set_option linter.unusedVariables false
set_option linter.unusedSimpArgs false
open Go
def fewRule (x : Rule) : Bool := decide (x.split.length ≤ 20) && decide (x.host.length ≤ 100) && decide (x.pfx.length ≤ 100)
def fewRes (r : Res) : Bool := r.rules'.all fewRule && (decide (r.rules'.length ≤ 20) && decide (r.hosts.length ≤ 20) && decide (r.name.length ≤ 100) && decide (r.to'.length ≤ 100))
set_option maxRecDepth 30000 in
theorem fewRes_c (r_kind : Int) (r_name : List UInt8) (r_ver : Int) (r_port : Int) (r_to : List UInt8) (r_rules : List Rule) (r_hosts : List Int) (hl : Small r_rules.length) : CallR Tryz.prog 54 [.agg [.int .i64 r_kind, .str r_name, .int .i64 r_ver, .int .i64 r_port, .str r_to, .slice false (avs r_rules), .slice false (avs r_hosts)]] (.val (.bool (fewRes (⟨r_kind, r_name, r_ver, r_port, r_to, r_rules, r_hosts⟩ : Res)))) := by
  refine CallR.go1 (T := T) Tryz.call54 Tryz.func54 rfl Tryz.ntmps54 (congrArg Array.toList Tryz.results54) (by decide) fun ts hn h0 => ?_
  (repeat' (first
 | (with_reducible first | assumption | (refine NxK.out hK _ ?_; clear hK K) | refine NxK.out (by assumption) _ ?_ | refine Nx.out (by assumption) ?_ | refine SpecC.seqW fun K hK => ?_ | refine SpecC.regW T fun K hK => ?_ | refine SpecC.condW fun A B hA hB => ?_ | refine SpecC.block ?_ | refine SpecC.skip ?_ | refine SpecC.label ?_ | refine SpecC.exit ?_ | refine SpecC.goto ?_ | refine SpecC.ret ?_)
 | ((with_reducible first | refine condK.split (fun hb => ?_) (fun hb => ?_) | refine gK.split_t (fun hb => ?_) (fun hb => ?_) | refine gK.split_f (fun hb => ?_) (fun hb => ?_)) <;> try simp only [decide_not, ilt_t, ilt_f, ile_t, ile_f, nlt_t, nlt_f, nle_t, nle_f, Bool.not_eq_true', Bool.not_eq_false', Int.ofNat_lt, Int.ofNat_le] at hb)
 | simp only [go_sem, ↓reduceIte, reduceIte, Nat.reduceEqDiff, String.reduceEq, Nat.reduceLT, Nat.reduceLeDiff, Nat.reduceAdd, Nat.reduceMul, Nat.reduceSub, Nat.reduceBEq, reduceCtorEq, *]
 | with_reducible refine fun (bn : Bool) hbn => ?_))
  refine SpecC.loopF [1] (fun m ts' => ∃ (i : Nat), m = r_rules.length - i ∧ i ≤ r_rules.length ∧ r_rules.all fewRule = (r_rules.drop i).all fewRule ∧ ts'.tmp 3 = .int .i64 i) r_rules.length ?_ ?_
  · refine ⟨0, ?_⟩
    simp only [go_sem, ↓reduceIte, reduceIte, Nat.reduceEqDiff, String.reduceEq, Nat.reduceLT, Nat.reduceLeDiff, Nat.reduceAdd, Nat.reduceMul, Nat.reduceSub, Nat.reduceBEq, reduceCtorEq, *]
  · rintro m A hM ts' hk ⟨i, hm, f1, f2, s1⟩
    simp only [go_sem, ↓reduceIte, reduceIte, Nat.reduceEqDiff, String.reduceEq, Nat.reduceLT, Nat.reduceLeDiff, Nat.reduceAdd, Nat.reduceMul, Nat.reduceSub, Nat.reduceBEq, reduceCtorEq, *] at hk
    by_cases hlt : i < r_rules.length
    · rw [List.drop_eq_getElem_cons hlt, List.all_cons, fewRule] at f2
      (repeat' (first
 | (with_reducible first | assumption | (refine NxK.out hK _ ?_; clear hK K) | refine NxK.out (by assumption) _ ?_ | refine Nx.out (by assumption) ?_ | refine SpecC.seqW fun K hK => ?_ | refine SpecC.regW T fun K hK => ?_ | refine SpecC.condW fun A B hA hB => ?_ | refine SpecC.block ?_ | refine SpecC.skip ?_ | refine SpecC.label ?_ | refine SpecC.exit ?_ | refine SpecC.goto ?_ | refine SpecC.ret ?_)
 | ((with_reducible first | refine condK.split (fun hb => ?_) (fun hb => ?_) | refine gK.split_t (fun hb => ?_) (fun hb => ?_) | refine gK.split_f (fun hb => ?_) (fun hb => ?_)) <;> try simp only [decide_not, ilt_t, ilt_f, ile_t, ile_f, nlt_t, nlt_f, nle_t, nle_f, Bool.not_eq_true', Bool.not_eq_false', Int.ofNat_lt, Int.ofNat_le] at hb)
 | simp only [go_sem, ↓reduceIte, reduceIte, Nat.reduceEqDiff, String.reduceEq, Nat.reduceLT, Nat.reduceLeDiff, Nat.reduceAdd, Nat.reduceMul, Nat.reduceSub, Nat.reduceBEq, reduceCtorEq, *]
 | with_reducible refine fun (bn : Bool) hbn => ?_))
      all_goals ((repeat clear hK); (repeat clear hA); (repeat clear hB))
      all_goals first
        | (clear hM; (simp only [fewRes, f2]; rw [Bool.eq_iff_iff]; simp only [Bool.and_eq_true, Bool.or_eq_true, Bool.not_eq_true', Bool.false_eq_true, decide_eq_true_eq, decide_eq_false_iff_not, true_and, and_true, true_iff, false_iff, iff_true, iff_false, true_or, or_true, false_or, or_false] at *; omega))
        | (refine hM.on (r_rules.length - (i + 1)) (by omega) (by simp only [go_sem, ↓reduceIte, reduceIte, Nat.reduceEqDiff, String.reduceEq, Nat.reduceLT, Nat.reduceLeDiff, Nat.reduceAdd, Nat.reduceMul, Nat.reduceSub, Nat.reduceBEq, reduceCtorEq, *, w64_nat hlt hl, -f2]) ⟨i + 1, rfl, by omega, by clear hM; grind, ?_⟩; simp only [go_sem, ↓reduceIte, reduceIte, Nat.reduceEqDiff, String.reduceEq, Nat.reduceLT, Nat.reduceLeDiff, Nat.reduceAdd, Nat.reduceMul, Nat.reduceSub, Nat.reduceBEq, reduceCtorEq, *, w64_nat hlt hl, -f2]; done)
    · rw [List.drop_eq_nil_of_le (by omega), List.all_nil] at f2
      (repeat' (first
 | (with_reducible first | assumption | (refine NxK.out hK _ ?_; clear hK K) | refine NxK.out (by assumption) _ ?_ | refine Nx.out (by assumption) ?_ | refine SpecC.seqW fun K hK => ?_ | refine SpecC.regW T fun K hK => ?_ | refine SpecC.condW fun A B hA hB => ?_ | refine SpecC.block ?_ | refine SpecC.skip ?_ | refine SpecC.label ?_ | refine SpecC.exit ?_ | refine SpecC.goto ?_ | refine SpecC.ret ?_)
 | ((with_reducible first | refine condK.split (fun hb => ?_) (fun hb => ?_) | refine gK.split_t (fun hb => ?_) (fun hb => ?_) | refine gK.split_f (fun hb => ?_) (fun hb => ?_)) <;> try simp only [decide_not, ilt_t, ilt_f, ile_t, ile_f, nlt_t, nlt_f, nle_t, nle_f, Bool.not_eq_true', Bool.not_eq_false', Int.ofNat_lt, Int.ofNat_le] at hb)
 | simp only [go_sem, ↓reduceIte, reduceIte, Nat.reduceEqDiff, String.reduceEq, Nat.reduceLT, Nat.reduceLeDiff, Nat.reduceAdd, Nat.reduceMul, Nat.reduceSub, Nat.reduceBEq, reduceCtorEq, *]
 | with_reducible refine fun (bn : Bool) hbn => ?_))
      all_goals ((repeat clear hK); (repeat clear hA); (repeat clear hB))
      all_goals (clear hM; (simp only [fewRes, f2]; rw [Bool.eq_iff_iff]; simp only [Bool.and_eq_true, Bool.or_eq_true, Bool.not_eq_true', Bool.false_eq_true, decide_eq_true_eq, decide_eq_false_iff_not, true_and, and_true, true_iff, false_iff, iff_true, iff_false, true_or, or_true, false_or, or_false] at *; omega))
theorem take_get {α} {xs ys : List α} {i : Nat} (h : xs.take i = ys.take i) (h1 : i < xs.length) (h2 : i < ys.length) (h3 : xs[i] = ys[i]) : xs.take (i + 1) = ys.take (i + 1) := by
  rw [List.take_succ_eq_append_getElem h1, List.take_succ_eq_append_getElem h2, h, h3]
theorem take_all {α} {xs ys : List α} {i : Nat} (h : xs.take i = ys.take i) (h1 : ¬ i < xs.length) (h2 : xs.length = ys.length) : xs = ys := by
  rwa [List.take_of_length_le (by omega), List.take_of_length_le (by omega)] at h
theorem take_ne {α} {xs ys : List α} {i : Nat} (h1 : i < xs.length) (h2 : i < ys.length) (h3 : ¬ xs[i] = ys[i]) : ¬ xs = ys := by
  rintro rfl; exact h3 rfl
end Go.Proofs.YtdolbhcmdkcpnaaGreatDoor.Lg
