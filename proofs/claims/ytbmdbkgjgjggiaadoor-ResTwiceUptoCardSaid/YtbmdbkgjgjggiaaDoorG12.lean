/- Parts of the proof, one behind the other. -/
import Derived.Test.YtbmdbkgjgjggiaaDoorG11
namespace Go.Proofs.YtbmdbkgjgjggiaaDoor.Lg
set_option maxRecDepth 100000
set_option linter.unusedVariables false
set_option linter.unusedSimpArgs false
open Go
attribute [-go_sem] binA_and
def land64 (a b : Int) : Int := IntKind.i64.wrap (BitVec.ofInt IntKind.i64.bits a &&& BitVec.ofInt IntKind.i64.bits b).toNat
theorem binA_land (a b : Int) : binA .and (.int .i64 a) (.int .i64 b) = some (.int .i64 (land64 a b)) := by simp [binA, land64]
theorem and_low (k : Int) : ∃ m : Nat, land64 k 65535 = (m : Int) := by
  refine ⟨(BitVec.ofInt IntKind.i64.bits k &&& BitVec.ofInt IntKind.i64.bits 65535).toNat, IntWalk.i64_in _ ?_⟩
  have h : (BitVec.ofInt IntKind.i64.bits k &&& BitVec.ofInt IntKind.i64.bits 65535).toNat ≤ 65535 := by
    rw [BitVec.toNat_and]; exact Nat.le_trans Nat.and_le_right (by decide)
  omega
set_option maxRecDepth 30000 in
set_option maxHeartbeats 8000000 in
theorem twice_c (r_kind : Int) (r_name : List UInt8) (r_ver : Int) (r_port : Int) (r_to : List UInt8) (r_rules : List Rule) (r_hosts : List Int) (k : Int) (hh : Small r_hosts.length) (hl : Small r_rules.length) (hs : ∀ x ∈ r_rules, SmRule x) : CallR Tryd.prog 4 [.agg [.int .i64 r_kind, .str r_name, .int .i64 r_ver, .int .i64 r_port, .str r_to, .slice false (avs r_rules), .slice false (avs r_hosts)], .int .i64 k] (.val (.bool true)) := by
  by_cases hfa : fewRes (⟨r_kind, r_name, r_ver, r_port, r_to, r_rules, r_hosts⟩ : Res) = true
  rotate_left
  · refine CallR.go2 (T := T) Tryd.call4 Tryd.func4 rfl Tryd.ntmps4 (congrArg Array.toList Tryd.results4) (by decide) fun ts hn h0 h1 => ?_
    (repeat' (first
 | with_reducible refine callX.by awake3_c ?_
 | with_reducible refine callX.by (fewRes_c _ _ _ _ _ _ _ ?_) ?_
 | with_reducible refine callX.by (saneR_c _ _ _ _ _ _ _ ?_ ?_ ?_) ?_
 | with_reducible refine callX.by awqs ?_
 | with_reducible assumption
 | (with_reducible refine NxK.out hK _ ?_; clear hK K)
 | with_reducible refine NxK.out (by assumption) _ ?_
 | with_reducible refine Nx.out (by assumption) ?_
 | with_reducible refine SpecC.seqW fun K hK => ?_
 | with_reducible refine SpecC.regW T fun K hK => ?_
 | with_reducible refine SpecC.drawW (id := 7) T mixed [([31], [32, 33, 34, 35, 36, 37, 38, 39, 40, 41, 42]), ([32], [31, 34, 35, 36, 37, 38, 39, 41, 42, 43]), ([33], [31, 34, 35, 36, 37, 38, 39, 42, 43]), ([34], [31, 32, 33, 36, 37, 38, 40, 41, 42, 43]), ([35], [31, 32, 33, 36, 37, 38, 41, 42, 43]), ([36], [31, 32, 33, 34, 35, 39, 40, 41, 42, 43]), ([37], [31, 32, 33, 34, 35, 40, 41, 42, 43]), ([38], [31, 32, 33, 34, 35, 41, 42, 43]), ([39], [31, 32, 33, 36, 42, 43]), ([40], [31, 34, 36, 37, 43]), ([41], [31, 32, 34, 35, 36, 37, 38]), ([42], [31, 32, 33, 34, 35, 36, 37, 38, 39]), ([43], [32, 33, 34, 35, 36, 37, 38, 39, 40])] (by kernel_rfl) fun K hK => ?_
 | with_reducible refine SpecC.drawW (id := 12) T mixed [([55], [56, 57, 58, 59, 60, 61, 62, 63, 64, 65, 66]), ([56], [55, 58, 59, 60, 61, 62, 63, 65, 66, 67]), ([57], [55, 58, 59, 60, 61, 62, 63, 66, 67]), ([58], [55, 56, 57, 60, 61, 62, 64, 65, 66, 67]), ([59], [55, 56, 57, 60, 61, 62, 65, 66, 67]), ([60], [55, 56, 57, 58, 59, 63, 64, 65, 66, 67]), ([61], [55, 56, 57, 58, 59, 64, 65, 66, 67]), ([62], [55, 56, 57, 58, 59, 65, 66, 67]), ([63], [55, 56, 57, 60, 66, 67]), ([64], [55, 58, 60, 61, 67]), ([65], [55, 56, 58, 59, 60, 61, 62]), ([66], [55, 56, 57, 58, 59, 60, 61, 62, 63]), ([67], [56, 57, 58, 59, 60, 61, 62, 63, 64])] (by kernel_rfl) fun K hK => ?_
 | with_reducible refine SpecC.condW fun A B hA hB => ?_
 | with_reducible refine SpecC.block ?_
 | with_reducible refine SpecC.skip ?_
 | with_reducible refine SpecC.label ?_
 | with_reducible refine SpecC.exit ?_
 | with_reducible refine SpecC.goto ?_
 | with_reducible refine SpecC.ret ?_
 | ((with_reducible first | refine condK.split (fun hb => ?_) (fun hb => ?_) | refine gK.split_t (fun hb => ?_) (fun hb => ?_) | refine gK.split_f (fun hb => ?_) (fun hb => ?_)) <;> try simp only [decide_not, ilt_t, ilt_f, ile_t, ile_f, nlt_t, nlt_f, nle_t, nle_f, Bool.not_eq_true', Bool.not_eq_false', Int.ofNat_lt, Int.ofNat_le] at hb)
 | simp only [go_sem, ↓reduceIte, reduceIte, Nat.reduceEqDiff, String.reduceEq, Nat.reduceLT, Nat.reduceLeDiff, Nat.reduceAdd, Nat.reduceMul, Nat.reduceSub, Nat.reduceBEq, reduceCtorEq, *, -hs]
 | with_reducible refine fun (bn : Bool) hbn => ?_))
    all_goals simp_all
  by_cases hsn : saneR (⟨r_kind, r_name, r_ver, r_port, r_to, r_rules, r_hosts⟩ : Res) = 0
  rotate_left
  · refine CallR.go2 (T := T) Tryd.call4 Tryd.func4 rfl Tryd.ntmps4 (congrArg Array.toList Tryd.results4) (by decide) fun ts hn h0 h1 => ?_
    (repeat' (first
 | with_reducible refine callX.by awake3_c ?_
 | with_reducible refine callX.by (fewRes_c _ _ _ _ _ _ _ ?_) ?_
 | with_reducible refine callX.by (saneR_c _ _ _ _ _ _ _ ?_ ?_ ?_) ?_
 | with_reducible refine callX.by awqs ?_
 | with_reducible assumption
 | (with_reducible refine NxK.out hK _ ?_; clear hK K)
 | with_reducible refine NxK.out (by assumption) _ ?_
 | with_reducible refine Nx.out (by assumption) ?_
 | with_reducible refine SpecC.seqW fun K hK => ?_
 | with_reducible refine SpecC.regW T fun K hK => ?_
 | with_reducible refine SpecC.drawW (id := 7) T mixed [([31], [32, 33, 34, 35, 36, 37, 38, 39, 40, 41, 42]), ([32], [31, 34, 35, 36, 37, 38, 39, 41, 42, 43]), ([33], [31, 34, 35, 36, 37, 38, 39, 42, 43]), ([34], [31, 32, 33, 36, 37, 38, 40, 41, 42, 43]), ([35], [31, 32, 33, 36, 37, 38, 41, 42, 43]), ([36], [31, 32, 33, 34, 35, 39, 40, 41, 42, 43]), ([37], [31, 32, 33, 34, 35, 40, 41, 42, 43]), ([38], [31, 32, 33, 34, 35, 41, 42, 43]), ([39], [31, 32, 33, 36, 42, 43]), ([40], [31, 34, 36, 37, 43]), ([41], [31, 32, 34, 35, 36, 37, 38]), ([42], [31, 32, 33, 34, 35, 36, 37, 38, 39]), ([43], [32, 33, 34, 35, 36, 37, 38, 39, 40])] (by kernel_rfl) fun K hK => ?_
 | with_reducible refine SpecC.drawW (id := 12) T mixed [([55], [56, 57, 58, 59, 60, 61, 62, 63, 64, 65, 66]), ([56], [55, 58, 59, 60, 61, 62, 63, 65, 66, 67]), ([57], [55, 58, 59, 60, 61, 62, 63, 66, 67]), ([58], [55, 56, 57, 60, 61, 62, 64, 65, 66, 67]), ([59], [55, 56, 57, 60, 61, 62, 65, 66, 67]), ([60], [55, 56, 57, 58, 59, 63, 64, 65, 66, 67]), ([61], [55, 56, 57, 58, 59, 64, 65, 66, 67]), ([62], [55, 56, 57, 58, 59, 65, 66, 67]), ([63], [55, 56, 57, 60, 66, 67]), ([64], [55, 58, 60, 61, 67]), ([65], [55, 56, 58, 59, 60, 61, 62]), ([66], [55, 56, 57, 58, 59, 60, 61, 62, 63]), ([67], [56, 57, 58, 59, 60, 61, 62, 63, 64])] (by kernel_rfl) fun K hK => ?_
 | with_reducible refine SpecC.condW fun A B hA hB => ?_
 | with_reducible refine SpecC.block ?_
 | with_reducible refine SpecC.skip ?_
 | with_reducible refine SpecC.label ?_
 | with_reducible refine SpecC.exit ?_
 | with_reducible refine SpecC.goto ?_
 | with_reducible refine SpecC.ret ?_
 | ((with_reducible first | refine condK.split (fun hb => ?_) (fun hb => ?_) | refine gK.split_t (fun hb => ?_) (fun hb => ?_) | refine gK.split_f (fun hb => ?_) (fun hb => ?_)) <;> try simp only [decide_not, ilt_t, ilt_f, ile_t, ile_f, nlt_t, nlt_f, nle_t, nle_f, Bool.not_eq_true', Bool.not_eq_false', Int.ofNat_lt, Int.ofNat_le] at hb)
 | simp only [go_sem, ↓reduceIte, reduceIte, Nat.reduceEqDiff, String.reduceEq, Nat.reduceLT, Nat.reduceLeDiff, Nat.reduceAdd, Nat.reduceMul, Nat.reduceSub, Nat.reduceBEq, reduceCtorEq, *, -hs]
 | with_reducible refine fun (bn : Bool) hbn => ?_))
    all_goals simp_all
  obtain ⟨b1, b2, b3⟩ := small_bounds (sane_small hsn)
  obtain ⟨_, p2, p3, _, _⟩ := sane_parts hsn
  have tw1 := fun x hx => twice_hosts hsn (x := x) hx
  have tw2 := fun x hx => twice_rules hsn (x := x) hx
  simp only at b1 b2 b3 p2 p3 tw1 tw2
  clear b3
  obtain ⟨m, hm⟩ := and_low k
  by_cases hA : 0 < r_hosts.length
  · have hk := p3 (List.ne_nil_of_length_pos hA)
    have hr0 : r_rules = [] := Classical.byContradiction fun hn => by have := p2 hn; omega
    subst hk hr0
    clear p2 p3 tw2
    have hj : m % r_hosts.length < r_hosts.length := Nat.mod_lt _ hA
    have hq : (m : Int).tmod (r_hosts.length : Int) = ((m % r_hosts.length : Nat) : Int) := by rw [Int.tmod_eq_emod_of_nonneg (by omega)]; rfl
    have hn0 : ¬ r_hosts.length = 0 := by omega
    have t1 := tw1 _ (List.getElem_mem hj)
    have hr1 : Room r_hosts.length 8 := room_big (by omega) (by decide)
    have hr2 : Room (r_hosts.length + 1) 8 := room_big (by omega) (by decide)
    have hsm1 : Small (r_hosts ++ [r_hosts[m % r_hosts.length]]).length := by rw [List.length_append]; unfold Small; simp only [List.length_singleton]; omega
    have z := saneR_c 3 r_name r_ver r_port r_to [] (r_hosts ++ [r_hosts[m % r_hosts.length]]) hl hsm1 hs
    clear tw1
    have hA' : (0 : Int) < (r_hosts.length : Int) := by omega
    have hA0 : ¬ (0 : Int) < 0 := by omega
    have hj1 : (0 : Int) ≤ ((m % r_hosts.length : Nat) : Int) := by omega
    by_cases h8 : r_hosts.length = 8
    · rw [if_pos h8] at t1
      rw [t1] at z
      have h8' : decide (r_hosts.length = 8) = true := by simp [h8]
      refine CallR.go2 (T := T) Tryd.call4 Tryd.func4 rfl Tryd.ntmps4 (congrArg Array.toList Tryd.results4) (by decide) fun ts hn h0 h1 => ?_
      (repeat' (first
 | with_reducible refine callX.by (z) ?_
 | with_reducible refine callX.by awake3_c ?_
 | with_reducible refine callX.by (fewRes_c _ _ _ _ _ _ _ ?_) ?_
 | with_reducible refine callX.by (saneR_c _ _ _ _ _ _ _ ?_ ?_ ?_) ?_
 | with_reducible refine callX.by awqs ?_
 | with_reducible assumption
 | (with_reducible refine NxK.out hK _ ?_; clear hK K)
 | with_reducible refine NxK.out (by assumption) _ ?_
 | with_reducible refine Nx.out (by assumption) ?_
 | with_reducible refine SpecC.seqW fun K hK => ?_
 | with_reducible refine SpecC.regW T fun K hK => ?_
 | with_reducible refine SpecC.drawW (id := 7) T mixed [([31], [32, 33, 34, 35, 36, 37, 38, 39, 40, 41, 42]), ([32], [30, 31, 34, 35, 36, 37, 38, 39, 41, 42, 43]), ([33], [30, 31, 34, 35, 36, 37, 38, 39, 42, 43]), ([34], [30, 31, 32, 33, 36, 37, 38, 40, 41, 42, 43]), ([35], [30, 31, 32, 33, 36, 37, 38, 41, 42, 43]), ([36], [30, 31, 32, 33, 34, 35, 39, 40, 41, 42, 43]), ([37], [30, 31, 32, 33, 34, 35, 40, 41, 42, 43]), ([38], [30, 31, 32, 33, 34, 35, 41, 42, 43]), ([39], [30, 31, 32, 33, 36, 42, 43]), ([40], [30, 31, 34, 36, 37, 43]), ([41], [31, 32, 34, 35, 36, 37, 38]), ([42], [31, 32, 33, 34, 35, 36, 37, 38, 39]), ([30, 43], [32, 33, 34, 35, 36, 37, 38, 39, 40])] (by kernel_rfl) fun K hK => ?_
 | with_reducible refine SpecC.drawW (id := 12) T mixed [([55], [56, 57, 58, 59, 60, 61, 62, 63, 64, 65, 66]), ([56], [55, 58, 59, 60, 61, 62, 63, 65, 66, 67]), ([57], [55, 58, 59, 60, 61, 62, 63, 66, 67]), ([58], [55, 56, 57, 60, 61, 62, 64, 65, 66, 67]), ([59], [55, 56, 57, 60, 61, 62, 65, 66, 67]), ([60], [55, 56, 57, 58, 59, 63, 64, 65, 66, 67]), ([61], [55, 56, 57, 58, 59, 64, 65, 66, 67]), ([62], [55, 56, 57, 58, 59, 65, 66, 67]), ([63], [55, 56, 57, 60, 66, 67]), ([64], [55, 58, 60, 61, 67]), ([65], [55, 56, 58, 59, 60, 61, 62]), ([66], [55, 56, 57, 58, 59, 60, 61, 62, 63]), ([67], [56, 57, 58, 59, 60, 61, 62, 63, 64])] (by kernel_rfl) fun K hK => ?_
 | with_reducible refine SpecC.condW fun A B hA hB => ?_
 | with_reducible refine SpecC.block ?_
 | with_reducible refine SpecC.skip ?_
 | with_reducible refine SpecC.label ?_
 | with_reducible refine SpecC.exit ?_
 | with_reducible refine SpecC.goto ?_
 | with_reducible refine SpecC.ret ?_
 | ((with_reducible first | refine condK.split (fun hb => ?_) (fun hb => ?_) | refine gK.split_t (fun hb => ?_) (fun hb => ?_) | refine gK.split_f (fun hb => ?_) (fun hb => ?_)) <;> try simp only [decide_not, ilt_t, ilt_f, ile_t, ile_f, nlt_t, nlt_f, nle_t, nle_f, Bool.not_eq_true', Bool.not_eq_false', Int.ofNat_lt, Int.ofNat_le] at hb)
 | simp only [go_sem, ↓reduceIte, reduceIte, Nat.reduceEqDiff, String.reduceEq, Nat.reduceLT, Nat.reduceLeDiff, Nat.reduceAdd, Nat.reduceMul, Nat.reduceSub, Nat.reduceBEq, reduceCtorEq, *, -hs, -z, -t1, -h8, -hj1, binA_land, Int.reduceEq]
 | with_reducible refine fun (bn : Bool) hbn => ?_))
    · rw [if_neg h8] at t1
      rw [t1] at z
      have h8' : decide (r_hosts.length = 8) = false := by simp [h8]
      refine CallR.go2 (T := T) Tryd.call4 Tryd.func4 rfl Tryd.ntmps4 (congrArg Array.toList Tryd.results4) (by decide) fun ts hn h0 h1 => ?_
      (repeat' (first
 | with_reducible refine callX.by (z) ?_
 | with_reducible refine callX.by awake3_c ?_
 | with_reducible refine callX.by (fewRes_c _ _ _ _ _ _ _ ?_) ?_
 | with_reducible refine callX.by (saneR_c _ _ _ _ _ _ _ ?_ ?_ ?_) ?_
 | with_reducible refine callX.by awqs ?_
 | with_reducible assumption
 | (with_reducible refine NxK.out hK _ ?_; clear hK K)
 | with_reducible refine NxK.out (by assumption) _ ?_
 | with_reducible refine Nx.out (by assumption) ?_
 | with_reducible refine SpecC.seqW fun K hK => ?_
 | with_reducible refine SpecC.regW T fun K hK => ?_
 | with_reducible refine SpecC.drawW (id := 7) T mixed [([31], [32, 33, 34, 35, 36, 37, 38, 39, 40, 41, 42]), ([32], [30, 31, 34, 35, 36, 37, 38, 39, 41, 42, 43]), ([33], [30, 31, 34, 35, 36, 37, 38, 39, 42, 43]), ([34], [30, 31, 32, 33, 36, 37, 38, 40, 41, 42, 43]), ([35], [30, 31, 32, 33, 36, 37, 38, 41, 42, 43]), ([36], [30, 31, 32, 33, 34, 35, 39, 40, 41, 42, 43]), ([37], [30, 31, 32, 33, 34, 35, 40, 41, 42, 43]), ([38], [30, 31, 32, 33, 34, 35, 41, 42, 43]), ([39], [30, 31, 32, 33, 36, 42, 43]), ([40], [30, 31, 34, 36, 37, 43]), ([41], [31, 32, 34, 35, 36, 37, 38]), ([42], [31, 32, 33, 34, 35, 36, 37, 38, 39]), ([30, 43], [32, 33, 34, 35, 36, 37, 38, 39, 40])] (by kernel_rfl) fun K hK => ?_
 | with_reducible refine SpecC.drawW (id := 12) T mixed [([55], [56, 57, 58, 59, 60, 61, 62, 63, 64, 65, 66]), ([56], [55, 58, 59, 60, 61, 62, 63, 65, 66, 67]), ([57], [55, 58, 59, 60, 61, 62, 63, 66, 67]), ([58], [55, 56, 57, 60, 61, 62, 64, 65, 66, 67]), ([59], [55, 56, 57, 60, 61, 62, 65, 66, 67]), ([60], [55, 56, 57, 58, 59, 63, 64, 65, 66, 67]), ([61], [55, 56, 57, 58, 59, 64, 65, 66, 67]), ([62], [55, 56, 57, 58, 59, 65, 66, 67]), ([63], [55, 56, 57, 60, 66, 67]), ([64], [55, 58, 60, 61, 67]), ([65], [55, 56, 58, 59, 60, 61, 62]), ([66], [55, 56, 57, 58, 59, 60, 61, 62, 63]), ([67], [56, 57, 58, 59, 60, 61, 62, 63, 64])] (by kernel_rfl) fun K hK => ?_
 | with_reducible refine SpecC.condW fun A B hA hB => ?_
 | with_reducible refine SpecC.block ?_
 | with_reducible refine SpecC.skip ?_
 | with_reducible refine SpecC.label ?_
 | with_reducible refine SpecC.exit ?_
 | with_reducible refine SpecC.goto ?_
 | with_reducible refine SpecC.ret ?_
 | ((with_reducible first | refine condK.split (fun hb => ?_) (fun hb => ?_) | refine gK.split_t (fun hb => ?_) (fun hb => ?_) | refine gK.split_f (fun hb => ?_) (fun hb => ?_)) <;> try simp only [decide_not, ilt_t, ilt_f, ile_t, ile_f, nlt_t, nlt_f, nle_t, nle_f, Bool.not_eq_true', Bool.not_eq_false', Int.ofNat_lt, Int.ofNat_le] at hb)
 | simp only [go_sem, ↓reduceIte, reduceIte, Nat.reduceEqDiff, String.reduceEq, Nat.reduceLT, Nat.reduceLeDiff, Nat.reduceAdd, Nat.reduceMul, Nat.reduceSub, Nat.reduceBEq, reduceCtorEq, *, -hs, -z, -t1, -h8, -hj1, binA_land, Int.reduceEq]
 | with_reducible refine fun (bn : Bool) hbn => ?_))
  by_cases hB : 0 < r_rules.length
  · have hk := p2 (List.ne_nil_of_length_pos hB)
    have hr0 : r_hosts = [] := List.length_eq_zero_iff.1 (by omega)
    subst hk hr0
    clear p2 p3 tw1
    have hj : m % r_rules.length < r_rules.length := Nat.mod_lt _ hB
    have hq : (m : Int).tmod (r_rules.length : Int) = ((m % r_rules.length : Nat) : Int) := by rw [Int.tmod_eq_emod_of_nonneg (by omega)]; rfl
    have hn0 : ¬ r_rules.length = 0 := by omega
    have t1 := tw2 _ (List.getElem_mem hj)
    have hr1 : Room r_rules.length 56 := room_big (by omega) (by decide)
    have hr2 : Room (r_rules.length + 1) 56 := room_big (by omega) (by decide)
    have hsm1 : Small (r_rules ++ [r_rules[m % r_rules.length]]).length := by rw [List.length_append]; unfold Small; simp only [List.length_singleton]; omega
    have hs1 : ∀ x ∈ r_rules ++ [r_rules[m % r_rules.length]], SmRule x := by
      intro x hx
      rcases List.mem_append.1 hx with hx | hx
      · exact hs x hx
      · rw [List.mem_singleton] at hx; subst hx; exact hs _ (List.getElem_mem hj)
    have z := saneR_c 1 r_name r_ver r_port r_to (r_rules ++ [r_rules[m % r_rules.length]]) [] hsm1 hh hs1
    clear tw2 hs1
    have hA' : (0 : Int) < (r_rules.length : Int) := by omega
    have hA0 : ¬ (0 : Int) < 0 := by omega
    have hj1 : (0 : Int) ≤ ((m % r_rules.length : Nat) : Int) := by omega
    by_cases h8 : r_rules.length = 8
    · rw [if_pos h8] at t1
      rw [t1] at z
      have h8' : decide (r_rules.length = 8) = true := by simp [h8]
      refine CallR.go2 (T := T) Tryd.call4 Tryd.func4 rfl Tryd.ntmps4 (congrArg Array.toList Tryd.results4) (by decide) fun ts hn h0 h1 => ?_
      (repeat' (first
 | with_reducible refine callX.by (z) ?_
 | with_reducible refine callX.by awake3_c ?_
 | with_reducible refine callX.by (fewRes_c _ _ _ _ _ _ _ ?_) ?_
 | with_reducible refine callX.by (saneR_c _ _ _ _ _ _ _ ?_ ?_ ?_) ?_
 | with_reducible refine callX.by awqs ?_
 | with_reducible assumption
 | (with_reducible refine NxK.out hK _ ?_; clear hK K)
 | with_reducible refine NxK.out (by assumption) _ ?_
 | with_reducible refine Nx.out (by assumption) ?_
 | with_reducible refine SpecC.seqW fun K hK => ?_
 | with_reducible refine SpecC.regW T fun K hK => ?_
 | with_reducible refine SpecC.drawW (id := 7) T mixed [([31], [32, 33, 34, 35, 36, 37, 38, 39, 40, 41, 42]), ([32], [31, 34, 35, 36, 37, 38, 39, 41, 42, 43]), ([33], [31, 34, 35, 36, 37, 38, 39, 42, 43]), ([34], [31, 32, 33, 36, 37, 38, 40, 41, 42, 43]), ([35], [31, 32, 33, 36, 37, 38, 41, 42, 43]), ([36], [31, 32, 33, 34, 35, 39, 40, 41, 42, 43]), ([37], [31, 32, 33, 34, 35, 40, 41, 42, 43]), ([38], [31, 32, 33, 34, 35, 41, 42, 43]), ([39], [31, 32, 33, 36, 42, 43]), ([40], [31, 34, 36, 37, 43]), ([41], [31, 32, 34, 35, 36, 37, 38]), ([42], [31, 32, 33, 34, 35, 36, 37, 38, 39]), ([43], [32, 33, 34, 35, 36, 37, 38, 39, 40])] (by kernel_rfl) fun K hK => ?_
 | with_reducible refine SpecC.drawW (id := 12) T mixed [([55], [56, 57, 58, 59, 60, 61, 62, 63, 64, 65, 66]), ([56], [54, 55, 58, 59, 60, 61, 62, 63, 65, 66, 67]), ([57], [54, 55, 58, 59, 60, 61, 62, 63, 66, 67]), ([58], [54, 55, 56, 57, 60, 61, 62, 64, 65, 66, 67]), ([59], [54, 55, 56, 57, 60, 61, 62, 65, 66, 67]), ([60], [54, 55, 56, 57, 58, 59, 63, 64, 65, 66, 67]), ([61], [54, 55, 56, 57, 58, 59, 64, 65, 66, 67]), ([62], [54, 55, 56, 57, 58, 59, 65, 66, 67]), ([63], [54, 55, 56, 57, 60, 66, 67]), ([64], [54, 55, 58, 60, 61, 67]), ([65], [55, 56, 58, 59, 60, 61, 62]), ([66], [55, 56, 57, 58, 59, 60, 61, 62, 63]), ([54, 67], [56, 57, 58, 59, 60, 61, 62, 63, 64])] (by kernel_rfl) fun K hK => ?_
 | with_reducible refine SpecC.condW fun A B hA hB => ?_
 | with_reducible refine SpecC.block ?_
 | with_reducible refine SpecC.skip ?_
 | with_reducible refine SpecC.label ?_
 | with_reducible refine SpecC.exit ?_
 | with_reducible refine SpecC.goto ?_
 | with_reducible refine SpecC.ret ?_
 | ((with_reducible first | refine condK.split (fun hb => ?_) (fun hb => ?_) | refine gK.split_t (fun hb => ?_) (fun hb => ?_) | refine gK.split_f (fun hb => ?_) (fun hb => ?_)) <;> try simp only [decide_not, ilt_t, ilt_f, ile_t, ile_f, nlt_t, nlt_f, nle_t, nle_f, Bool.not_eq_true', Bool.not_eq_false', Int.ofNat_lt, Int.ofNat_le] at hb)
 | simp only [go_sem, ↓reduceIte, reduceIte, Nat.reduceEqDiff, String.reduceEq, Nat.reduceLT, Nat.reduceLeDiff, Nat.reduceAdd, Nat.reduceMul, Nat.reduceSub, Nat.reduceBEq, reduceCtorEq, *, -hs, -z, -t1, -h8, -hj1, binA_land, Int.reduceEq]
 | with_reducible refine fun (bn : Bool) hbn => ?_))
    · rw [if_neg h8] at t1
      rw [t1] at z
      have h8' : decide (r_rules.length = 8) = false := by simp [h8]
      refine CallR.go2 (T := T) Tryd.call4 Tryd.func4 rfl Tryd.ntmps4 (congrArg Array.toList Tryd.results4) (by decide) fun ts hn h0 h1 => ?_
      (repeat' (first
 | with_reducible refine callX.by (z) ?_
 | with_reducible refine callX.by awake3_c ?_
 | with_reducible refine callX.by (fewRes_c _ _ _ _ _ _ _ ?_) ?_
 | with_reducible refine callX.by (saneR_c _ _ _ _ _ _ _ ?_ ?_ ?_) ?_
 | with_reducible refine callX.by awqs ?_
 | with_reducible assumption
 | (with_reducible refine NxK.out hK _ ?_; clear hK K)
 | with_reducible refine NxK.out (by assumption) _ ?_
 | with_reducible refine Nx.out (by assumption) ?_
 | with_reducible refine SpecC.seqW fun K hK => ?_
 | with_reducible refine SpecC.regW T fun K hK => ?_
 | with_reducible refine SpecC.drawW (id := 7) T mixed [([31], [32, 33, 34, 35, 36, 37, 38, 39, 40, 41, 42]), ([32], [31, 34, 35, 36, 37, 38, 39, 41, 42, 43]), ([33], [31, 34, 35, 36, 37, 38, 39, 42, 43]), ([34], [31, 32, 33, 36, 37, 38, 40, 41, 42, 43]), ([35], [31, 32, 33, 36, 37, 38, 41, 42, 43]), ([36], [31, 32, 33, 34, 35, 39, 40, 41, 42, 43]), ([37], [31, 32, 33, 34, 35, 40, 41, 42, 43]), ([38], [31, 32, 33, 34, 35, 41, 42, 43]), ([39], [31, 32, 33, 36, 42, 43]), ([40], [31, 34, 36, 37, 43]), ([41], [31, 32, 34, 35, 36, 37, 38]), ([42], [31, 32, 33, 34, 35, 36, 37, 38, 39]), ([43], [32, 33, 34, 35, 36, 37, 38, 39, 40])] (by kernel_rfl) fun K hK => ?_
 | with_reducible refine SpecC.drawW (id := 12) T mixed [([55], [56, 57, 58, 59, 60, 61, 62, 63, 64, 65, 66]), ([56], [54, 55, 58, 59, 60, 61, 62, 63, 65, 66, 67]), ([57], [54, 55, 58, 59, 60, 61, 62, 63, 66, 67]), ([58], [54, 55, 56, 57, 60, 61, 62, 64, 65, 66, 67]), ([59], [54, 55, 56, 57, 60, 61, 62, 65, 66, 67]), ([60], [54, 55, 56, 57, 58, 59, 63, 64, 65, 66, 67]), ([61], [54, 55, 56, 57, 58, 59, 64, 65, 66, 67]), ([62], [54, 55, 56, 57, 58, 59, 65, 66, 67]), ([63], [54, 55, 56, 57, 60, 66, 67]), ([64], [54, 55, 58, 60, 61, 67]), ([65], [55, 56, 58, 59, 60, 61, 62]), ([66], [55, 56, 57, 58, 59, 60, 61, 62, 63]), ([54, 67], [56, 57, 58, 59, 60, 61, 62, 63, 64])] (by kernel_rfl) fun K hK => ?_
 | with_reducible refine SpecC.condW fun A B hA hB => ?_
 | with_reducible refine SpecC.block ?_
 | with_reducible refine SpecC.skip ?_
 | with_reducible refine SpecC.label ?_
 | with_reducible refine SpecC.exit ?_
 | with_reducible refine SpecC.goto ?_
 | with_reducible refine SpecC.ret ?_
 | ((with_reducible first | refine condK.split (fun hb => ?_) (fun hb => ?_) | refine gK.split_t (fun hb => ?_) (fun hb => ?_) | refine gK.split_f (fun hb => ?_) (fun hb => ?_)) <;> try simp only [decide_not, ilt_t, ilt_f, ile_t, ile_f, nlt_t, nlt_f, nle_t, nle_f, Bool.not_eq_true', Bool.not_eq_false', Int.ofNat_lt, Int.ofNat_le] at hb)
 | simp only [go_sem, ↓reduceIte, reduceIte, Nat.reduceEqDiff, String.reduceEq, Nat.reduceLT, Nat.reduceLeDiff, Nat.reduceAdd, Nat.reduceMul, Nat.reduceSub, Nat.reduceBEq, reduceCtorEq, *, -hs, -z, -t1, -h8, -hj1, binA_land, Int.reduceEq]
 | with_reducible refine fun (bn : Bool) hbn => ?_))
  · have hr0 : r_hosts = [] := List.length_eq_zero_iff.1 (by omega)
    have hr1 : r_rules = [] := List.length_eq_zero_iff.1 (by omega)
    subst hr0 hr1
    clear p2 p3 tw1 tw2
    have hA0 : ¬ (0 : Int) < 0 := by omega
    have z := saneR_c r_kind r_name r_ver r_port r_to [] [] hl hh hs
    rw [hsn] at z
    refine CallR.go2 (T := T) Tryd.call4 Tryd.func4 rfl Tryd.ntmps4 (congrArg Array.toList Tryd.results4) (by decide) fun ts hn h0 h1 => ?_
    (repeat' (first
 | with_reducible refine callX.by (z) ?_
 | with_reducible refine callX.by awake3_c ?_
 | with_reducible refine callX.by (fewRes_c _ _ _ _ _ _ _ ?_) ?_
 | with_reducible refine callX.by (saneR_c _ _ _ _ _ _ _ ?_ ?_ ?_) ?_
 | with_reducible refine callX.by awqs ?_
 | with_reducible assumption
 | (with_reducible refine NxK.out hK _ ?_; clear hK K)
 | with_reducible refine NxK.out (by assumption) _ ?_
 | with_reducible refine Nx.out (by assumption) ?_
 | with_reducible refine SpecC.seqW fun K hK => ?_
 | with_reducible refine SpecC.regW T fun K hK => ?_
 | with_reducible refine SpecC.drawW (id := 7) T mixed [([31], [32, 33, 34, 35, 36, 37, 38, 39, 40, 41, 42]), ([32], [31, 34, 35, 36, 37, 38, 39, 41, 42, 43]), ([33], [31, 34, 35, 36, 37, 38, 39, 42, 43]), ([34], [31, 32, 33, 36, 37, 38, 40, 41, 42, 43]), ([35], [31, 32, 33, 36, 37, 38, 41, 42, 43]), ([36], [31, 32, 33, 34, 35, 39, 40, 41, 42, 43]), ([37], [31, 32, 33, 34, 35, 40, 41, 42, 43]), ([38], [31, 32, 33, 34, 35, 41, 42, 43]), ([39], [31, 32, 33, 36, 42, 43]), ([40], [31, 34, 36, 37, 43]), ([41], [31, 32, 34, 35, 36, 37, 38]), ([42], [31, 32, 33, 34, 35, 36, 37, 38, 39]), ([43], [32, 33, 34, 35, 36, 37, 38, 39, 40])] (by kernel_rfl) fun K hK => ?_
 | with_reducible refine SpecC.drawW (id := 12) T mixed [([55], [56, 57, 58, 59, 60, 61, 62, 63, 64, 65, 66]), ([56], [55, 58, 59, 60, 61, 62, 63, 65, 66, 67]), ([57], [55, 58, 59, 60, 61, 62, 63, 66, 67]), ([58], [55, 56, 57, 60, 61, 62, 64, 65, 66, 67]), ([59], [55, 56, 57, 60, 61, 62, 65, 66, 67]), ([60], [55, 56, 57, 58, 59, 63, 64, 65, 66, 67]), ([61], [55, 56, 57, 58, 59, 64, 65, 66, 67]), ([62], [55, 56, 57, 58, 59, 65, 66, 67]), ([63], [55, 56, 57, 60, 66, 67]), ([64], [55, 58, 60, 61, 67]), ([65], [55, 56, 58, 59, 60, 61, 62]), ([66], [55, 56, 57, 58, 59, 60, 61, 62, 63]), ([67], [56, 57, 58, 59, 60, 61, 62, 63, 64])] (by kernel_rfl) fun K hK => ?_
 | with_reducible refine SpecC.condW fun A B hA hB => ?_
 | with_reducible refine SpecC.block ?_
 | with_reducible refine SpecC.skip ?_
 | with_reducible refine SpecC.label ?_
 | with_reducible refine SpecC.exit ?_
 | with_reducible refine SpecC.goto ?_
 | with_reducible refine SpecC.ret ?_
 | ((with_reducible first | refine condK.split (fun hb => ?_) (fun hb => ?_) | refine gK.split_t (fun hb => ?_) (fun hb => ?_) | refine gK.split_f (fun hb => ?_) (fun hb => ?_)) <;> try simp only [decide_not, ilt_t, ilt_f, ile_t, ile_f, nlt_t, nlt_f, nle_t, nle_f, Bool.not_eq_true', Bool.not_eq_false', Int.ofNat_lt, Int.ofNat_le] at hb)
 | simp only [go_sem, ↓reduceIte, reduceIte, Nat.reduceEqDiff, String.reduceEq, Nat.reduceLT, Nat.reduceLeDiff, Nat.reduceAdd, Nat.reduceMul, Nat.reduceSub, Nat.reduceBEq, reduceCtorEq, *, -hs, -z, binA_land, Int.reduceEq]
 | with_reducible refine fun (bn : Bool) hbn => ?_))
end Go.Proofs.YtbmdbkgjgjggiaaDoor.Lg
