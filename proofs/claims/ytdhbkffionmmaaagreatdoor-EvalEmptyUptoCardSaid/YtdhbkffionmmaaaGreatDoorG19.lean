/- Parts of the proof, one behind the other. -/
import Derived.Test.YtdhbkffionmmaaaGreatDoorG18
namespace Go.Proofs.YtdhbkffionmmaaaGreatDoor.Lg
set_option maxRecDepth 100000
set_option linter.unusedVariables false
set_option linter.unusedSimpArgs false
open Go
def sm8 : List Res := [⟨0, [108], 0, 80, [114], [], []⟩, ⟨1, [114], 0, 0, [], [⟨[42], [47], [⟨[99], 1⟩]⟩], []⟩, ⟨2, [99], 0, 0, [101], [], []⟩, ⟨3, [101], 0, 0, [], [], [7]⟩]
set_option maxRecDepth 30000 in
set_option maxHeartbeats 4000000 in
theorem small8_c : CallR Tryz.prog 21 [] (.own 7 (avs sm8)) := by
  refine CallR.go0 (T := T) Tryz.call21 Tryz.func21 rfl Tryz.ntmps21 (congrArg Array.toList Tryz.results21) fun ts hn => ?_
  (repeat' (first
 | with_reducible assumption
 | (with_reducible refine NxK.out hK _ ?_; clear hK K)
 | with_reducible refine NxK.out (by assumption) _ ?_
 | with_reducible refine Nx.out (by assumption) ?_
 | with_reducible refine SpecC.seqW fun K hK => ?_
 | with_reducible refine SpecC.regW T fun K hK => ?_
 | with_reducible refine SpecC.condW fun A B hA hB => ?_
 | with_reducible refine SpecC.block ?_
 | with_reducible refine SpecC.skip ?_
 | with_reducible refine SpecC.label ?_
 | with_reducible refine SpecC.exit ?_
 | with_reducible refine SpecC.goto ?_
 | ((with_reducible first | refine condK.split (fun hb => ?_) (fun hb => ?_) | refine gK.split_t (fun hb => ?_) (fun hb => ?_) | refine gK.split_f (fun hb => ?_) (fun hb => ?_)) <;> try simp only [decide_not, ilt_t, ilt_f, ile_t, ile_f, nlt_t, nlt_f, nle_t, nle_f, Bool.not_eq_true', Bool.not_eq_false', Int.ofNat_lt, Int.ofNat_le] at hb)
 | simp only [go_sem, ↓reduceIte, reduceIte, Nat.reduceEqDiff, String.reduceEq, Nat.reduceLT, Nat.reduceLeDiff, Nat.reduceAdd, Nat.reduceMul, Nat.reduceSub, Nat.reduceBEq, reduceCtorEq, *, Int.le_refl]
 | with_reducible refine fun (bn : Bool) hbn => ?_))
  refine SpecC.ent (Ent.frzA2 5 0 2 3 ?_) ?_
  · simp only [go_sem, ↓reduceIte, reduceIte, Nat.reduceEqDiff, String.reduceEq, Nat.reduceLT, Nat.reduceLeDiff, Nat.reduceAdd, Nat.reduceMul, Nat.reduceSub, Nat.reduceBEq, reduceCtorEq, *, List.getD_cons_zero, AV.cells]
  refine SpecC.ent (Ent.frzA2 10 1 5 5 ?_) ?_
  · simp only [go_sem, ↓reduceIte, reduceIte, Nat.reduceEqDiff, String.reduceEq, Nat.reduceLT, Nat.reduceLeDiff, Nat.reduceAdd, Nat.reduceMul, Nat.reduceSub, Nat.reduceBEq, reduceCtorEq, *, List.getD_cons_zero, AV.cells]
  refine SpecC.ent (Ent.frzA2 10 3 6 8 ?_) ?_
  · simp only [go_sem, ↓reduceIte, reduceIte, Nat.reduceEqDiff, String.reduceEq, Nat.reduceLT, Nat.reduceLeDiff, Nat.reduceAdd, Nat.reduceMul, Nat.reduceSub, Nat.reduceBEq, reduceCtorEq, *, List.getD_cons_zero, AV.cells]
  (repeat' (first
 | with_reducible assumption
 | (with_reducible refine NxK.out hK _ ?_; clear hK K)
 | with_reducible refine NxK.out (by assumption) _ ?_
 | with_reducible refine Nx.out (by assumption) ?_
 | with_reducible refine SpecC.seqW fun K hK => ?_
 | with_reducible refine SpecC.regW T fun K hK => ?_
 | with_reducible refine SpecC.condW fun A B hA hB => ?_
 | with_reducible refine SpecC.block ?_
 | with_reducible refine SpecC.skip ?_
 | with_reducible refine SpecC.label ?_
 | with_reducible refine SpecC.exit ?_
 | with_reducible refine SpecC.goto ?_
 | with_reducible refine SpecC.ret ?_
 | ((with_reducible first | refine condK.split (fun hb => ?_) (fun hb => ?_) | refine gK.split_t (fun hb => ?_) (fun hb => ?_) | refine gK.split_f (fun hb => ?_) (fun hb => ?_)) <;> try simp only [decide_not, ilt_t, ilt_f, ile_t, ile_f, nlt_t, nlt_f, nle_t, nle_f, Bool.not_eq_true', Bool.not_eq_false', Int.ofNat_lt, Int.ofNat_le] at hb)
 | simp only [go_sem, ↓reduceIte, reduceIte, Nat.reduceEqDiff, String.reduceEq, Nat.reduceLT, Nat.reduceLeDiff, Nat.reduceAdd, Nat.reduceMul, Nat.reduceSub, Nat.reduceBEq, reduceCtorEq, *, List.getD_cons_zero, AV.cells]
 | with_reducible refine fun (bn : Bool) hbn => ?_))
  all_goals rfl
theorem sm8s : ∀ r ∈ sm8, saneR r = 0 := by
  intro r hr
  simp only [sm8, List.mem_cons, List.not_mem_nil, or_false] at hr
  rcases hr with rfl | rfl | rfl | rfl <;> decide
theorem sm8sm : ∀ r ∈ sm8, SmRes r := by
  intro r hr
  simp only [sm8, List.mem_cons, List.not_mem_nil, or_false] at hr
  rcases hr with rfl | rfl | rfl | rfl <;> simp [SmRes, Small, SmRule, SmWeight]
theorem sm8r : ∀ r ∈ sm8, ∀ k ∈ refsR r, k ∈ sm8.map keyOf := by
  intro r hr k hk
  have hs := sm8s r hr
  simp only [sm8, List.mem_cons, List.not_mem_nil, or_false] at hr
  rcases hr with rfl | rfl | rfl | rfl
  · rw [refs_one hs (.inl rfl), List.mem_singleton] at hk
    subst hk; decide
  · rw [(refs_up hs).2] at hk
    have e : baseR ⟨1, [114], 0, 0, [], [⟨[42], [47], [⟨[99], 1⟩]⟩], []⟩ ++ keysR [⟨[42], [47], [⟨[99], 1⟩]⟩] = [⟨2, [99]⟩] := by decide
    rw [e, List.mem_singleton] at hk
    subst hk; decide
  · rw [refs_one hs (.inr rfl), List.mem_singleton] at hk
    subst hk; decide
  · rw [refs_ends rfl] at hk; simp at hk
theorem sm8v : served sm8 = 0 := by
  refine served_ok.2 ⟨fun r hr => sm8r r ((reachR_sub sm8).subset hr), fun r hr => ?_⟩
  have hr := (reachR_sub sm8).subset hr
  simp only [sm8, List.mem_cons, List.not_mem_nil, or_false] at hr
  rcases hr with rfl | rfl | rfl | rfl <;> decide
theorem sm8t : tsane sm8 = 0 := by
  have h1 : firstBad sm8 = 0 := firstBad_of sm8s
  unfold tsane
  rw [h1]
  decide
theorem sm8g : goodE sm8 = true := by unfold goodE; rw [sm8t, sm8v]; rfl
theorem sm8a : ansE sm8 ⟨80, [97], [47], 0, 0⟩ = ⟨3, [99], 7⟩ := by decide +kernel
theorem sm8w : withinE sm8 ⟨3, [99], 7⟩ = true := by decide +kernel
theorem sm8ac : CallR Tryz.prog 11 [.slice false (avs sm8), .bool true, .agg [.int .i64 80, .str [97], .str [47], .int .i64 0, .int .i64 0]] (.val (.agg [.int .i64 3, .str [99], .int .i64 7])) := by
  have h := ansE_c sm8 80 [97] [47] 0 0 (by simp [Small, sm8]) sm8sm (by simp [Small])
  rw [sm8a] at h; exact h
theorem sm8nc : CallR Tryz.prog 11 [.slice false [], .bool true, .agg [.int .i64 0, .str [], .str [], .int .i64 0, .int .i64 0]] (.val (.agg [.int .i64 1, .str [], .int .i64 0])) := by
  have h := ansE_c [] 0 [] [] 0 0 (by simp [Small]) (by simp) (by simp [Small])
  exact h
theorem sm8gc : CallR Tryz.prog 10 [.slice false (avs sm8)] (.val (.bool true)) := by
  have h := goodE_c sm8 (by decide) sm8sm (fun h => (conf_of h).nodup)
  rw [sm8g] at h; exact h
theorem sm8wc : CallR Tryz.prog 14 [.slice false (avs sm8), .agg [.int .i64 3, .str [99], .int .i64 7]] (.val (.bool true)) := by
  have h := withinE_c sm8 3 [99] 7 (by simp [Small, sm8]) sm8sm
  rw [sm8w] at h; exact h
theorem sm8l : sm8.length = 4 := rfl
set_option maxRecDepth 30000 in
set_option maxHeartbeats 4000000 in
theorem awake8_c : CallR Tryz.prog 8 [] (.val (.bool true)) := by
  have htk : ∀ n, n = 4 → (avs sm8).take n = avs sm8 := fun n h => List.take_of_length_le (by simp [avs, sm8l, h])
  refine CallR.go0 (T := T) Tryz.call8 Tryz.func8 rfl Tryz.ntmps8 (congrArg Array.toList Tryz.results8) fun ts hn => ?_
  (repeat' (first
 | with_reducible refine callX.by (sm8ac) ?_
 | with_reducible refine callX.by (sm8nc) ?_
 | with_reducible refine callX.by (sm8gc) ?_
 | with_reducible refine callX.by (sm8wc) ?_
 | with_reducible refine callX.by (small8_c) ?_
 | with_reducible refine callX.by small8_c ?_
 | with_reducible refine callX.by (ansF_c _ _ _ _ _ _) ?_
 | with_reducible refine callX.by (ansE_c _ _ _ _ _ _ ?_ ?_ ?_) ?_
 | with_reducible refine callX.by sm8ac ?_
 | with_reducible refine callX.by sm8nc ?_
 | with_reducible refine callX.by (goodN_c _ ?_ ?_ ?_) ?_
 | with_reducible refine callX.by (goodS_c _ ?_ ?_ ?_ ?_) ?_
 | with_reducible refine callX.by (goodE_c _ ?_ ?_ ?_) ?_
 | with_reducible refine callX.by sm8gc ?_
 | with_reducible refine callX.by (withinE_c _ _ _ _ ?_ ?_) ?_
 | with_reducible refine callX.by sm8wc ?_
 | with_reducible assumption
 | (with_reducible refine NxK.out hK _ ?_; clear hK K)
 | with_reducible refine NxK.out (by assumption) _ ?_
 | with_reducible refine Nx.out (by assumption) ?_
 | with_reducible refine SpecC.seqW fun K hK => ?_
 | with_reducible refine SpecC.regW T fun K hK => ?_
 | with_reducible refine SpecC.drawW (id := 2) T mixed [([5], [6, 9, 10, 11, 12, 13, 14, 15, 16, 17, 18, 19, 20, 21, 22]), ([6], [5, 9, 10, 11, 12, 13, 14, 15, 16, 17, 18, 19, 20, 21, 22]), ([7], [14, 15, 16, 17, 18, 19, 20, 21, 22]), ([8], [15, 16, 17, 18, 19, 20, 21, 22]), ([9], [5, 6, 12, 13, 15, 16, 17, 18, 19, 20, 21, 22]), ([10], [5, 6, 13, 18, 19, 20, 21, 22]), ([11], [5, 6, 14, 15, 16, 17, 18, 19, 20, 21, 22]), ([12], [5, 6, 9, 15, 16, 17, 18, 19, 20, 21, 22]), ([13], [5, 6, 9, 10, 18, 19, 20, 21, 22]), ([14], [5, 6, 7, 11, 19, 20, 21, 22]), ([15], [5, 6, 7, 8, 9, 11, 12, 19, 20, 21, 22]), ([16], [5, 6, 7, 8, 9, 11, 12]), ([17], [5, 6, 7, 8, 9, 11, 12]), ([18], [5, 6, 7, 8, 9, 10, 11, 12, 13]), ([19], [5, 6, 7, 8, 9, 10, 11, 12, 13, 14, 15, 20]), ([20], [5, 6, 7, 8, 9, 10, 11, 12, 13, 14, 15, 19]), ([21], [5, 6, 7, 8, 9, 10, 11, 12, 13, 14, 15]), ([22], [5, 6, 7, 8, 9, 10, 11, 12, 13, 14, 15])] (by kernel_rfl) fun K hK => ?_
 | with_reducible refine SpecC.condW fun A B hA hB => ?_
 | with_reducible refine SpecC.block ?_
 | with_reducible refine SpecC.skip ?_
 | with_reducible refine SpecC.label ?_
 | with_reducible refine SpecC.exit ?_
 | with_reducible refine SpecC.goto ?_
 | with_reducible refine SpecC.ret ?_
 | ((with_reducible first | refine condK.split (fun hb => ?_) (fun hb => ?_) | refine gK.split_t (fun hb => ?_) (fun hb => ?_) | refine gK.split_f (fun hb => ?_) (fun hb => ?_)) <;> try simp only [decide_not, ilt_t, ilt_f, ile_t, ile_f, nlt_t, nlt_f, nle_t, nle_f, Bool.not_eq_true', Bool.not_eq_false', Int.ofNat_lt, Int.ofNat_le] at hb)
 | simp only [go_sem, ↓reduceIte, reduceIte, Nat.reduceEqDiff, String.reduceEq, Nat.reduceLT, Nat.reduceLeDiff, Nat.reduceAdd, Nat.reduceMul, Nat.reduceSub, Nat.reduceBEq, reduceCtorEq, *, -htk, Int.reduceEq]
 | with_reducible refine fun (bn : Bool) hbn => ?_))
end Go.Proofs.YtdhbkffionmmaaaGreatDoor.Lg

namespace Go.Proofs.YtdhbkffionmmaaaGreatDoor.Lg
set_option maxRecDepth 100000
set_option linter.unusedVariables false
set_option linter.unusedSimpArgs false
open Go
theorem few_len {l : List Res} (h : fewAll l = true) : l.length ≤ 65536 := by
  simp only [fewAll, Bool.and_eq_true, decide_eq_true_eq] at h
  omega
def nk (r : Res) : Bool := !decide (r.kind = 0)
theorem nk_listen (l : List Res) (p : Int) : listen (l.filter nk) p = none := by
  unfold listen
  rw [List.find?_eq_none]
  intro r hr
  have := (List.mem_filter.1 hr).2
  simp only [nk, Bool.not_eq_true', decide_eq_false_iff_not] at this
  simp [this]
theorem nk_ans (l : List Res) (a : Ask) : ansE (l.filter nk) a = ⟨1, [], 0⟩ := by unfold ansE; rw [nk_listen]
theorem nilW1_c : CallR Tryz.prog 14 [.slice false [], .agg [.int .i64 1, .str [], .int .i64 0]] (.val (.bool true)) := by
  have h := withinE_c [] 1 [] 0 (by simp [Small]) (by simp)
  rw [show withinE [] ⟨1, [], 0⟩ = true by decide] at h
  exact h
theorem nilW3_c : CallR Tryz.prog 14 [.slice false [], .agg [.int .i64 3, .str [], .int .i64 0]] (.val (.bool false)) := by
  have h := withinE_c [] 3 [] 0 (by simp [Small]) (by simp)
  rw [show withinE [] ⟨3, [], 0⟩ = false by decide] at h
  exact h
set_option maxRecDepth 30000 in
set_option maxHeartbeats 8000000 in
theorem evalEmpty_c (xs : List Res) (a_port : Int) (a_host : List UInt8) (a_path : List UInt8) (a_first : Int) (a_other : Int) (hl : Small xs.length) (hs : ∀ r ∈ xs, SmRes r) (hh : Small a_host.length) : CallR Tryz.prog 6 [.slice false (avs xs), .agg [.int .i64 a_port, .str a_host, .str a_path, .int .i64 a_first, .int .i64 a_other]] (.val (.bool true)) := by
  by_cases hfa : fewAll xs = true
  rotate_left
  · have hfa : fewAll xs = false := by simpa using hfa
    refine CallR.go2 (T := T) Tryz.call6 Tryz.func6 rfl Tryz.ntmps6 (congrArg Array.toList Tryz.results6) (by decide) fun ts hn h0 h1 => ?_
    (repeat' (first
 | with_reducible refine callX.by awake8_c ?_
 | with_reducible refine callX.by (few4_c _ ?_ ?_) ?_
 | with_reducible refine callX.by (ansF_c _ _ _ _ _ _) ?_
 | with_reducible refine callX.by (ansE_c _ _ _ _ _ _ ?_ ?_ ?_) ?_
 | with_reducible refine callX.by sm8ac ?_
 | with_reducible refine callX.by sm8nc ?_
 | with_reducible refine callX.by (listen_c _ _ ?_) ?_
 | with_reducible refine callX.by (withinE_c _ _ _ _ ?_ ?_) ?_
 | with_reducible refine callX.by sm8wc ?_
 | with_reducible refine callX.by nilW1_c ?_
 | with_reducible refine callX.by nilW3_c ?_
 | with_reducible assumption
 | (with_reducible refine NxK.out hK _ ?_; clear hK K)
 | with_reducible refine NxK.out (by assumption) _ ?_
 | with_reducible refine Nx.out (by assumption) ?_
 | with_reducible refine SpecC.seqW fun K hK => ?_
 | with_reducible refine SpecC.regW T fun K hK => ?_
 | with_reducible refine SpecC.condW fun A B hA hB => ?_
 | with_reducible refine SpecC.block ?_
 | with_reducible refine SpecC.skip ?_
 | with_reducible refine SpecC.label ?_
 | with_reducible refine SpecC.exit ?_
 | with_reducible refine SpecC.goto ?_
 | with_reducible refine SpecC.ret ?_
 | ((with_reducible first | refine condK.split (fun hb => ?_) (fun hb => ?_) | refine gK.split_t (fun hb => ?_) (fun hb => ?_) | refine gK.split_f (fun hb => ?_) (fun hb => ?_)) <;> try simp only [decide_not, ilt_t, ilt_f, ile_t, ile_f, nlt_t, nlt_f, nle_t, nle_f, Bool.not_eq_true', Bool.not_eq_false', Int.ofNat_lt, Int.ofNat_le] at hb)
 | simp only [go_sem, ↓reduceIte, reduceIte, Nat.reduceEqDiff, String.reduceEq, Nat.reduceLT, Nat.reduceLeDiff, Nat.reduceAdd, Nat.reduceMul, Nat.reduceSub, Nat.reduceBEq, reduceCtorEq, *, -hs]
 | with_reducible refine fun (bn : Bool) hbn => ?_))
  have hl2 := few_len hfa
  by_cases h1 : 100 < a_host.length
  · have h1' : (100 : Int) < (a_host.length : Int) := by omega
    refine CallR.go2 (T := T) Tryz.call6 Tryz.func6 rfl Tryz.ntmps6 (congrArg Array.toList Tryz.results6) (by decide) fun ts hn h0 h1 => ?_
    (repeat' (first
 | with_reducible refine callX.by awake8_c ?_
 | with_reducible refine callX.by (few4_c _ ?_ ?_) ?_
 | with_reducible refine callX.by (ansF_c _ _ _ _ _ _) ?_
 | with_reducible refine callX.by (ansE_c _ _ _ _ _ _ ?_ ?_ ?_) ?_
 | with_reducible refine callX.by sm8ac ?_
 | with_reducible refine callX.by sm8nc ?_
 | with_reducible refine callX.by (listen_c _ _ ?_) ?_
 | with_reducible refine callX.by (withinE_c _ _ _ _ ?_ ?_) ?_
 | with_reducible refine callX.by sm8wc ?_
 | with_reducible refine callX.by nilW1_c ?_
 | with_reducible refine callX.by nilW3_c ?_
 | with_reducible assumption
 | (with_reducible refine NxK.out hK _ ?_; clear hK K)
 | with_reducible refine NxK.out (by assumption) _ ?_
 | with_reducible refine Nx.out (by assumption) ?_
 | with_reducible refine SpecC.seqW fun K hK => ?_
 | with_reducible refine SpecC.regW T fun K hK => ?_
 | with_reducible refine SpecC.condW fun A B hA hB => ?_
 | with_reducible refine SpecC.block ?_
 | with_reducible refine SpecC.skip ?_
 | with_reducible refine SpecC.label ?_
 | with_reducible refine SpecC.exit ?_
 | with_reducible refine SpecC.goto ?_
 | with_reducible refine SpecC.ret ?_
 | ((with_reducible first | refine condK.split (fun hb => ?_) (fun hb => ?_) | refine gK.split_t (fun hb => ?_) (fun hb => ?_) | refine gK.split_f (fun hb => ?_) (fun hb => ?_)) <;> try simp only [decide_not, ilt_t, ilt_f, ile_t, ile_f, nlt_t, nlt_f, nle_t, nle_f, Bool.not_eq_true', Bool.not_eq_false', Int.ofNat_lt, Int.ofNat_le] at hb)
 | simp only [go_sem, ↓reduceIte, reduceIte, Nat.reduceEqDiff, String.reduceEq, Nat.reduceLT, Nat.reduceLeDiff, Nat.reduceAdd, Nat.reduceMul, Nat.reduceSub, Nat.reduceBEq, reduceCtorEq, *, -hs]
 | with_reducible refine fun (bn : Bool) hbn => ?_))
  have h1' : ¬ (100 : Int) < (a_host.length : Int) := by omega
  by_cases h2 : 100 < a_path.length
  · have h2' : (100 : Int) < (a_path.length : Int) := by omega
    refine CallR.go2 (T := T) Tryz.call6 Tryz.func6 rfl Tryz.ntmps6 (congrArg Array.toList Tryz.results6) (by decide) fun ts hn h0 h1 => ?_
    (repeat' (first
 | with_reducible refine callX.by awake8_c ?_
 | with_reducible refine callX.by (few4_c _ ?_ ?_) ?_
 | with_reducible refine callX.by (ansF_c _ _ _ _ _ _) ?_
 | with_reducible refine callX.by (ansE_c _ _ _ _ _ _ ?_ ?_ ?_) ?_
 | with_reducible refine callX.by sm8ac ?_
 | with_reducible refine callX.by sm8nc ?_
 | with_reducible refine callX.by (listen_c _ _ ?_) ?_
 | with_reducible refine callX.by (withinE_c _ _ _ _ ?_ ?_) ?_
 | with_reducible refine callX.by sm8wc ?_
 | with_reducible refine callX.by nilW1_c ?_
 | with_reducible refine callX.by nilW3_c ?_
 | with_reducible assumption
 | (with_reducible refine NxK.out hK _ ?_; clear hK K)
 | with_reducible refine NxK.out (by assumption) _ ?_
 | with_reducible refine Nx.out (by assumption) ?_
 | with_reducible refine SpecC.seqW fun K hK => ?_
 | with_reducible refine SpecC.regW T fun K hK => ?_
 | with_reducible refine SpecC.condW fun A B hA hB => ?_
 | with_reducible refine SpecC.block ?_
 | with_reducible refine SpecC.skip ?_
 | with_reducible refine SpecC.label ?_
 | with_reducible refine SpecC.exit ?_
 | with_reducible refine SpecC.goto ?_
 | with_reducible refine SpecC.ret ?_
 | ((with_reducible first | refine condK.split (fun hb => ?_) (fun hb => ?_) | refine gK.split_t (fun hb => ?_) (fun hb => ?_) | refine gK.split_f (fun hb => ?_) (fun hb => ?_)) <;> try simp only [decide_not, ilt_t, ilt_f, ile_t, ile_f, nlt_t, nlt_f, nle_t, nle_f, Bool.not_eq_true', Bool.not_eq_false', Int.ofNat_lt, Int.ofNat_le] at hb)
 | simp only [go_sem, ↓reduceIte, reduceIte, Nat.reduceEqDiff, String.reduceEq, Nat.reduceLT, Nat.reduceLeDiff, Nat.reduceAdd, Nat.reduceMul, Nat.reduceSub, Nat.reduceBEq, reduceCtorEq, *, -hs]
 | with_reducible refine fun (bn : Bool) hbn => ?_))
  have h2' : ¬ (100 : Int) < (a_path.length : Int) := by omega
  have hml : (xs.filter nk).length ≤ xs.length := List.length_filter_le _ _
  have hms : Small (xs.filter nk).length := small_le (by omega)
  have hmS : ∀ r ∈ xs.filter nk, SmRes r := fun r hr => hs r (List.mem_filter.1 hr).1
  have hAa := ansE_c (xs.filter nk) a_port a_host a_path a_first a_other hms hmS hh
  rw [nk_ans] at hAa
  have hLi := listen_c (xs.filter nk) a_port hms
  rw [nk_listen] at hLi
  have hW1 := nilW1_c
  have hW3 := nilW3_c
  clear hmS
  refine CallR.go2 (T := T) Tryz.call6 Tryz.func6 rfl Tryz.ntmps6 (congrArg Array.toList Tryz.results6) (by decide) fun ts hn h0 h1 => ?_
  (repeat' (first
 | with_reducible refine callX.by awake8_c ?_
 | with_reducible refine callX.by (few4_c _ ?_ ?_) ?_
 | with_reducible refine callX.by (ansF_c _ _ _ _ _ _) ?_
 | with_reducible refine callX.by (ansE_c _ _ _ _ _ _ ?_ ?_ ?_) ?_
 | with_reducible refine callX.by sm8ac ?_
 | with_reducible refine callX.by sm8nc ?_
 | with_reducible refine callX.by (listen_c _ _ ?_) ?_
 | with_reducible refine callX.by (withinE_c _ _ _ _ ?_ ?_) ?_
 | with_reducible refine callX.by sm8wc ?_
 | with_reducible refine callX.by nilW1_c ?_
 | with_reducible refine callX.by nilW3_c ?_
 | with_reducible assumption
 | (with_reducible refine NxK.out hK _ ?_; clear hK K)
 | with_reducible refine NxK.out (by assumption) _ ?_
 | with_reducible refine Nx.out (by assumption) ?_
 | with_reducible refine SpecC.seqW fun K hK => ?_
 | with_reducible refine SpecC.regW T fun K hK => ?_
 | with_reducible refine SpecC.condW fun A B hA hB => ?_
 | with_reducible refine SpecC.block ?_
 | with_reducible refine SpecC.skip ?_
 | with_reducible refine SpecC.label ?_
 | with_reducible refine SpecC.exit ?_
 | with_reducible refine SpecC.goto ?_
 | with_reducible refine SpecC.ret ?_
 | ((with_reducible first | refine condK.split (fun hb => ?_) (fun hb => ?_) | refine gK.split_t (fun hb => ?_) (fun hb => ?_) | refine gK.split_f (fun hb => ?_) (fun hb => ?_)) <;> try simp only [decide_not, ilt_t, ilt_f, ile_t, ile_f, nlt_t, nlt_f, nle_t, nle_f, Bool.not_eq_true', Bool.not_eq_false', Int.ofNat_lt, Int.ofNat_le] at hb)
 | simp only [go_sem, ↓reduceIte, reduceIte, Nat.reduceEqDiff, String.reduceEq, Nat.reduceLT, Nat.reduceLeDiff, Nat.reduceAdd, Nat.reduceMul, Nat.reduceSub, Nat.reduceBEq, reduceCtorEq, *, -hs, -hAa, -hLi, -hW1, -hW3]
 | with_reducible refine fun (bn : Bool) hbn => ?_))
  refine SpecC.virt 6 46 7 (by decide) (by simp only [go_sem, ↓reduceIte, reduceIte, Nat.reduceEqDiff, String.reduceEq, Nat.reduceLT, Nat.reduceLeDiff, Nat.reduceAdd, Nat.reduceMul, Nat.reduceSub, Nat.reduceBEq, reduceCtorEq, *, -hs, -hAa, -hLi, -hW1, -hW3]) ?_
  refine SpecC.loopF [0, 3, 5] (fun m ts' => ∃ (i : Nat), ∃ (g : Nat), ∃ (ys : List Res), m = xs.length - i ∧ i ≤ xs.length ∧ ys.length ≤ i ∧ xs.filter nk = ys ++ (xs.drop i).filter nk ∧ ts'.tmp 6 = .os 46 g ys.length ∧ ts'.gen 46 = g ∧ ts'.obj 46 = .arr 7 (avs ys) ∧ ts'.tmp 7 = .int .i64 i) xs.length ?_ ?_
  · refine ⟨0, ts.gen 46 + 1, [], rfl, Nat.zero_le _, Nat.le_refl _, rfl, ?_⟩
    simp only [go_sem, ↓reduceIte, reduceIte, Nat.reduceEqDiff, String.reduceEq, Nat.reduceLT, Nat.reduceLeDiff, Nat.reduceAdd, Nat.reduceMul, Nat.reduceSub, Nat.reduceBEq, reduceCtorEq, *, -hs, -hAa, -hLi, -hW1, -hW3, avs_nil]
  · rintro m A hM ts' hk ⟨i, g, ys, hm, f1, f2, f3, s1, s2, s3, s4⟩
    simp only [go_sem, ↓reduceIte, reduceIte, Nat.reduceEqDiff, String.reduceEq, Nat.reduceLT, Nat.reduceLeDiff, Nat.reduceAdd, Nat.reduceMul, Nat.reduceSub, Nat.reduceBEq, reduceCtorEq, *] at hk
    by_cases hlt : i < xs.length
    · rw [List.drop_eq_getElem_cons hlt, List.filter_cons] at f3
      have hr : Room (ys.length + 1) 104 := room_small (by unfold Small at hl; omega) (by decide)
      by_cases hk : xs[i].kind = 0
      · rw [if_neg (by simp [nk, hk])] at f3
        (repeat' (first
 | with_reducible refine callX.by awake8_c ?_
 | with_reducible refine callX.by (few4_c _ ?_ ?_) ?_
 | with_reducible refine callX.by (ansF_c _ _ _ _ _ _) ?_
 | with_reducible refine callX.by (ansE_c _ _ _ _ _ _ ?_ ?_ ?_) ?_
 | with_reducible refine callX.by sm8ac ?_
 | with_reducible refine callX.by sm8nc ?_
 | with_reducible refine callX.by (listen_c _ _ ?_) ?_
 | with_reducible refine callX.by (withinE_c _ _ _ _ ?_ ?_) ?_
 | with_reducible refine callX.by sm8wc ?_
 | with_reducible refine callX.by nilW1_c ?_
 | with_reducible refine callX.by nilW3_c ?_
 | with_reducible assumption
 | (with_reducible refine NxK.out hK _ ?_; clear hK K)
 | with_reducible refine NxK.out (by assumption) _ ?_
 | with_reducible refine Nx.out (by assumption) ?_
 | with_reducible refine SpecC.seqW fun K hK => ?_
 | with_reducible refine SpecC.regW T fun K hK => ?_
 | with_reducible refine SpecC.condW fun A B hA hB => ?_
 | with_reducible refine SpecC.block ?_
 | with_reducible refine SpecC.skip ?_
 | with_reducible refine SpecC.label ?_
 | with_reducible refine SpecC.exit ?_
 | with_reducible refine SpecC.goto ?_
 | with_reducible refine SpecC.ret ?_
 | ((with_reducible first | refine condK.split (fun hb => ?_) (fun hb => ?_) | refine gK.split_t (fun hb => ?_) (fun hb => ?_) | refine gK.split_f (fun hb => ?_) (fun hb => ?_)) <;> try simp only [decide_not, ilt_t, ilt_f, ile_t, ile_f, nlt_t, nlt_f, nle_t, nle_f, Bool.not_eq_true', Bool.not_eq_false', Int.ofNat_lt, Int.ofNat_le] at hb)
 | simp only [go_sem, ↓reduceIte, reduceIte, Nat.reduceEqDiff, String.reduceEq, Nat.reduceLT, Nat.reduceLeDiff, Nat.reduceAdd, Nat.reduceMul, Nat.reduceSub, Nat.reduceBEq, reduceCtorEq, *, -hs, -hAa, -hLi, -hW1, -hW3, -f3]
 | with_reducible refine fun (bn : Bool) hbn => ?_))
        all_goals ((repeat clear hK); (repeat clear hA); (repeat clear hB))
        (refine hM.on (xs.length - (i + 1)) (by omega) (by simp only [go_sem, ↓reduceIte, reduceIte, Nat.reduceEqDiff, String.reduceEq, Nat.reduceLT, Nat.reduceLeDiff, Nat.reduceAdd, Nat.reduceMul, Nat.reduceSub, Nat.reduceBEq, reduceCtorEq, *, w64_nat hlt hl, -hs, -hAa, -hLi, -hW1, -hW3, -f3]) ⟨i + 1, g, ys, rfl, by omega, by omega, f3, ?_⟩; simp only [go_sem, ↓reduceIte, reduceIte, Nat.reduceEqDiff, String.reduceEq, Nat.reduceLT, Nat.reduceLeDiff, Nat.reduceAdd, Nat.reduceMul, Nat.reduceSub, Nat.reduceBEq, reduceCtorEq, *, w64_nat hlt hl, -hs, -hAa, -hLi, -hW1, -hW3, -f3]; done)
      · rw [if_pos (by simp [nk, hk])] at f3
        (repeat' (first
 | with_reducible refine callX.by awake8_c ?_
 | with_reducible refine callX.by (few4_c _ ?_ ?_) ?_
 | with_reducible refine callX.by (ansF_c _ _ _ _ _ _) ?_
 | with_reducible refine callX.by (ansE_c _ _ _ _ _ _ ?_ ?_ ?_) ?_
 | with_reducible refine callX.by sm8ac ?_
 | with_reducible refine callX.by sm8nc ?_
 | with_reducible refine callX.by (listen_c _ _ ?_) ?_
 | with_reducible refine callX.by (withinE_c _ _ _ _ ?_ ?_) ?_
 | with_reducible refine callX.by sm8wc ?_
 | with_reducible refine callX.by nilW1_c ?_
 | with_reducible refine callX.by nilW3_c ?_
 | with_reducible assumption
 | (with_reducible refine NxK.out hK _ ?_; clear hK K)
 | with_reducible refine NxK.out (by assumption) _ ?_
 | with_reducible refine Nx.out (by assumption) ?_
 | with_reducible refine SpecC.seqW fun K hK => ?_
 | with_reducible refine SpecC.regW T fun K hK => ?_
 | with_reducible refine SpecC.condW fun A B hA hB => ?_
 | with_reducible refine SpecC.block ?_
 | with_reducible refine SpecC.skip ?_
 | with_reducible refine SpecC.label ?_
 | with_reducible refine SpecC.exit ?_
 | with_reducible refine SpecC.goto ?_
 | with_reducible refine SpecC.ret ?_
 | ((with_reducible first | refine condK.split (fun hb => ?_) (fun hb => ?_) | refine gK.split_t (fun hb => ?_) (fun hb => ?_) | refine gK.split_f (fun hb => ?_) (fun hb => ?_)) <;> try simp only [decide_not, ilt_t, ilt_f, ile_t, ile_f, nlt_t, nlt_f, nle_t, nle_f, Bool.not_eq_true', Bool.not_eq_false', Int.ofNat_lt, Int.ofNat_le] at hb)
 | simp only [go_sem, ↓reduceIte, reduceIte, Nat.reduceEqDiff, String.reduceEq, Nat.reduceLT, Nat.reduceLeDiff, Nat.reduceAdd, Nat.reduceMul, Nat.reduceSub, Nat.reduceBEq, reduceCtorEq, *, -hs, -hAa, -hLi, -hW1, -hW3, -f3]
 | with_reducible refine fun (bn : Bool) hbn => ?_))
        all_goals ((repeat clear hK); (repeat clear hA); (repeat clear hB))
        (refine hM.on (xs.length - (i + 1)) (by omega) (by simp only [go_sem, ↓reduceIte, reduceIte, Nat.reduceEqDiff, String.reduceEq, Nat.reduceLT, Nat.reduceLeDiff, Nat.reduceAdd, Nat.reduceMul, Nat.reduceSub, Nat.reduceBEq, reduceCtorEq, *, w64_nat hlt hl, List.length_append, -hs, -hAa, -hLi, -hW1, -hW3, -f3]) ⟨i + 1, g + 1, ys ++ [xs[i]], rfl, by omega, by simp; omega, by rw [f3, List.append_assoc]; rfl, ?_⟩; simp only [go_sem, ↓reduceIte, reduceIte, Nat.reduceEqDiff, String.reduceEq, Nat.reduceLT, Nat.reduceLeDiff, Nat.reduceAdd, Nat.reduceMul, Nat.reduceSub, Nat.reduceBEq, reduceCtorEq, *, w64_nat hlt hl, List.length_append, -hs, -hAa, -hLi, -hW1, -hW3, -f3]; done)
    · rw [List.drop_eq_nil_of_le (by omega), List.filter_nil, List.append_nil] at f3
      rw [f3] at hAa hLi
      (repeat' (first
 | with_reducible refine callX.by (hAa) ?_
 | with_reducible refine callX.fz (hLi) ?_
 | with_reducible refine callX.by (hW1) ?_
 | with_reducible refine callX.by (hW3) ?_
 | with_reducible refine callX.by awake8_c ?_
 | with_reducible refine callX.by (few4_c _ ?_ ?_) ?_
 | with_reducible refine callX.by (ansF_c _ _ _ _ _ _) ?_
 | with_reducible refine callX.by (ansE_c _ _ _ _ _ _ ?_ ?_ ?_) ?_
 | with_reducible refine callX.by sm8ac ?_
 | with_reducible refine callX.by sm8nc ?_
 | with_reducible refine callX.by (listen_c _ _ ?_) ?_
 | with_reducible refine callX.by (withinE_c _ _ _ _ ?_ ?_) ?_
 | with_reducible refine callX.by sm8wc ?_
 | with_reducible refine callX.by nilW1_c ?_
 | with_reducible refine callX.by nilW3_c ?_
 | with_reducible assumption
 | (with_reducible refine NxK.out hK _ ?_; clear hK K)
 | with_reducible refine NxK.out (by assumption) _ ?_
 | with_reducible refine Nx.out (by assumption) ?_
 | with_reducible refine SpecC.seqW fun K hK => ?_
 | with_reducible refine SpecC.regW T fun K hK => ?_
 | with_reducible refine SpecC.condW fun A B hA hB => ?_
 | with_reducible refine SpecC.block ?_
 | with_reducible refine SpecC.skip ?_
 | with_reducible refine SpecC.label ?_
 | with_reducible refine SpecC.exit ?_
 | with_reducible refine SpecC.goto ?_
 | with_reducible refine SpecC.ret ?_
 | ((with_reducible first | refine condK.split (fun hb => ?_) (fun hb => ?_) | refine gK.split_t (fun hb => ?_) (fun hb => ?_) | refine gK.split_f (fun hb => ?_) (fun hb => ?_)) <;> try simp only [decide_not, ilt_t, ilt_f, ile_t, ile_f, nlt_t, nlt_f, nle_t, nle_f, Bool.not_eq_true', Bool.not_eq_false', Int.ofNat_lt, Int.ofNat_le] at hb)
 | simp only [go_sem, ↓reduceIte, reduceIte, Nat.reduceEqDiff, String.reduceEq, Nat.reduceLT, Nat.reduceLeDiff, Nat.reduceAdd, Nat.reduceMul, Nat.reduceSub, Nat.reduceBEq, reduceCtorEq, *, -hs, -hAa, -hLi, -hW1, -hW3, -f3, avs_nil, zRes, Option.getD_none, Option.isSome_none, Int.reduceEq]
 | with_reducible refine fun (bn : Bool) hbn => ?_))
end Go.Proofs.YtdhbkffionmmaaaGreatDoor.Lg
