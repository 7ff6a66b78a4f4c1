/- Parts of the proof, one behind the other. -/
import Derived.Test.YtdhbkffionmmaaaGreatDoorG19
namespace Go.Proofs.YtdhbkffionmmaaaGreatDoor.Lg
set_option maxRecDepth 100000
set_option linter.unusedVariables false
set_option linter.unusedSimpArgs false
open Go
def sm8 : List Res := [⟨0, [108], 0, 80, [114], [], []⟩, ⟨1, [114], 0, 0, [], [⟨[42], [47], [⟨[99], 1⟩]⟩], []⟩, ⟨2, [99], 0, 0, [101], [], []⟩, ⟨3, [101], 0, 0, [], [], [7]⟩]
set_option maxRecDepth 30000 in
set_option maxHeartbeats 4000000 in
theorem small8_c : CallR Tryz.prog 21 [] (.own 7 (avs sm8)) := by
  refine CallR.go0 (T := T) Tryz.call21 Tryz.func21 rfl Tryz.ntmps21 (congrArg Array.toList Tryz.results21) fun ts hn => ?_
  (repeat' (first
 | with_reducible assumption
 | (with_reducible refine NxK.out hK _ ?_; clear hK K)
 | with_reducible refine NxK.out (by assumption) _ ?_
 | with_reducible refine Nx.out (by assumption) ?_
 | with_reducible refine SpecC.seqW fun K hK => ?_
 | with_reducible refine SpecC.regW T fun K hK => ?_
 | with_reducible refine SpecC.condW fun A B hA hB => ?_
 | with_reducible refine SpecC.block ?_
 | with_reducible refine SpecC.skip ?_
 | with_reducible refine SpecC.label ?_
 | with_reducible refine SpecC.exit ?_
 | with_reducible refine SpecC.goto ?_
 | ((with_reducible first | refine condK.split (fun hb => ?_) (fun hb => ?_) | refine gK.split_t (fun hb => ?_) (fun hb => ?_) | refine gK.split_f (fun hb => ?_) (fun hb => ?_)) <;> try simp only [decide_not, ilt_t, ilt_f, ile_t, ile_f, nlt_t, nlt_f, nle_t, nle_f, Bool.not_eq_true', Bool.not_eq_false', Int.ofNat_lt, Int.ofNat_le] at hb)
 | simp only [go_sem, ↓reduceIte, reduceIte, Nat.reduceEqDiff, String.reduceEq, Nat.reduceLT, Nat.reduceLeDiff, Nat.reduceAdd, Nat.reduceMul, Nat.reduceSub, Nat.reduceBEq, reduceCtorEq, *, Int.le_refl]
 | with_reducible refine fun (bn : Bool) hbn => ?_))
  refine SpecC.ent (Ent.frzA2 5 0 2 3 ?_) ?_
  · simp only [go_sem, ↓reduceIte, reduceIte, Nat.reduceEqDiff, String.reduceEq, Nat.reduceLT, Nat.reduceLeDiff, Nat.reduceAdd, Nat.reduceMul, Nat.reduceSub, Nat.reduceBEq, reduceCtorEq, *, List.getD_cons_zero, AV.cells]
  refine SpecC.ent (Ent.frzA2 10 1 5 5 ?_) ?_
  · simp only [go_sem, ↓reduceIte, reduceIte, Nat.reduceEqDiff, String.reduceEq, Nat.reduceLT, Nat.reduceLeDiff, Nat.reduceAdd, Nat.reduceMul, Nat.reduceSub, Nat.reduceBEq, reduceCtorEq, *, List.getD_cons_zero, AV.cells]
  refine SpecC.ent (Ent.frzA2 10 3 6 8 ?_) ?_
  · simp only [go_sem, ↓reduceIte, reduceIte, Nat.reduceEqDiff, String.reduceEq, Nat.reduceLT, Nat.reduceLeDiff, Nat.reduceAdd, Nat.reduceMul, Nat.reduceSub, Nat.reduceBEq, reduceCtorEq, *, List.getD_cons_zero, AV.cells]
  (repeat' (first
 | with_reducible assumption
 | (with_reducible refine NxK.out hK _ ?_; clear hK K)
 | with_reducible refine NxK.out (by assumption) _ ?_
 | with_reducible refine Nx.out (by assumption) ?_
 | with_reducible refine SpecC.seqW fun K hK => ?_
 | with_reducible refine SpecC.regW T fun K hK => ?_
 | with_reducible refine SpecC.condW fun A B hA hB => ?_
 | with_reducible refine SpecC.block ?_
 | with_reducible refine SpecC.skip ?_
 | with_reducible refine SpecC.label ?_
 | with_reducible refine SpecC.exit ?_
 | with_reducible refine SpecC.goto ?_
 | with_reducible refine SpecC.ret ?_
 | ((with_reducible first | refine condK.split (fun hb => ?_) (fun hb => ?_) | refine gK.split_t (fun hb => ?_) (fun hb => ?_) | refine gK.split_f (fun hb => ?_) (fun hb => ?_)) <;> try simp only [decide_not, ilt_t, ilt_f, ile_t, ile_f, nlt_t, nlt_f, nle_t, nle_f, Bool.not_eq_true', Bool.not_eq_false', Int.ofNat_lt, Int.ofNat_le] at hb)
 | simp only [go_sem, ↓reduceIte, reduceIte, Nat.reduceEqDiff, String.reduceEq, Nat.reduceLT, Nat.reduceLeDiff, Nat.reduceAdd, Nat.reduceMul, Nat.reduceSub, Nat.reduceBEq, reduceCtorEq, *, List.getD_cons_zero, AV.cells]
 | with_reducible refine fun (bn : Bool) hbn => ?_))
  all_goals rfl
theorem sm8s : ∀ r ∈ sm8, saneR r = 0 := by
  intro r hr
  simp only [sm8, List.mem_cons, List.not_mem_nil, or_false] at hr
  rcases hr with rfl | rfl | rfl | rfl <;> decide
theorem sm8sm : ∀ r ∈ sm8, SmRes r := by
  intro r hr
  simp only [sm8, List.mem_cons, List.not_mem_nil, or_false] at hr
  rcases hr with rfl | rfl | rfl | rfl <;> simp [SmRes, Small, SmRule, SmWeight]
theorem sm8r : ∀ r ∈ sm8, ∀ k ∈ refsR r, k ∈ sm8.map keyOf := by
  intro r hr k hk
  have hs := sm8s r hr
  simp only [sm8, List.mem_cons, List.not_mem_nil, or_false] at hr
  rcases hr with rfl | rfl | rfl | rfl
  · rw [refs_one hs (.inl rfl), List.mem_singleton] at hk
    subst hk; decide
  · rw [(refs_up hs).2] at hk
    have e : baseR ⟨1, [114], 0, 0, [], [⟨[42], [47], [⟨[99], 1⟩]⟩], []⟩ ++ keysR [⟨[42], [47], [⟨[99], 1⟩]⟩] = [⟨2, [99]⟩] := by decide
    rw [e, List.mem_singleton] at hk
    subst hk; decide
  · rw [refs_one hs (.inr rfl), List.mem_singleton] at hk
    subst hk; decide
  · rw [refs_ends rfl] at hk; simp at hk
theorem sm8v : served sm8 = 0 := by
  refine served_ok.2 ⟨fun r hr => sm8r r ((reachR_sub sm8).subset hr), fun r hr => ?_⟩
  have hr := (reachR_sub sm8).subset hr
  simp only [sm8, List.mem_cons, List.not_mem_nil, or_false] at hr
  rcases hr with rfl | rfl | rfl | rfl <;> decide
theorem sm8t : tsane sm8 = 0 := by
  have h1 : firstBad sm8 = 0 := firstBad_of sm8s
  unfold tsane
  rw [h1]
  decide
theorem sm8g : goodE sm8 = true := by unfold goodE; rw [sm8t, sm8v]; rfl
theorem sm8a : ansE sm8 ⟨80, [97], [47], 0, 0⟩ = ⟨3, [99], 7⟩ := by decide +kernel
theorem sm8w : withinE sm8 ⟨3, [99], 7⟩ = true := by decide +kernel
theorem sm8ac : CallR Tryz.prog 11 [.slice false (avs sm8), .bool true, .agg [.int .i64 80, .str [97], .str [47], .int .i64 0, .int .i64 0]] (.val (.agg [.int .i64 3, .str [99], .int .i64 7])) := by
  have h := ansE_c sm8 80 [97] [47] 0 0 (by simp [Small, sm8]) sm8sm (by simp [Small])
  rw [sm8a] at h; exact h
theorem sm8nc : CallR Tryz.prog 11 [.slice false [], .bool true, .agg [.int .i64 0, .str [], .str [], .int .i64 0, .int .i64 0]] (.val (.agg [.int .i64 1, .str [], .int .i64 0])) := by
  have h := ansE_c [] 0 [] [] 0 0 (by simp [Small]) (by simp) (by simp [Small])
  exact h
theorem sm8gc : CallR Tryz.prog 10 [.slice false (avs sm8)] (.val (.bool true)) := by
  have h := goodE_c sm8 (by decide) sm8sm (fun h => (conf_of h).nodup)
  rw [sm8g] at h; exact h
theorem sm8wc : CallR Tryz.prog 14 [.slice false (avs sm8), .agg [.int .i64 3, .str [99], .int .i64 7]] (.val (.bool true)) := by
  have h := withinE_c sm8 3 [99] 7 (by simp [Small, sm8]) sm8sm
  rw [sm8w] at h; exact h
theorem sm8l : sm8.length = 4 := rfl
set_option maxRecDepth 30000 in
set_option maxHeartbeats 4000000 in
theorem awake8_c : CallR Tryz.prog 8 [] (.val (.bool true)) := by
  have htk : ∀ n, n = 4 → (avs sm8).take n = avs sm8 := fun n h => List.take_of_length_le (by simp [avs, sm8l, h])
  refine CallR.go0 (T := T) Tryz.call8 Tryz.func8 rfl Tryz.ntmps8 (congrArg Array.toList Tryz.results8) fun ts hn => ?_
  (repeat' (first
 | with_reducible refine callX.by (sm8ac) ?_
 | with_reducible refine callX.by (sm8nc) ?_
 | with_reducible refine callX.by (sm8gc) ?_
 | with_reducible refine callX.by (sm8wc) ?_
 | with_reducible refine callX.by (small8_c) ?_
 | with_reducible refine callX.by small8_c ?_
 | with_reducible refine callX.by (ansF_c _ _ _ _ _ _) ?_
 | with_reducible refine callX.by (ansE_c _ _ _ _ _ _ ?_ ?_ ?_) ?_
 | with_reducible refine callX.by sm8ac ?_
 | with_reducible refine callX.by sm8nc ?_
 | with_reducible refine callX.by (goodN_c _ ?_ ?_ ?_) ?_
 | with_reducible refine callX.by (goodS_c _ ?_ ?_ ?_ ?_) ?_
 | with_reducible refine callX.by (goodE_c _ ?_ ?_ ?_) ?_
 | with_reducible refine callX.by sm8gc ?_
 | with_reducible refine callX.by (withinE_c _ _ _ _ ?_ ?_) ?_
 | with_reducible refine callX.by sm8wc ?_
 | with_reducible assumption
 | (with_reducible refine NxK.out hK _ ?_; clear hK K)
 | with_reducible refine NxK.out (by assumption) _ ?_
 | with_reducible refine Nx.out (by assumption) ?_
 | with_reducible refine SpecC.seqW fun K hK => ?_
 | with_reducible refine SpecC.regW T fun K hK => ?_
 | with_reducible refine SpecC.drawW (id := 2) T mixed [([5], [6, 9, 10, 11, 12, 13, 14, 15, 16, 17, 18, 19, 20, 21, 22]), ([6], [5, 9, 10, 11, 12, 13, 14, 15, 16, 17, 18, 19, 20, 21, 22]), ([7], [14, 15, 16, 17, 18, 19, 20, 21, 22]), ([8], [15, 16, 17, 18, 19, 20, 21, 22]), ([9], [5, 6, 12, 13, 15, 16, 17, 18, 19, 20, 21, 22]), ([10], [5, 6, 13, 18, 19, 20, 21, 22]), ([11], [5, 6, 14, 15, 16, 17, 18, 19, 20, 21, 22]), ([12], [5, 6, 9, 15, 16, 17, 18, 19, 20, 21, 22]), ([13], [5, 6, 9, 10, 18, 19, 20, 21, 22]), ([14], [5, 6, 7, 11, 19, 20, 21, 22]), ([15], [5, 6, 7, 8, 9, 11, 12, 19, 20, 21, 22]), ([16], [5, 6, 7, 8, 9, 11, 12]), ([17], [5, 6, 7, 8, 9, 11, 12]), ([18], [5, 6, 7, 8, 9, 10, 11, 12, 13]), ([19], [5, 6, 7, 8, 9, 10, 11, 12, 13, 14, 15, 20]), ([20], [5, 6, 7, 8, 9, 10, 11, 12, 13, 14, 15, 19]), ([21], [5, 6, 7, 8, 9, 10, 11, 12, 13, 14, 15]), ([22], [5, 6, 7, 8, 9, 10, 11, 12, 13, 14, 15])] (by kernel_rfl) fun K hK => ?_
 | with_reducible refine SpecC.condW fun A B hA hB => ?_
 | with_reducible refine SpecC.block ?_
 | with_reducible refine SpecC.skip ?_
 | with_reducible refine SpecC.label ?_
 | with_reducible refine SpecC.exit ?_
 | with_reducible refine SpecC.goto ?_
 | with_reducible refine SpecC.ret ?_
 | ((with_reducible first | refine condK.split (fun hb => ?_) (fun hb => ?_) | refine gK.split_t (fun hb => ?_) (fun hb => ?_) | refine gK.split_f (fun hb => ?_) (fun hb => ?_)) <;> try simp only [decide_not, ilt_t, ilt_f, ile_t, ile_f, nlt_t, nlt_f, nle_t, nle_f, Bool.not_eq_true', Bool.not_eq_false', Int.ofNat_lt, Int.ofNat_le] at hb)
 | simp only [go_sem, ↓reduceIte, reduceIte, Nat.reduceEqDiff, String.reduceEq, Nat.reduceLT, Nat.reduceLeDiff, Nat.reduceAdd, Nat.reduceMul, Nat.reduceSub, Nat.reduceBEq, reduceCtorEq, *, -htk, Int.reduceEq]
 | with_reducible refine fun (bn : Bool) hbn => ?_))
end Go.Proofs.YtdhbkffionmmaaaGreatDoor.Lg

namespace Go.Proofs.YtdhbkffionmmaaaGreatDoor.Lg
set_option maxRecDepth 100000
set_option linter.unusedVariables false
set_option linter.unusedSimpArgs false
open Go
theorem few_len {l : List Res} (h : fewAll l = true) : l.length ≤ 65536 := by
  simp only [fewAll, Bool.and_eq_true, decide_eq_true_eq] at h
  omega
theorem nilW1_c : CallR Tryz.prog 14 [.slice false [], .agg [.int .i64 1, .str [], .int .i64 0]] (.val (.bool true)) := by
  have h := withinE_c [] 1 [] 0 (by simp [Small]) (by simp)
  rw [show withinE [] ⟨1, [], 0⟩ = true by decide] at h
  exact h
theorem nilW3_c : CallR Tryz.prog 14 [.slice false [], .agg [.int .i64 3, .str [], .int .i64 0]] (.val (.bool false)) := by
  have h := withinE_c [] 3 [] 0 (by simp [Small]) (by simp)
  rw [show withinE [] ⟨3, [], 0⟩ = false by decide] at h
  exact h
end Go.Proofs.YtdhbkffionmmaaaGreatDoor.Lg

namespace Go.Proofs.YtdhbkffionmmaaaGreatDoor.Lg
set_option maxRecDepth 100000
set_option linter.unusedVariables false
set_option linter.unusedSimpArgs false
open Go
theorem tkind0_reach {l : List Res} (h : (l.map keyOf).Nodup) : tkind (reachR l) 0 = tkind l 0 := by
  unfold tkind reachR
  rw [List.filter_filter]
  refine List.filter_congr fun r hr => ?_
  by_cases hk : r.kind = 0
  · rw [(reached_iff h (keyOf r)).2 (.base r hr hk)]; simp
  · simp [hk]
theorem tsane_parts {l : List Res} (h : tsane l = 0) : portsM (tkind l 0) [] = true := by
  unfold tsane at h
  split at h
  · cases h
  · split at h
    · rename_i h2; exact absurd h h2
    · split at h
      · cases h
      · split at h
        · cases h
        · rename_i h4; simpa using h4
theorem tsane_of {l : List Res} (h1 : l.length ≤ 64) (h2 : ∀ r ∈ l, saneR r = 0) (h3 : Up (l.map keyOf)) (h4 : portsM (tkind l 0) [] = true) : tsane l = 0 := by
  unfold tsane
  rw [if_neg (by omega), if_neg (by rw [firstBad_of h2]; simp), if_neg (by rw [(upR_iff l).2 h3]; simp), if_neg (by rw [h4]; simp)]
theorem tsane_reach {l : List Res} (h : tsane l = 0) : tsane (reachR l) = 0 := by
  have hc := conf_of h
  refine tsane_of (Nat.le_trans (reachR_len l) hc.len) (fun r hr => hc.sane r ((reachR_sub l).subset hr)) (hc.up.sublist ((reachR_sub l).map _)) ?_
  rw [tkind0_reach hc.nodup]
  exact tsane_parts h
theorem good_reach_good {l : List Res} (h : tsane l = 0) (hv : served l = 0) : goodE (reachR l) = true := by
  unfold goodE
  rw [tsane_reach h, served_reach (conf_of h).nodup, hv]; rfl
end Go.Proofs.YtdhbkffionmmaaaGreatDoor.Lg

namespace Go.Proofs.YtdhbkffionmmaaaGreatDoor.Lg
set_option maxRecDepth 100000
set_option linter.unusedVariables false
set_option linter.unusedSimpArgs false
open Go
set_option maxRecDepth 30000 in
set_option maxHeartbeats 8000000 in
theorem evalGood_c (xs : List Res) (a_port : Int) (a_host : List UInt8) (a_path : List UInt8) (a_first : Int) (a_other : Int) (hl : Small xs.length) (hs : ∀ r ∈ xs, SmRes r) (hh : Small a_host.length) : CallR Tryz.prog 3 [.slice false (avs xs), .agg [.int .i64 a_port, .str a_host, .str a_path, .int .i64 a_first, .int .i64 a_other]] (.val (.bool true)) := by
  by_cases hfa : fewAll xs = true
  rotate_left
  · have hfa : fewAll xs = false := by simpa using hfa
    refine CallR.go2 (T := T) Tryz.call3 Tryz.func3 rfl Tryz.ntmps3 (congrArg Array.toList Tryz.results3) (by decide) fun ts hn h0 h1 => ?_
    (repeat' (first
 | with_reducible refine callX.by awake8_c ?_
 | with_reducible refine callX.by (few4_c _ ?_ ?_) ?_
 | with_reducible refine callX.by (goodN_c _ ?_ ?_ ?_) ?_
 | with_reducible refine callX.by (goodS_c _ ?_ ?_ ?_ ?_) ?_
 | with_reducible refine callX.by (goodE_c _ ?_ ?_ ?_) ?_
 | with_reducible refine callX.by sm8gc ?_
 | with_reducible refine callX.by (ansF_c _ _ _ _ _ _) ?_
 | with_reducible refine callX.by (ansE_c _ _ _ _ _ _ ?_ ?_ ?_) ?_
 | with_reducible refine callX.by sm8ac ?_
 | with_reducible refine callX.by sm8nc ?_
 | with_reducible refine callX.by (listen_c _ _ ?_) ?_
 | with_reducible refine callX.by (reach_c _ ?_ ?_ ?_) ?_
 | with_reducible refine callX.by a6rc ?_
 | with_reducible refine callX.by (withinE_c _ _ _ _ ?_ ?_) ?_
 | with_reducible refine callX.by sm8wc ?_
 | with_reducible refine callX.by nilW1_c ?_
 | with_reducible refine callX.by nilW3_c ?_
 | with_reducible assumption
 | (with_reducible refine NxK.out hK _ ?_; clear hK K)
 | with_reducible refine NxK.out (by assumption) _ ?_
 | with_reducible refine Nx.out (by assumption) ?_
 | with_reducible refine SpecC.seqW fun K hK => ?_
 | with_reducible refine SpecC.regW T fun K hK => ?_
 | with_reducible refine SpecC.drawW (id := 7) T mixed [([44], [51, 52, 53, 54, 55, 56, 57, 58, 59, 60, 61, 62, 63, 64, 65, 66, 67, 68, 69, 70, 71, 72, 73, 74, 75, 76, 77, 78, 79, 80, 81, 82, 83, 84, 85]), ([45], [55, 56, 57, 58, 59, 60, 61, 62, 63, 64, 65, 66, 67, 68, 69, 70, 71, 72, 73, 74, 75, 76, 77, 78, 79, 80, 81, 82, 83, 84, 85]), ([46], [49, 50, 51, 52, 53, 54, 55, 56, 57, 58, 59, 60, 61, 62, 63, 64, 65, 66, 67, 68, 69, 70, 71, 72, 73, 74, 75, 76, 77, 78, 79, 80, 81, 82, 83, 84, 85]), ([47], [50, 51, 52, 53, 54, 55, 56, 57, 58, 59, 60, 61, 62, 63, 64, 65, 66, 67, 68, 69, 70, 71, 72, 73, 74, 75, 76, 77, 78, 79, 80, 81, 82, 83, 84, 85]), ([48], [51, 52, 53, 54, 55, 56, 57, 58, 59, 60, 61, 62, 63, 64, 65, 66, 67, 68, 69, 70, 71, 72, 73, 74, 75, 76, 77, 78, 79, 80, 81, 82, 83, 84, 85]), ([49], [46, 55, 56, 57, 58, 59, 60, 61, 62, 63, 64, 65, 66, 67, 68, 69, 70, 71, 72, 73, 74, 75, 76, 77, 78, 79, 80, 81, 82, 83, 84, 85]), ([50], [46, 47, 56, 57, 58, 59, 60, 61, 62, 63, 64, 65, 66, 67, 68, 69, 70, 71, 72, 73, 74, 75, 76, 77, 78, 79, 80, 81, 82, 83, 84, 85]), ([51], [44, 46, 47, 48, 52, 56, 57, 58, 59, 60, 61, 62, 63, 64, 65, 66, 67, 68, 69, 70, 71, 72, 73, 74, 75, 76, 77, 78, 79, 80, 81, 82, 83, 84, 85]), ([52], [44, 46, 47, 48, 51, 56, 57, 58, 59, 60, 61, 62, 63, 64, 65, 66, 67, 68, 69, 70, 71, 72, 73, 74, 75, 76, 77, 78, 79, 80, 81, 82, 83, 84, 85]), ([53], [44, 46, 47, 48, 64, 65, 66, 67, 68, 69, 70, 71, 72, 73, 74, 75, 76, 77, 78, 79, 80, 81, 82, 83, 84, 85]), ([54], [44, 46, 47, 48, 64, 65, 66, 67, 68, 69, 70, 71, 72, 73, 74, 75, 76, 77, 78, 79, 80, 81, 82, 83, 84, 85]), ([55], [44, 45, 46, 47, 48, 49, 67, 68, 69, 70, 71, 72, 73, 74, 75, 76, 77, 78, 79, 80, 81, 82, 83, 84, 85]), ([56], [44, 45, 46, 47, 48, 49, 50, 51, 52, 59, 60, 61, 62, 63, 64, 65, 66, 67, 68, 69, 70, 71, 72, 73, 74, 75, 76, 77, 78, 79, 80, 81, 82, 83, 84, 85]), ([57], [44, 45, 46, 47, 48, 49, 50, 51, 52, 59, 60, 62, 63, 64, 65, 66, 67, 68, 69, 70, 71, 72, 73, 74, 75, 76, 77, 78, 79, 80, 81, 82, 83, 84, 85]), ([58], [44, 45, 46, 47, 48, 49, 50, 51, 52, 59, 60, 63, 64, 65, 66, 67, 68, 69, 70, 71, 72, 73, 74, 75, 76, 77, 78, 79, 80, 81, 82, 83, 84, 85]), ([59], [44, 45, 46, 47, 48, 49, 50, 51, 52, 56, 57, 58, 62, 63, 64, 65, 66, 67, 68, 69, 70, 71, 72, 73, 74, 75, 76, 77, 78, 79, 80, 81, 82, 83, 84, 85]), ([60], [44, 45, 46, 47, 48, 49, 50, 51, 52, 56, 57, 58, 63, 64, 65, 66, 67, 68, 69, 70, 71, 72, 73, 74, 75, 76, 77, 78, 79, 80, 81, 82, 83, 84, 85]), ([61], [44, 45, 46, 47, 48, 49, 50, 51, 52, 56, 64, 65, 66, 67, 68, 69, 70, 71, 72, 73, 74, 75, 76, 77, 78, 79, 80, 81, 82, 83, 84, 85]), ([62], [44, 45, 46, 47, 48, 49, 50, 51, 52, 56, 57, 59, 67, 68, 69, 70, 71, 72, 73, 74, 75, 76, 77, 78, 79, 80, 81, 82, 83, 84, 85]), ([63], [44, 45, 46, 47, 48, 49, 50, 51, 52, 56, 57, 58, 59, 60, 68, 69, 70, 71, 72, 73, 74, 75, 76, 77, 78, 79, 80, 81, 82, 83, 84, 85]), ([64], [44, 45, 46, 47, 48, 49, 50, 51, 52, 53, 54, 56, 57, 58, 59, 60, 61, 68, 69, 70, 71, 72, 73, 74, 75, 76, 77, 78, 79, 80, 81, 82, 83, 84, 85]), ([65], [44, 45, 46, 47, 48, 49, 50, 51, 52, 53, 54, 56, 57, 58, 59, 60, 61, 74, 75, 76, 77, 78, 79, 80, 81, 82, 83, 84, 85]), ([66], [44, 45, 46, 47, 48, 49, 50, 51, 52, 53, 54, 56, 57, 58, 59, 60, 61, 74, 75, 76, 77, 78, 79, 80, 81, 82, 83, 84, 85]), ([67], [44, 45, 46, 47, 48, 49, 50, 51, 52, 53, 54, 55, 56, 57, 58, 59, 60, 61, 62, 75, 76, 77, 78, 79, 80, 81, 82, 83, 84, 85]), ([68], [44, 45, 46, 47, 48, 49, 50, 51, 52, 53, 54, 55, 56, 57, 58, 59, 60, 61, 62, 63, 64, 69, 71, 73, 75, 76, 77, 78, 79, 80, 81, 82, 83, 84, 85]), ([69], [44, 45, 46, 47, 48, 49, 50, 51, 52, 53, 54, 55, 56, 57, 58, 59, 60, 61, 62, 63, 64, 68, 71, 73, 75, 76, 77, 78, 79, 80, 81, 82, 83, 84, 85]), ([70], [44, 45, 46, 47, 48, 49, 50, 51, 52, 53, 54, 55, 56, 57, 58, 59, 60, 61, 62, 63, 64, 71, 79, 80, 81, 82, 83, 84, 85]), ([71], [44, 45, 46, 47, 48, 49, 50, 51, 52, 53, 54, 55, 56, 57, 58, 59, 60, 61, 62, 63, 64, 68, 69, 70, 74, 75, 76, 77, 78, 79, 80, 81, 82, 83, 84, 85]), ([72], [44, 45, 46, 47, 48, 49, 50, 51, 52, 53, 54, 55, 56, 57, 58, 59, 60, 61, 62, 63, 64, 75, 76, 77, 78, 79, 80, 81, 82, 83, 84, 85]), ([73], [44, 45, 46, 47, 48, 49, 50, 51, 52, 53, 54, 55, 56, 57, 58, 59, 60, 61, 62, 63, 64, 68, 69, 79, 80, 81, 82, 83, 84, 85]), ([74], [44, 45, 46, 47, 48, 49, 50, 51, 52, 53, 54, 55, 56, 57, 58, 59, 60, 61, 62, 63, 64, 65, 66, 71, 80, 81, 82, 83, 84, 85]), ([75], [44, 45, 46, 47, 48, 49, 50, 51, 52, 53, 54, 55, 56, 57, 58, 59, 60, 61, 62, 63, 64, 65, 66, 67, 68, 69, 71, 72, 76, 80, 81, 82, 83, 84, 85]), ([76], [44, 45, 46, 47, 48, 49, 50, 51, 52, 53, 54, 55, 56, 57, 58, 59, 60, 61, 62, 63, 64, 65, 66, 67, 68, 69, 71, 72, 75, 80, 81, 82, 83, 84, 85]), ([77], [44, 45, 46, 47, 48, 49, 50, 51, 52, 53, 54, 55, 56, 57, 58, 59, 60, 61, 62, 63, 64, 65, 66, 67, 68, 69, 71, 72]), ([78], [44, 45, 46, 47, 48, 49, 50, 51, 52, 53, 54, 55, 56, 57, 58, 59, 60, 61, 62, 63, 64, 65, 66, 67, 68, 69, 71, 72]), ([79], [44, 45, 46, 47, 48, 49, 50, 51, 52, 53, 54, 55, 56, 57, 58, 59, 60, 61, 62, 63, 64, 65, 66, 67, 68, 69, 70, 71, 72, 73]), ([80], [44, 45, 46, 47, 48, 49, 50, 51, 52, 53, 54, 55, 56, 57, 58, 59, 60, 61, 62, 63, 64, 65, 66, 67, 68, 69, 70, 71, 72, 73, 74, 75, 76, 81, 83, 85]), ([81], [44, 45, 46, 47, 48, 49, 50, 51, 52, 53, 54, 55, 56, 57, 58, 59, 60, 61, 62, 63, 64, 65, 66, 67, 68, 69, 70, 71, 72, 73, 74, 75, 76, 80, 83, 85]), ([82], [44, 45, 46, 47, 48, 49, 50, 51, 52, 53, 54, 55, 56, 57, 58, 59, 60, 61, 62, 63, 64, 65, 66, 67, 68, 69, 70, 71, 72, 73, 74, 75, 76, 83]), ([83], [44, 45, 46, 47, 48, 49, 50, 51, 52, 53, 54, 55, 56, 57, 58, 59, 60, 61, 62, 63, 64, 65, 66, 67, 68, 69, 70, 71, 72, 73, 74, 75, 76, 80, 81, 82]), ([84], [44, 45, 46, 47, 48, 49, 50, 51, 52, 53, 54, 55, 56, 57, 58, 59, 60, 61, 62, 63, 64, 65, 66, 67, 68, 69, 70, 71, 72, 73, 74, 75, 76]), ([85], [44, 45, 46, 47, 48, 49, 50, 51, 52, 53, 54, 55, 56, 57, 58, 59, 60, 61, 62, 63, 64, 65, 66, 67, 68, 69, 70, 71, 72, 73, 74, 75, 76, 80, 81])] (by kernel_rfl) fun K hK => ?_
 | with_reducible refine SpecC.condW fun A B hA hB => ?_
 | with_reducible refine SpecC.block ?_
 | with_reducible refine SpecC.skip ?_
 | with_reducible refine SpecC.label ?_
 | with_reducible refine SpecC.exit ?_
 | with_reducible refine SpecC.goto ?_
 | with_reducible refine SpecC.ret ?_
 | ((with_reducible first | refine condK.split (fun hb => ?_) (fun hb => ?_) | refine gK.split_t (fun hb => ?_) (fun hb => ?_) | refine gK.split_f (fun hb => ?_) (fun hb => ?_)) <;> try simp only [decide_not, ilt_t, ilt_f, ile_t, ile_f, nlt_t, nlt_f, nle_t, nle_f, Bool.not_eq_true', Bool.not_eq_false', Int.ofNat_lt, Int.ofNat_le] at hb)
 | simp only [go_sem, ↓reduceIte, reduceIte, Nat.reduceEqDiff, String.reduceEq, Nat.reduceLT, Nat.reduceLeDiff, Nat.reduceAdd, Nat.reduceMul, Nat.reduceSub, Nat.reduceBEq, reduceCtorEq, *, -hs]
 | with_reducible refine fun (bn : Bool) hbn => ?_))
  have hl2 := few_len hfa
  have hgc := goodE_c xs hl2 hs fun h => (conf_of h).nodup
  by_cases hg : goodE xs = true
  rotate_left
  · have hg : goodE xs = false := by simpa using hg
    rw [hg] at hgc
    refine CallR.go2 (T := T) Tryz.call3 Tryz.func3 rfl Tryz.ntmps3 (congrArg Array.toList Tryz.results3) (by decide) fun ts hn h0 h1 => ?_
    (repeat' (first
 | with_reducible refine callX.by (hgc) ?_
 | with_reducible refine callX.by awake8_c ?_
 | with_reducible refine callX.by (few4_c _ ?_ ?_) ?_
 | with_reducible refine callX.by (goodN_c _ ?_ ?_ ?_) ?_
 | with_reducible refine callX.by (goodS_c _ ?_ ?_ ?_ ?_) ?_
 | with_reducible refine callX.by (goodE_c _ ?_ ?_ ?_) ?_
 | with_reducible refine callX.by sm8gc ?_
 | with_reducible refine callX.by (ansF_c _ _ _ _ _ _) ?_
 | with_reducible refine callX.by (ansE_c _ _ _ _ _ _ ?_ ?_ ?_) ?_
 | with_reducible refine callX.by sm8ac ?_
 | with_reducible refine callX.by sm8nc ?_
 | with_reducible refine callX.by (listen_c _ _ ?_) ?_
 | with_reducible refine callX.by (reach_c _ ?_ ?_ ?_) ?_
 | with_reducible refine callX.by a6rc ?_
 | with_reducible refine callX.by (withinE_c _ _ _ _ ?_ ?_) ?_
 | with_reducible refine callX.by sm8wc ?_
 | with_reducible refine callX.by nilW1_c ?_
 | with_reducible refine callX.by nilW3_c ?_
 | with_reducible assumption
 | (with_reducible refine NxK.out hK _ ?_; clear hK K)
 | with_reducible refine NxK.out (by assumption) _ ?_
 | with_reducible refine Nx.out (by assumption) ?_
 | with_reducible refine SpecC.seqW fun K hK => ?_
 | with_reducible refine SpecC.regW T fun K hK => ?_
 | with_reducible refine SpecC.drawW (id := 7) T mixed [([44], [51, 52, 53, 54, 55, 56, 57, 58, 59, 60, 61, 62, 63, 64, 65, 66, 67, 68, 69, 70, 71, 72, 73, 74, 75, 76, 77, 78, 79, 80, 81, 82, 83, 84, 85]), ([45], [55, 56, 57, 58, 59, 60, 61, 62, 63, 64, 65, 66, 67, 68, 69, 70, 71, 72, 73, 74, 75, 76, 77, 78, 79, 80, 81, 82, 83, 84, 85]), ([46], [49, 50, 51, 52, 53, 54, 55, 56, 57, 58, 59, 60, 61, 62, 63, 64, 65, 66, 67, 68, 69, 70, 71, 72, 73, 74, 75, 76, 77, 78, 79, 80, 81, 82, 83, 84, 85]), ([47], [50, 51, 52, 53, 54, 55, 56, 57, 58, 59, 60, 61, 62, 63, 64, 65, 66, 67, 68, 69, 70, 71, 72, 73, 74, 75, 76, 77, 78, 79, 80, 81, 82, 83, 84, 85]), ([48], [51, 52, 53, 54, 55, 56, 57, 58, 59, 60, 61, 62, 63, 64, 65, 66, 67, 68, 69, 70, 71, 72, 73, 74, 75, 76, 77, 78, 79, 80, 81, 82, 83, 84, 85]), ([49], [46, 55, 56, 57, 58, 59, 60, 61, 62, 63, 64, 65, 66, 67, 68, 69, 70, 71, 72, 73, 74, 75, 76, 77, 78, 79, 80, 81, 82, 83, 84, 85]), ([50], [46, 47, 56, 57, 58, 59, 60, 61, 62, 63, 64, 65, 66, 67, 68, 69, 70, 71, 72, 73, 74, 75, 76, 77, 78, 79, 80, 81, 82, 83, 84, 85]), ([51], [44, 46, 47, 48, 52, 56, 57, 58, 59, 60, 61, 62, 63, 64, 65, 66, 67, 68, 69, 70, 71, 72, 73, 74, 75, 76, 77, 78, 79, 80, 81, 82, 83, 84, 85]), ([52], [44, 46, 47, 48, 51, 56, 57, 58, 59, 60, 61, 62, 63, 64, 65, 66, 67, 68, 69, 70, 71, 72, 73, 74, 75, 76, 77, 78, 79, 80, 81, 82, 83, 84, 85]), ([53], [44, 46, 47, 48, 64, 65, 66, 67, 68, 69, 70, 71, 72, 73, 74, 75, 76, 77, 78, 79, 80, 81, 82, 83, 84, 85]), ([54], [44, 46, 47, 48, 64, 65, 66, 67, 68, 69, 70, 71, 72, 73, 74, 75, 76, 77, 78, 79, 80, 81, 82, 83, 84, 85]), ([55], [44, 45, 46, 47, 48, 49, 67, 68, 69, 70, 71, 72, 73, 74, 75, 76, 77, 78, 79, 80, 81, 82, 83, 84, 85]), ([56], [44, 45, 46, 47, 48, 49, 50, 51, 52, 59, 60, 61, 62, 63, 64, 65, 66, 67, 68, 69, 70, 71, 72, 73, 74, 75, 76, 77, 78, 79, 80, 81, 82, 83, 84, 85]), ([57], [44, 45, 46, 47, 48, 49, 50, 51, 52, 59, 60, 62, 63, 64, 65, 66, 67, 68, 69, 70, 71, 72, 73, 74, 75, 76, 77, 78, 79, 80, 81, 82, 83, 84, 85]), ([58], [44, 45, 46, 47, 48, 49, 50, 51, 52, 59, 60, 63, 64, 65, 66, 67, 68, 69, 70, 71, 72, 73, 74, 75, 76, 77, 78, 79, 80, 81, 82, 83, 84, 85]), ([59], [44, 45, 46, 47, 48, 49, 50, 51, 52, 56, 57, 58, 62, 63, 64, 65, 66, 67, 68, 69, 70, 71, 72, 73, 74, 75, 76, 77, 78, 79, 80, 81, 82, 83, 84, 85]), ([60], [44, 45, 46, 47, 48, 49, 50, 51, 52, 56, 57, 58, 63, 64, 65, 66, 67, 68, 69, 70, 71, 72, 73, 74, 75, 76, 77, 78, 79, 80, 81, 82, 83, 84, 85]), ([61], [44, 45, 46, 47, 48, 49, 50, 51, 52, 56, 64, 65, 66, 67, 68, 69, 70, 71, 72, 73, 74, 75, 76, 77, 78, 79, 80, 81, 82, 83, 84, 85]), ([62], [44, 45, 46, 47, 48, 49, 50, 51, 52, 56, 57, 59, 67, 68, 69, 70, 71, 72, 73, 74, 75, 76, 77, 78, 79, 80, 81, 82, 83, 84, 85]), ([63], [44, 45, 46, 47, 48, 49, 50, 51, 52, 56, 57, 58, 59, 60, 68, 69, 70, 71, 72, 73, 74, 75, 76, 77, 78, 79, 80, 81, 82, 83, 84, 85]), ([64], [44, 45, 46, 47, 48, 49, 50, 51, 52, 53, 54, 56, 57, 58, 59, 60, 61, 68, 69, 70, 71, 72, 73, 74, 75, 76, 77, 78, 79, 80, 81, 82, 83, 84, 85]), ([65], [44, 45, 46, 47, 48, 49, 50, 51, 52, 53, 54, 56, 57, 58, 59, 60, 61, 74, 75, 76, 77, 78, 79, 80, 81, 82, 83, 84, 85]), ([66], [44, 45, 46, 47, 48, 49, 50, 51, 52, 53, 54, 56, 57, 58, 59, 60, 61, 74, 75, 76, 77, 78, 79, 80, 81, 82, 83, 84, 85]), ([67], [44, 45, 46, 47, 48, 49, 50, 51, 52, 53, 54, 55, 56, 57, 58, 59, 60, 61, 62, 75, 76, 77, 78, 79, 80, 81, 82, 83, 84, 85]), ([68], [44, 45, 46, 47, 48, 49, 50, 51, 52, 53, 54, 55, 56, 57, 58, 59, 60, 61, 62, 63, 64, 69, 71, 73, 75, 76, 77, 78, 79, 80, 81, 82, 83, 84, 85]), ([69], [44, 45, 46, 47, 48, 49, 50, 51, 52, 53, 54, 55, 56, 57, 58, 59, 60, 61, 62, 63, 64, 68, 71, 73, 75, 76, 77, 78, 79, 80, 81, 82, 83, 84, 85]), ([70], [44, 45, 46, 47, 48, 49, 50, 51, 52, 53, 54, 55, 56, 57, 58, 59, 60, 61, 62, 63, 64, 71, 79, 80, 81, 82, 83, 84, 85]), ([71], [44, 45, 46, 47, 48, 49, 50, 51, 52, 53, 54, 55, 56, 57, 58, 59, 60, 61, 62, 63, 64, 68, 69, 70, 74, 75, 76, 77, 78, 79, 80, 81, 82, 83, 84, 85]), ([72], [44, 45, 46, 47, 48, 49, 50, 51, 52, 53, 54, 55, 56, 57, 58, 59, 60, 61, 62, 63, 64, 75, 76, 77, 78, 79, 80, 81, 82, 83, 84, 85]), ([73], [44, 45, 46, 47, 48, 49, 50, 51, 52, 53, 54, 55, 56, 57, 58, 59, 60, 61, 62, 63, 64, 68, 69, 79, 80, 81, 82, 83, 84, 85]), ([74], [44, 45, 46, 47, 48, 49, 50, 51, 52, 53, 54, 55, 56, 57, 58, 59, 60, 61, 62, 63, 64, 65, 66, 71, 80, 81, 82, 83, 84, 85]), ([75], [44, 45, 46, 47, 48, 49, 50, 51, 52, 53, 54, 55, 56, 57, 58, 59, 60, 61, 62, 63, 64, 65, 66, 67, 68, 69, 71, 72, 76, 80, 81, 82, 83, 84, 85]), ([76], [44, 45, 46, 47, 48, 49, 50, 51, 52, 53, 54, 55, 56, 57, 58, 59, 60, 61, 62, 63, 64, 65, 66, 67, 68, 69, 71, 72, 75, 80, 81, 82, 83, 84, 85]), ([77], [44, 45, 46, 47, 48, 49, 50, 51, 52, 53, 54, 55, 56, 57, 58, 59, 60, 61, 62, 63, 64, 65, 66, 67, 68, 69, 71, 72]), ([78], [44, 45, 46, 47, 48, 49, 50, 51, 52, 53, 54, 55, 56, 57, 58, 59, 60, 61, 62, 63, 64, 65, 66, 67, 68, 69, 71, 72]), ([79], [44, 45, 46, 47, 48, 49, 50, 51, 52, 53, 54, 55, 56, 57, 58, 59, 60, 61, 62, 63, 64, 65, 66, 67, 68, 69, 70, 71, 72, 73]), ([80], [44, 45, 46, 47, 48, 49, 50, 51, 52, 53, 54, 55, 56, 57, 58, 59, 60, 61, 62, 63, 64, 65, 66, 67, 68, 69, 70, 71, 72, 73, 74, 75, 76, 81, 83, 85]), ([81], [44, 45, 46, 47, 48, 49, 50, 51, 52, 53, 54, 55, 56, 57, 58, 59, 60, 61, 62, 63, 64, 65, 66, 67, 68, 69, 70, 71, 72, 73, 74, 75, 76, 80, 83, 85]), ([82], [44, 45, 46, 47, 48, 49, 50, 51, 52, 53, 54, 55, 56, 57, 58, 59, 60, 61, 62, 63, 64, 65, 66, 67, 68, 69, 70, 71, 72, 73, 74, 75, 76, 83]), ([83], [44, 45, 46, 47, 48, 49, 50, 51, 52, 53, 54, 55, 56, 57, 58, 59, 60, 61, 62, 63, 64, 65, 66, 67, 68, 69, 70, 71, 72, 73, 74, 75, 76, 80, 81, 82]), ([84], [44, 45, 46, 47, 48, 49, 50, 51, 52, 53, 54, 55, 56, 57, 58, 59, 60, 61, 62, 63, 64, 65, 66, 67, 68, 69, 70, 71, 72, 73, 74, 75, 76]), ([85], [44, 45, 46, 47, 48, 49, 50, 51, 52, 53, 54, 55, 56, 57, 58, 59, 60, 61, 62, 63, 64, 65, 66, 67, 68, 69, 70, 71, 72, 73, 74, 75, 76, 80, 81])] (by kernel_rfl) fun K hK => ?_
 | with_reducible refine SpecC.condW fun A B hA hB => ?_
 | with_reducible refine SpecC.block ?_
 | with_reducible refine SpecC.skip ?_
 | with_reducible refine SpecC.label ?_
 | with_reducible refine SpecC.exit ?_
 | with_reducible refine SpecC.goto ?_
 | with_reducible refine SpecC.ret ?_
 | ((with_reducible first | refine condK.split (fun hb => ?_) (fun hb => ?_) | refine gK.split_t (fun hb => ?_) (fun hb => ?_) | refine gK.split_f (fun hb => ?_) (fun hb => ?_)) <;> try simp only [decide_not, ilt_t, ilt_f, ile_t, ile_f, nlt_t, nlt_f, nle_t, nle_f, Bool.not_eq_true', Bool.not_eq_false', Int.ofNat_lt, Int.ofNat_le] at hb)
 | simp only [go_sem, ↓reduceIte, reduceIte, Nat.reduceEqDiff, String.reduceEq, Nat.reduceLT, Nat.reduceLeDiff, Nat.reduceAdd, Nat.reduceMul, Nat.reduceSub, Nat.reduceBEq, reduceCtorEq, *, -hs, -hgc]
 | with_reducible refine fun (bn : Bool) hbn => ?_))
  rw [hg] at hgc
  simp only [goodE, Bool.and_eq_true, decide_eq_true_eq] at hg
  have hc := conf_of hg.1
  have hnd := hc.nodup
  have hAa := ansE_c xs a_port a_host a_path a_first a_other hl hs hh
  have hAf := ansF_c xs a_port a_host a_path a_first a_other
  have hRl := reachR_len xs
  have hsr : ∀ r ∈ reachR xs, SmRes r := fun r hr => hs r ((reachR_sub xs).subset hr)
  have hRS : Small (reachR xs).length := small_le (by omega)
  have hAr := ansE_c (reachR xs) a_port a_host a_path a_first a_other hRS hsr hh
  obtain ⟨hr1, hr2⟩ := good_reach hc hg.2 ⟨a_port, a_host, a_path, a_first, a_other⟩
  rw [hr1] at hAr
  have hGr := goodE_c (reachR xs) (by omega) hsr fun h => (conf_of h).nodup
  rw [good_reach_good hg.1 hg.2] at hGr
  have hRc := reach_c xs hl2 hs hnd
  have hw := good_within hc hg.2 ⟨a_port, a_host, a_path, a_first, a_other⟩
  have h0 := good_ready hc hg.2 ⟨a_port, a_host, a_path, a_first, a_other⟩
  have h1 : (decide ((ansE xs ⟨a_port, a_host, a_path, a_first, a_other⟩).what = 1)) = !(listen xs a_port).isSome := by
    rw [Bool.eq_iff_iff, decide_eq_true_eq, good_listens hc hg.2]
    cases listen xs a_port <;> simp
  generalize hxx : ansE xs ⟨a_port, a_host, a_path, a_first, a_other⟩ = x at *
  have hwc := withinE_c xs x.what x.cluster x.host hl hs
  have hwr := withinE_c (reachR xs) x.what x.cluster x.host hRS hsr
  rw [show withinE xs ⟨x.what, x.cluster, x.host⟩ = true from hw] at hwc
  rw [show withinE (reachR xs) ⟨x.what, x.cluster, x.host⟩ = true from hr2] at hwr
  clear hxx hr1 hr2 hw hnd hc
  generalize reachR xs = R at *
  refine CallR.go2 (T := T) Tryz.call3 Tryz.func3 rfl Tryz.ntmps3 (congrArg Array.toList Tryz.results3) (by decide) fun ts hn h0 h1 => ?_
  (repeat' (first
 | with_reducible refine callX.by (hgc) ?_
 | with_reducible refine callX.by (hAa) ?_
 | with_reducible refine callX.by (hAf) ?_
 | with_reducible refine callX.by (hAr) ?_
 | with_reducible refine callX.by (hGr) ?_
 | with_reducible refine callX.by (hRc) ?_
 | with_reducible refine callX.by (hwc) ?_
 | with_reducible refine callX.by (hwr) ?_
 | with_reducible refine callX.by awake8_c ?_
 | with_reducible refine callX.by (few4_c _ ?_ ?_) ?_
 | with_reducible refine callX.by (goodN_c _ ?_ ?_ ?_) ?_
 | with_reducible refine callX.by (goodS_c _ ?_ ?_ ?_ ?_) ?_
 | with_reducible refine callX.by (goodE_c _ ?_ ?_ ?_) ?_
 | with_reducible refine callX.by sm8gc ?_
 | with_reducible refine callX.by (ansF_c _ _ _ _ _ _) ?_
 | with_reducible refine callX.by (ansE_c _ _ _ _ _ _ ?_ ?_ ?_) ?_
 | with_reducible refine callX.by sm8ac ?_
 | with_reducible refine callX.by sm8nc ?_
 | with_reducible refine callX.by (listen_c _ _ ?_) ?_
 | with_reducible refine callX.by (reach_c _ ?_ ?_ ?_) ?_
 | with_reducible refine callX.by a6rc ?_
 | with_reducible refine callX.by (withinE_c _ _ _ _ ?_ ?_) ?_
 | with_reducible refine callX.by sm8wc ?_
 | with_reducible refine callX.by nilW1_c ?_
 | with_reducible refine callX.by nilW3_c ?_
 | with_reducible assumption
 | (with_reducible refine NxK.out hK _ ?_; clear hK K)
 | with_reducible refine NxK.out (by assumption) _ ?_
 | with_reducible refine Nx.out (by assumption) ?_
 | with_reducible refine SpecC.seqW fun K hK => ?_
 | with_reducible refine SpecC.regW T fun K hK => ?_
 | with_reducible refine SpecC.drawW (id := 7) T mixed [([44], [51, 52, 53, 54, 55, 56, 57, 58, 59, 60, 61, 62, 63, 64, 65, 66, 67, 68, 69, 70, 71, 72, 73, 74, 75, 76, 77, 78, 79, 80, 81, 82, 83, 84, 85]), ([45], [55, 56, 57, 58, 59, 60, 61, 62, 63, 64, 65, 66, 67, 68, 69, 70, 71, 72, 73, 74, 75, 76, 77, 78, 79, 80, 81, 82, 83, 84, 85]), ([46], [49, 50, 51, 52, 53, 54, 55, 56, 57, 58, 59, 60, 61, 62, 63, 64, 65, 66, 67, 68, 69, 70, 71, 72, 73, 74, 75, 76, 77, 78, 79, 80, 81, 82, 83, 84, 85]), ([47], [50, 51, 52, 53, 54, 55, 56, 57, 58, 59, 60, 61, 62, 63, 64, 65, 66, 67, 68, 69, 70, 71, 72, 73, 74, 75, 76, 77, 78, 79, 80, 81, 82, 83, 84, 85]), ([48], [51, 52, 53, 54, 55, 56, 57, 58, 59, 60, 61, 62, 63, 64, 65, 66, 67, 68, 69, 70, 71, 72, 73, 74, 75, 76, 77, 78, 79, 80, 81, 82, 83, 84, 85]), ([49], [46, 55, 56, 57, 58, 59, 60, 61, 62, 63, 64, 65, 66, 67, 68, 69, 70, 71, 72, 73, 74, 75, 76, 77, 78, 79, 80, 81, 82, 83, 84, 85]), ([50], [46, 47, 56, 57, 58, 59, 60, 61, 62, 63, 64, 65, 66, 67, 68, 69, 70, 71, 72, 73, 74, 75, 76, 77, 78, 79, 80, 81, 82, 83, 84, 85]), ([51], [44, 46, 47, 48, 52, 56, 57, 58, 59, 60, 61, 62, 63, 64, 65, 66, 67, 68, 69, 70, 71, 72, 73, 74, 75, 76, 77, 78, 79, 80, 81, 82, 83, 84, 85]), ([52], [44, 46, 47, 48, 51, 56, 57, 58, 59, 60, 61, 62, 63, 64, 65, 66, 67, 68, 69, 70, 71, 72, 73, 74, 75, 76, 77, 78, 79, 80, 81, 82, 83, 84, 85]), ([53], [44, 46, 47, 48, 64, 65, 66, 67, 68, 69, 70, 71, 72, 73, 74, 75, 76, 77, 78, 79, 80, 81, 82, 83, 84, 85]), ([54], [44, 46, 47, 48, 64, 65, 66, 67, 68, 69, 70, 71, 72, 73, 74, 75, 76, 77, 78, 79, 80, 81, 82, 83, 84, 85]), ([55], [44, 45, 46, 47, 48, 49, 67, 68, 69, 70, 71, 72, 73, 74, 75, 76, 77, 78, 79, 80, 81, 82, 83, 84, 85]), ([56], [44, 45, 46, 47, 48, 49, 50, 51, 52, 59, 60, 61, 62, 63, 64, 65, 66, 67, 68, 69, 70, 71, 72, 73, 74, 75, 76, 77, 78, 79, 80, 81, 82, 83, 84, 85]), ([57], [44, 45, 46, 47, 48, 49, 50, 51, 52, 59, 60, 62, 63, 64, 65, 66, 67, 68, 69, 70, 71, 72, 73, 74, 75, 76, 77, 78, 79, 80, 81, 82, 83, 84, 85]), ([58], [44, 45, 46, 47, 48, 49, 50, 51, 52, 59, 60, 63, 64, 65, 66, 67, 68, 69, 70, 71, 72, 73, 74, 75, 76, 77, 78, 79, 80, 81, 82, 83, 84, 85]), ([59], [44, 45, 46, 47, 48, 49, 50, 51, 52, 56, 57, 58, 62, 63, 64, 65, 66, 67, 68, 69, 70, 71, 72, 73, 74, 75, 76, 77, 78, 79, 80, 81, 82, 83, 84, 85]), ([60], [44, 45, 46, 47, 48, 49, 50, 51, 52, 56, 57, 58, 63, 64, 65, 66, 67, 68, 69, 70, 71, 72, 73, 74, 75, 76, 77, 78, 79, 80, 81, 82, 83, 84, 85]), ([61], [44, 45, 46, 47, 48, 49, 50, 51, 52, 56, 64, 65, 66, 67, 68, 69, 70, 71, 72, 73, 74, 75, 76, 77, 78, 79, 80, 81, 82, 83, 84, 85]), ([62], [44, 45, 46, 47, 48, 49, 50, 51, 52, 56, 57, 59, 67, 68, 69, 70, 71, 72, 73, 74, 75, 76, 77, 78, 79, 80, 81, 82, 83, 84, 85]), ([63], [44, 45, 46, 47, 48, 49, 50, 51, 52, 56, 57, 58, 59, 60, 68, 69, 70, 71, 72, 73, 74, 75, 76, 77, 78, 79, 80, 81, 82, 83, 84, 85]), ([64], [44, 45, 46, 47, 48, 49, 50, 51, 52, 53, 54, 56, 57, 58, 59, 60, 61, 68, 69, 70, 71, 72, 73, 74, 75, 76, 77, 78, 79, 80, 81, 82, 83, 84, 85]), ([65], [44, 45, 46, 47, 48, 49, 50, 51, 52, 53, 54, 56, 57, 58, 59, 60, 61, 74, 75, 76, 77, 78, 79, 80, 81, 82, 83, 84, 85]), ([66], [44, 45, 46, 47, 48, 49, 50, 51, 52, 53, 54, 56, 57, 58, 59, 60, 61, 74, 75, 76, 77, 78, 79, 80, 81, 82, 83, 84, 85]), ([67], [44, 45, 46, 47, 48, 49, 50, 51, 52, 53, 54, 55, 56, 57, 58, 59, 60, 61, 62, 75, 76, 77, 78, 79, 80, 81, 82, 83, 84, 85]), ([68], [44, 45, 46, 47, 48, 49, 50, 51, 52, 53, 54, 55, 56, 57, 58, 59, 60, 61, 62, 63, 64, 69, 71, 73, 75, 76, 77, 78, 79, 80, 81, 82, 83, 84, 85]), ([69], [44, 45, 46, 47, 48, 49, 50, 51, 52, 53, 54, 55, 56, 57, 58, 59, 60, 61, 62, 63, 64, 68, 71, 73, 75, 76, 77, 78, 79, 80, 81, 82, 83, 84, 85]), ([70], [44, 45, 46, 47, 48, 49, 50, 51, 52, 53, 54, 55, 56, 57, 58, 59, 60, 61, 62, 63, 64, 71, 79, 80, 81, 82, 83, 84, 85]), ([71], [44, 45, 46, 47, 48, 49, 50, 51, 52, 53, 54, 55, 56, 57, 58, 59, 60, 61, 62, 63, 64, 68, 69, 70, 74, 75, 76, 77, 78, 79, 80, 81, 82, 83, 84, 85]), ([72], [44, 45, 46, 47, 48, 49, 50, 51, 52, 53, 54, 55, 56, 57, 58, 59, 60, 61, 62, 63, 64, 75, 76, 77, 78, 79, 80, 81, 82, 83, 84, 85]), ([73], [44, 45, 46, 47, 48, 49, 50, 51, 52, 53, 54, 55, 56, 57, 58, 59, 60, 61, 62, 63, 64, 68, 69, 79, 80, 81, 82, 83, 84, 85]), ([74], [44, 45, 46, 47, 48, 49, 50, 51, 52, 53, 54, 55, 56, 57, 58, 59, 60, 61, 62, 63, 64, 65, 66, 71, 80, 81, 82, 83, 84, 85]), ([75], [44, 45, 46, 47, 48, 49, 50, 51, 52, 53, 54, 55, 56, 57, 58, 59, 60, 61, 62, 63, 64, 65, 66, 67, 68, 69, 71, 72, 76, 80, 81, 82, 83, 84, 85]), ([76], [44, 45, 46, 47, 48, 49, 50, 51, 52, 53, 54, 55, 56, 57, 58, 59, 60, 61, 62, 63, 64, 65, 66, 67, 68, 69, 71, 72, 75, 80, 81, 82, 83, 84, 85]), ([77], [44, 45, 46, 47, 48, 49, 50, 51, 52, 53, 54, 55, 56, 57, 58, 59, 60, 61, 62, 63, 64, 65, 66, 67, 68, 69, 71, 72]), ([78], [44, 45, 46, 47, 48, 49, 50, 51, 52, 53, 54, 55, 56, 57, 58, 59, 60, 61, 62, 63, 64, 65, 66, 67, 68, 69, 71, 72]), ([79], [44, 45, 46, 47, 48, 49, 50, 51, 52, 53, 54, 55, 56, 57, 58, 59, 60, 61, 62, 63, 64, 65, 66, 67, 68, 69, 70, 71, 72, 73]), ([80], [44, 45, 46, 47, 48, 49, 50, 51, 52, 53, 54, 55, 56, 57, 58, 59, 60, 61, 62, 63, 64, 65, 66, 67, 68, 69, 70, 71, 72, 73, 74, 75, 76, 81, 83, 85]), ([81], [44, 45, 46, 47, 48, 49, 50, 51, 52, 53, 54, 55, 56, 57, 58, 59, 60, 61, 62, 63, 64, 65, 66, 67, 68, 69, 70, 71, 72, 73, 74, 75, 76, 80, 83, 85]), ([82], [44, 45, 46, 47, 48, 49, 50, 51, 52, 53, 54, 55, 56, 57, 58, 59, 60, 61, 62, 63, 64, 65, 66, 67, 68, 69, 70, 71, 72, 73, 74, 75, 76, 83]), ([83], [44, 45, 46, 47, 48, 49, 50, 51, 52, 53, 54, 55, 56, 57, 58, 59, 60, 61, 62, 63, 64, 65, 66, 67, 68, 69, 70, 71, 72, 73, 74, 75, 76, 80, 81, 82]), ([84], [44, 45, 46, 47, 48, 49, 50, 51, 52, 53, 54, 55, 56, 57, 58, 59, 60, 61, 62, 63, 64, 65, 66, 67, 68, 69, 70, 71, 72, 73, 74, 75, 76]), ([85], [44, 45, 46, 47, 48, 49, 50, 51, 52, 53, 54, 55, 56, 57, 58, 59, 60, 61, 62, 63, 64, 65, 66, 67, 68, 69, 70, 71, 72, 73, 74, 75, 76, 80, 81])] (by kernel_rfl) fun K hK => ?_
 | with_reducible refine SpecC.condW fun A B hA hB => ?_
 | with_reducible refine SpecC.block ?_
 | with_reducible refine SpecC.skip ?_
 | with_reducible refine SpecC.label ?_
 | with_reducible refine SpecC.exit ?_
 | with_reducible refine SpecC.goto ?_
 | with_reducible refine SpecC.ret ?_
 | ((with_reducible first | refine condK.split (fun hb => ?_) (fun hb => ?_) | refine gK.split_t (fun hb => ?_) (fun hb => ?_) | refine gK.split_f (fun hb => ?_) (fun hb => ?_)) <;> try simp only [decide_not, ilt_t, ilt_f, ile_t, ile_f, nlt_t, nlt_f, nle_t, nle_f, Bool.not_eq_true', Bool.not_eq_false', Int.ofNat_lt, Int.ofNat_le] at hb)
 | simp only [go_sem, ↓reduceIte, reduceIte, Nat.reduceEqDiff, String.reduceEq, Nat.reduceLT, Nat.reduceLeDiff, Nat.reduceAdd, Nat.reduceMul, Nat.reduceSub, Nat.reduceBEq, reduceCtorEq, *, -hs, -hsr, -hgc, -hAa, -hAf, -hAr, -hGr, -hRc, -hwc, -hwr, -hg]
 | with_reducible refine fun (bn : Bool) hbn => ?_))
end Go.Proofs.YtdhbkffionmmaaaGreatDoor.Lg
