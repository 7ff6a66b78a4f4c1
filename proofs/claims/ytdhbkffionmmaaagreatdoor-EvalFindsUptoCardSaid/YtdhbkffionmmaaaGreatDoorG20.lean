/- Parts of the proof, one behind the other. -/
import Derived.Test.YtdhbkffionmmaaaGreatDoorG19
namespace Go.Proofs.YtdhbkffionmmaaaGreatDoor.Lg
set_option maxRecDepth 100000
set_option linter.unusedVariables false
set_option linter.unusedSimpArgs false
open Go
def sm8 : List Res := [⟨0, [108], 0, 80, [114], [], []⟩, ⟨1, [114], 0, 0, [], [⟨[42], [47], [⟨[99], 1⟩]⟩], []⟩, ⟨2, [99], 0, 0, [101], [], []⟩, ⟨3, [101], 0, 0, [], [], [7]⟩]
set_option maxRecDepth 30000 in
set_option maxHeartbeats 4000000 in
theorem small8_c : CallR Tryz.prog 21 [] (.own 7 (avs sm8)) := by
  refine CallR.go0 (T := T) Tryz.call21 Tryz.func21 rfl Tryz.ntmps21 (congrArg Array.toList Tryz.results21) fun ts hn => ?_
  (repeat' (first
 | with_reducible assumption
 | (with_reducible refine NxK.out hK _ ?_; clear hK K)
 | with_reducible refine NxK.out (by assumption) _ ?_
 | with_reducible refine Nx.out (by assumption) ?_
 | with_reducible refine SpecC.seqW fun K hK => ?_
 | with_reducible refine SpecC.regW T fun K hK => ?_
 | with_reducible refine SpecC.condW fun A B hA hB => ?_
 | with_reducible refine SpecC.block ?_
 | with_reducible refine SpecC.skip ?_
 | with_reducible refine SpecC.label ?_
 | with_reducible refine SpecC.exit ?_
 | with_reducible refine SpecC.goto ?_
 | ((with_reducible first | refine condK.split (fun hb => ?_) (fun hb => ?_) | refine gK.split_t (fun hb => ?_) (fun hb => ?_) | refine gK.split_f (fun hb => ?_) (fun hb => ?_)) <;> try simp only [decide_not, ilt_t, ilt_f, ile_t, ile_f, nlt_t, nlt_f, nle_t, nle_f, Bool.not_eq_true', Bool.not_eq_false', Int.ofNat_lt, Int.ofNat_le] at hb)
 | simp only [go_sem, ↓reduceIte, reduceIte, Nat.reduceEqDiff, String.reduceEq, Nat.reduceLT, Nat.reduceLeDiff, Nat.reduceAdd, Nat.reduceMul, Nat.reduceSub, Nat.reduceBEq, reduceCtorEq, *, Int.le_refl]
 | with_reducible refine fun (bn : Bool) hbn => ?_))
  refine SpecC.ent (Ent.frzA2 5 0 2 3 ?_) ?_
  · simp only [go_sem, ↓reduceIte, reduceIte, Nat.reduceEqDiff, String.reduceEq, Nat.reduceLT, Nat.reduceLeDiff, Nat.reduceAdd, Nat.reduceMul, Nat.reduceSub, Nat.reduceBEq, reduceCtorEq, *, List.getD_cons_zero, AV.cells]
  refine SpecC.ent (Ent.frzA2 10 1 5 5 ?_) ?_
  · simp only [go_sem, ↓reduceIte, reduceIte, Nat.reduceEqDiff, String.reduceEq, Nat.reduceLT, Nat.reduceLeDiff, Nat.reduceAdd, Nat.reduceMul, Nat.reduceSub, Nat.reduceBEq, reduceCtorEq, *, List.getD_cons_zero, AV.cells]
  refine SpecC.ent (Ent.frzA2 10 3 6 8 ?_) ?_
  · simp only [go_sem, ↓reduceIte, reduceIte, Nat.reduceEqDiff, String.reduceEq, Nat.reduceLT, Nat.reduceLeDiff, Nat.reduceAdd, Nat.reduceMul, Nat.reduceSub, Nat.reduceBEq, reduceCtorEq, *, List.getD_cons_zero, AV.cells]
  (repeat' (first
 | with_reducible assumption
 | (with_reducible refine NxK.out hK _ ?_; clear hK K)
 | with_reducible refine NxK.out (by assumption) _ ?_
 | with_reducible refine Nx.out (by assumption) ?_
 | with_reducible refine SpecC.seqW fun K hK => ?_
 | with_reducible refine SpecC.regW T fun K hK => ?_
 | with_reducible refine SpecC.condW fun A B hA hB => ?_
 | with_reducible refine SpecC.block ?_
 | with_reducible refine SpecC.skip ?_
 | with_reducible refine SpecC.label ?_
 | with_reducible refine SpecC.exit ?_
 | with_reducible refine SpecC.goto ?_
 | with_reducible refine SpecC.ret ?_
 | ((with_reducible first | refine condK.split (fun hb => ?_) (fun hb => ?_) | refine gK.split_t (fun hb => ?_) (fun hb => ?_) | refine gK.split_f (fun hb => ?_) (fun hb => ?_)) <;> try simp only [decide_not, ilt_t, ilt_f, ile_t, ile_f, nlt_t, nlt_f, nle_t, nle_f, Bool.not_eq_true', Bool.not_eq_false', Int.ofNat_lt, Int.ofNat_le] at hb)
 | simp only [go_sem, ↓reduceIte, reduceIte, Nat.reduceEqDiff, String.reduceEq, Nat.reduceLT, Nat.reduceLeDiff, Nat.reduceAdd, Nat.reduceMul, Nat.reduceSub, Nat.reduceBEq, reduceCtorEq, *, List.getD_cons_zero, AV.cells]
 | with_reducible refine fun (bn : Bool) hbn => ?_))
  all_goals rfl
theorem sm8s : ∀ r ∈ sm8, saneR r = 0 := by
  intro r hr
  simp only [sm8, List.mem_cons, List.not_mem_nil, or_false] at hr
  rcases hr with rfl | rfl | rfl | rfl <;> decide
theorem sm8sm : ∀ r ∈ sm8, SmRes r := by
  intro r hr
  simp only [sm8, List.mem_cons, List.not_mem_nil, or_false] at hr
  rcases hr with rfl | rfl | rfl | rfl <;> simp [SmRes, Small, SmRule, SmWeight]
theorem sm8r : ∀ r ∈ sm8, ∀ k ∈ refsR r, k ∈ sm8.map keyOf := by
  intro r hr k hk
  have hs := sm8s r hr
  simp only [sm8, List.mem_cons, List.not_mem_nil, or_false] at hr
  rcases hr with rfl | rfl | rfl | rfl
  · rw [refs_one hs (.inl rfl), List.mem_singleton] at hk
    subst hk; decide
  · rw [(refs_up hs).2] at hk
    have e : baseR ⟨1, [114], 0, 0, [], [⟨[42], [47], [⟨[99], 1⟩]⟩], []⟩ ++ keysR [⟨[42], [47], [⟨[99], 1⟩]⟩] = [⟨2, [99]⟩] := by decide
    rw [e, List.mem_singleton] at hk
    subst hk; decide
  · rw [refs_one hs (.inr rfl), List.mem_singleton] at hk
    subst hk; decide
  · rw [refs_ends rfl] at hk; simp at hk
theorem sm8v : served sm8 = 0 := by
  refine served_ok.2 ⟨fun r hr => sm8r r ((reachR_sub sm8).subset hr), fun r hr => ?_⟩
  have hr := (reachR_sub sm8).subset hr
  simp only [sm8, List.mem_cons, List.not_mem_nil, or_false] at hr
  rcases hr with rfl | rfl | rfl | rfl <;> decide
theorem sm8t : tsane sm8 = 0 := by
  have h1 : firstBad sm8 = 0 := firstBad_of sm8s
  unfold tsane
  rw [h1]
  decide
theorem sm8g : goodE sm8 = true := by unfold goodE; rw [sm8t, sm8v]; rfl
theorem sm8a : ansE sm8 ⟨80, [97], [47], 0, 0⟩ = ⟨3, [99], 7⟩ := by decide +kernel
theorem sm8w : withinE sm8 ⟨3, [99], 7⟩ = true := by decide +kernel
theorem sm8ac : CallR Tryz.prog 11 [.slice false (avs sm8), .bool true, .agg [.int .i64 80, .str [97], .str [47], .int .i64 0, .int .i64 0]] (.val (.agg [.int .i64 3, .str [99], .int .i64 7])) := by
  have h := ansE_c sm8 80 [97] [47] 0 0 (by simp [Small, sm8]) sm8sm (by simp [Small])
  rw [sm8a] at h; exact h
theorem sm8nc : CallR Tryz.prog 11 [.slice false [], .bool true, .agg [.int .i64 0, .str [], .str [], .int .i64 0, .int .i64 0]] (.val (.agg [.int .i64 1, .str [], .int .i64 0])) := by
  have h := ansE_c [] 0 [] [] 0 0 (by simp [Small]) (by simp) (by simp [Small])
  exact h
theorem sm8gc : CallR Tryz.prog 10 [.slice false (avs sm8)] (.val (.bool true)) := by
  have h := goodE_c sm8 (by decide) sm8sm (fun h => (conf_of h).nodup)
  rw [sm8g] at h; exact h
theorem sm8wc : CallR Tryz.prog 14 [.slice false (avs sm8), .agg [.int .i64 3, .str [99], .int .i64 7]] (.val (.bool true)) := by
  have h := withinE_c sm8 3 [99] 7 (by simp [Small, sm8]) sm8sm
  rw [sm8w] at h; exact h
theorem sm8l : sm8.length = 4 := rfl
set_option maxRecDepth 30000 in
set_option maxHeartbeats 4000000 in
theorem awake8_c : CallR Tryz.prog 8 [] (.val (.bool true)) := by
  have htk : ∀ n, n = 4 → (avs sm8).take n = avs sm8 := fun n h => List.take_of_length_le (by simp [avs, sm8l, h])
  refine CallR.go0 (T := T) Tryz.call8 Tryz.func8 rfl Tryz.ntmps8 (congrArg Array.toList Tryz.results8) fun ts hn => ?_
  (repeat' (first
 | with_reducible refine callX.by (sm8ac) ?_
 | with_reducible refine callX.by (sm8nc) ?_
 | with_reducible refine callX.by (sm8gc) ?_
 | with_reducible refine callX.by (sm8wc) ?_
 | with_reducible refine callX.by (small8_c) ?_
 | with_reducible refine callX.by small8_c ?_
 | with_reducible refine callX.by (ansF_c _ _ _ _ _ _) ?_
 | with_reducible refine callX.by (ansE_c _ _ _ _ _ _ ?_ ?_ ?_) ?_
 | with_reducible refine callX.by sm8ac ?_
 | with_reducible refine callX.by sm8nc ?_
 | with_reducible refine callX.by (goodN_c _ ?_ ?_ ?_) ?_
 | with_reducible refine callX.by (goodS_c _ ?_ ?_ ?_ ?_) ?_
 | with_reducible refine callX.by (goodE_c _ ?_ ?_ ?_) ?_
 | with_reducible refine callX.by sm8gc ?_
 | with_reducible refine callX.by (withinE_c _ _ _ _ ?_ ?_) ?_
 | with_reducible refine callX.by sm8wc ?_
 | with_reducible assumption
 | (with_reducible refine NxK.out hK _ ?_; clear hK K)
 | with_reducible refine NxK.out (by assumption) _ ?_
 | with_reducible refine Nx.out (by assumption) ?_
 | with_reducible refine SpecC.seqW fun K hK => ?_
 | with_reducible refine SpecC.regW T fun K hK => ?_
 | with_reducible refine SpecC.drawW (id := 2) T mixed [([5], [6, 9, 10, 11, 12, 13, 14, 15, 16, 17, 18, 19, 20, 21, 22]), ([6], [5, 9, 10, 11, 12, 13, 14, 15, 16, 17, 18, 19, 20, 21, 22]), ([7], [14, 15, 16, 17, 18, 19, 20, 21, 22]), ([8], [15, 16, 17, 18, 19, 20, 21, 22]), ([9], [5, 6, 12, 13, 15, 16, 17, 18, 19, 20, 21, 22]), ([10], [5, 6, 13, 18, 19, 20, 21, 22]), ([11], [5, 6, 14, 15, 16, 17, 18, 19, 20, 21, 22]), ([12], [5, 6, 9, 15, 16, 17, 18, 19, 20, 21, 22]), ([13], [5, 6, 9, 10, 18, 19, 20, 21, 22]), ([14], [5, 6, 7, 11, 19, 20, 21, 22]), ([15], [5, 6, 7, 8, 9, 11, 12, 19, 20, 21, 22]), ([16], [5, 6, 7, 8, 9, 11, 12]), ([17], [5, 6, 7, 8, 9, 11, 12]), ([18], [5, 6, 7, 8, 9, 10, 11, 12, 13]), ([19], [5, 6, 7, 8, 9, 10, 11, 12, 13, 14, 15, 20]), ([20], [5, 6, 7, 8, 9, 10, 11, 12, 13, 14, 15, 19]), ([21], [5, 6, 7, 8, 9, 10, 11, 12, 13, 14, 15]), ([22], [5, 6, 7, 8, 9, 10, 11, 12, 13, 14, 15])] (by kernel_rfl) fun K hK => ?_
 | with_reducible refine SpecC.condW fun A B hA hB => ?_
 | with_reducible refine SpecC.block ?_
 | with_reducible refine SpecC.skip ?_
 | with_reducible refine SpecC.label ?_
 | with_reducible refine SpecC.exit ?_
 | with_reducible refine SpecC.goto ?_
 | with_reducible refine SpecC.ret ?_
 | ((with_reducible first | refine condK.split (fun hb => ?_) (fun hb => ?_) | refine gK.split_t (fun hb => ?_) (fun hb => ?_) | refine gK.split_f (fun hb => ?_) (fun hb => ?_)) <;> try simp only [decide_not, ilt_t, ilt_f, ile_t, ile_f, nlt_t, nlt_f, nle_t, nle_f, Bool.not_eq_true', Bool.not_eq_false', Int.ofNat_lt, Int.ofNat_le] at hb)
 | simp only [go_sem, ↓reduceIte, reduceIte, Nat.reduceEqDiff, String.reduceEq, Nat.reduceLT, Nat.reduceLeDiff, Nat.reduceAdd, Nat.reduceMul, Nat.reduceSub, Nat.reduceBEq, reduceCtorEq, *, -htk, Int.reduceEq]
 | with_reducible refine fun (bn : Bool) hbn => ?_))
end Go.Proofs.YtdhbkffionmmaaaGreatDoor.Lg

namespace Go.Proofs.YtdhbkffionmmaaaGreatDoor.Lg
set_option maxRecDepth 100000
set_option linter.unusedVariables false
set_option linter.unusedSimpArgs false
open Go
theorem few_len {l : List Res} (h : fewAll l = true) : l.length ≤ 65536 := by
  simp only [fewAll, Bool.and_eq_true, decide_eq_true_eq] at h
  omega
end Go.Proofs.YtdhbkffionmmaaaGreatDoor.Lg

namespace Go.Proofs.YtdhbkffionmmaaaGreatDoor.Lg
set_option maxRecDepth 100000
set_option linter.unusedVariables false
set_option linter.unusedSimpArgs false
open Go
def fS (l : List Res) (a : Ask) : Res := (listen l a.port).getD zRes
def fR (l : List Res) (a : Ask) : Res := (tget l ⟨1, (fS l a).to'⟩).getD zRes
def fU (l : List Res) (a : Ask) : Option Rule := pickR (fR l a).rules' a.host a.path
def fC (l : List Res) (a : Ask) : List UInt8 := (pickC ((fU l a).getD zRule).split a.first).getD []
def fD (l : List Res) (a : Ask) : Res := (tget l ⟨2, fC l a⟩).getD zRes
def fE (l : List Res) (a : Ask) : Res := (tget l ⟨3, (fD l a).to'⟩).getD zRes
def fH (l : List Res) (a : Ask) : Int := (pickH (fE l a).hosts a.other).getD 0
theorem zRes_sm : SmRes zRes := by simp [SmRes, zRes, Small]
theorem fS_sm {l : List Res} (hs : ∀ r ∈ l, SmRes r) (a : Ask) : SmRes (fS l a) := by
  unfold fS
  cases h : listen l a.port with
  | none => exact zRes_sm
  | some x => exact hs x (listen_in h).1
theorem tget_sm {l : List Res} (hs : ∀ r ∈ l, SmRes r) (k : Key) : SmRes ((tget l k).getD zRes) := by
  cases h : tget l k with
  | none => exact zRes_sm
  | some x => exact hs x (tget_in h).1
theorem fU_sm {l : List Res} (hs : ∀ r ∈ l, SmRes r) (a : Ask) : SmRule ((fU l a).getD zRule) := by
  cases h : fU l a with
  | none => simp [zRule, SmRule, Small]
  | some r => exact (tget_sm hs ⟨1, (fS l a).to'⟩).2.2.2.1 r (pickR_mem h)
theorem finds {l : List Res} (hc : Conf l) (hv : served l = 0) (a : Ask) :
    (¬ (ansE l a).what = 3 → (ansE l a).what = 1 ∨ (fU l a).isSome = false) ∧ ((ansE l a).what = 3 → (fU l a).isSome = true ∧ (ansE l a).cluster = fC l a ∧ (ansE l a).host = fH l a) := by
  rcases good_cases hc hv a with ⟨h0, h⟩ | ⟨x, hx, _, hx1, h0, h⟩ | ⟨x, rt, r, c, d, e, h, hx, hxr, hx1, hrt, hrr, hpr, hre, hpc, hcr, hd, hdr, hd3, he, hen, hph, hh, ha⟩
  · rw [h]; exact ⟨fun _ => .inl rfl, fun h => absurd h (by decide)⟩
  · rw [h]
    refine ⟨fun _ => .inr ?_, fun h => absurd h (by decide)⟩
    have e1 : fS l a = x := by unfold fS; rw [hx]; rfl
    unfold fU fR
    rw [e1]
    unfold ruleE at h0
    cases ht : tget l ⟨1, x.to'⟩ with
    | none => simp [zRes, pickR, bestR]
    | some q =>
      rw [ht] at h0
      simp only at h0
      simp [h0]
  · rw [ha]
    refine ⟨fun h => absurd rfl h, fun _ => ?_⟩
    have e1 : fS l a = x := by unfold fS; rw [hx]; rfl
    have e2 : fR l a = rt := by unfold fR; rw [e1, hrt]; rfl
    have e3 : fU l a = some r := by unfold fU; rw [e2, hpr]
    have e4 : fC l a = c := by unfold fC; rw [e3]; simp [hpc]
    have e5 : fD l a = d := by unfold fD; rw [e4, hd]; rfl
    have e6 : fE l a = e := by unfold fE; rw [e5, he]; rfl
    have e7 : fH l a = h := by unfold fH; rw [e6, hph]; rfl
    rw [e3, e4, e7]
    exact ⟨rfl, rfl, rfl⟩
end Go.Proofs.YtdhbkffionmmaaaGreatDoor.Lg

namespace Go.Proofs.YtdhbkffionmmaaaGreatDoor.Lg
set_option maxRecDepth 100000
set_option linter.unusedVariables false
set_option linter.unusedSimpArgs false
open Go
set_option maxRecDepth 30000 in
set_option maxHeartbeats 8000000 in
theorem evalFinds_c (xs : List Res) (a_port : Int) (a_host : List UInt8) (a_path : List UInt8) (a_first : Int) (a_other : Int) (hl : Small xs.length) (hs : ∀ r ∈ xs, SmRes r) (hh : Small a_host.length) : CallR Tryz.prog 4 [.slice false (avs xs), .agg [.int .i64 a_port, .str a_host, .str a_path, .int .i64 a_first, .int .i64 a_other]] (.val (.bool true)) := by
  by_cases hfa : fewAll xs = true
  rotate_left
  · have hfa : fewAll xs = false := by simpa using hfa
    refine CallR.go2 (T := T) Tryz.call4 Tryz.func4 rfl Tryz.ntmps4 (congrArg Array.toList Tryz.results4) (by decide) fun ts hn h0 h1 => ?_
    (repeat' (first
 | with_reducible refine callX.by awake8_c ?_
 | with_reducible refine callX.by (few4_c _ ?_ ?_) ?_
 | with_reducible refine callX.by (goodN_c _ ?_ ?_ ?_) ?_
 | with_reducible refine callX.by (goodS_c _ ?_ ?_ ?_ ?_) ?_
 | with_reducible refine callX.by (goodE_c _ ?_ ?_ ?_) ?_
 | with_reducible refine callX.by sm8gc ?_
 | with_reducible refine callX.by (ansF_c _ _ _ _ _ _) ?_
 | with_reducible refine callX.by (ansE_c _ _ _ _ _ _ ?_ ?_ ?_) ?_
 | with_reducible refine callX.by sm8ac ?_
 | with_reducible refine callX.by sm8nc ?_
 | with_reducible refine callX.by (listen_c _ _ ?_) ?_
 | with_reducible refine callX.by (tget_c _ _ _ ?_) ?_
 | with_reducible refine callX.by (pickR_c _ _ _ ?_ ?_ ?_) ?_
 | with_reducible refine callX.by (pickC_c _ _ ?_) ?_
 | with_reducible refine callX.by (pickH_c _ _ ?_) ?_
 | with_reducible assumption
 | (with_reducible refine NxK.out hK _ ?_; clear hK K)
 | with_reducible refine NxK.out (by assumption) _ ?_
 | with_reducible refine Nx.out (by assumption) ?_
 | with_reducible refine SpecC.seqW fun K hK => ?_
 | with_reducible refine SpecC.regW T fun K hK => ?_
 | with_reducible refine SpecC.condW fun A B hA hB => ?_
 | with_reducible refine SpecC.block ?_
 | with_reducible refine SpecC.skip ?_
 | with_reducible refine SpecC.label ?_
 | with_reducible refine SpecC.exit ?_
 | with_reducible refine SpecC.goto ?_
 | with_reducible refine SpecC.ret ?_
 | ((with_reducible first | refine condK.split (fun hb => ?_) (fun hb => ?_) | refine gK.split_t (fun hb => ?_) (fun hb => ?_) | refine gK.split_f (fun hb => ?_) (fun hb => ?_)) <;> try simp only [decide_not, ilt_t, ilt_f, ile_t, ile_f, nlt_t, nlt_f, nle_t, nle_f, Bool.not_eq_true', Bool.not_eq_false', Int.ofNat_lt, Int.ofNat_le] at hb)
 | simp only [go_sem, ↓reduceIte, reduceIte, Nat.reduceEqDiff, String.reduceEq, Nat.reduceLT, Nat.reduceLeDiff, Nat.reduceAdd, Nat.reduceMul, Nat.reduceSub, Nat.reduceBEq, reduceCtorEq, *, -hs]
 | with_reducible refine fun (bn : Bool) hbn => ?_))
  have hl2 := few_len hfa
  have hgc := goodE_c xs hl2 hs fun h => (conf_of h).nodup
  by_cases hg : goodE xs = true
  rotate_left
  · have hg : goodE xs = false := by simpa using hg
    rw [hg] at hgc
    refine CallR.go2 (T := T) Tryz.call4 Tryz.func4 rfl Tryz.ntmps4 (congrArg Array.toList Tryz.results4) (by decide) fun ts hn h0 h1 => ?_
    (repeat' (first
 | with_reducible refine callX.by (hgc) ?_
 | with_reducible refine callX.by awake8_c ?_
 | with_reducible refine callX.by (few4_c _ ?_ ?_) ?_
 | with_reducible refine callX.by (goodN_c _ ?_ ?_ ?_) ?_
 | with_reducible refine callX.by (goodS_c _ ?_ ?_ ?_ ?_) ?_
 | with_reducible refine callX.by (goodE_c _ ?_ ?_ ?_) ?_
 | with_reducible refine callX.by sm8gc ?_
 | with_reducible refine callX.by (ansF_c _ _ _ _ _ _) ?_
 | with_reducible refine callX.by (ansE_c _ _ _ _ _ _ ?_ ?_ ?_) ?_
 | with_reducible refine callX.by sm8ac ?_
 | with_reducible refine callX.by sm8nc ?_
 | with_reducible refine callX.by (listen_c _ _ ?_) ?_
 | with_reducible refine callX.by (tget_c _ _ _ ?_) ?_
 | with_reducible refine callX.by (pickR_c _ _ _ ?_ ?_ ?_) ?_
 | with_reducible refine callX.by (pickC_c _ _ ?_) ?_
 | with_reducible refine callX.by (pickH_c _ _ ?_) ?_
 | with_reducible assumption
 | (with_reducible refine NxK.out hK _ ?_; clear hK K)
 | with_reducible refine NxK.out (by assumption) _ ?_
 | with_reducible refine Nx.out (by assumption) ?_
 | with_reducible refine SpecC.seqW fun K hK => ?_
 | with_reducible refine SpecC.regW T fun K hK => ?_
 | with_reducible refine SpecC.condW fun A B hA hB => ?_
 | with_reducible refine SpecC.block ?_
 | with_reducible refine SpecC.skip ?_
 | with_reducible refine SpecC.label ?_
 | with_reducible refine SpecC.exit ?_
 | with_reducible refine SpecC.goto ?_
 | with_reducible refine SpecC.ret ?_
 | ((with_reducible first | refine condK.split (fun hb => ?_) (fun hb => ?_) | refine gK.split_t (fun hb => ?_) (fun hb => ?_) | refine gK.split_f (fun hb => ?_) (fun hb => ?_)) <;> try simp only [decide_not, ilt_t, ilt_f, ile_t, ile_f, nlt_t, nlt_f, nle_t, nle_f, Bool.not_eq_true', Bool.not_eq_false', Int.ofNat_lt, Int.ofNat_le] at hb)
 | simp only [go_sem, ↓reduceIte, reduceIte, Nat.reduceEqDiff, String.reduceEq, Nat.reduceLT, Nat.reduceLeDiff, Nat.reduceAdd, Nat.reduceMul, Nat.reduceSub, Nat.reduceBEq, reduceCtorEq, *, -hs, -hgc]
 | with_reducible refine fun (bn : Bool) hbn => ?_))
  rw [hg] at hgc
  simp only [goodE, Bool.and_eq_true, decide_eq_true_eq] at hg
  obtain ⟨f1, f2⟩ := finds (conf_of hg.1) hg.2 ⟨a_port, a_host, a_path, a_first, a_other⟩
  have hAa := ansE_c xs a_port a_host a_path a_first a_other hl hs hh
  have hLi := listen_c xs a_port hl
  have q1 := fS_sm hs ⟨a_port, a_host, a_path, a_first, a_other⟩
  have q2 := tget_sm hs ⟨1, (fS xs ⟨a_port, a_host, a_path, a_first, a_other⟩).to'⟩
  have q3 := fU_sm hs ⟨a_port, a_host, a_path, a_first, a_other⟩
  have q4 := tget_sm hs ⟨2, fC xs ⟨a_port, a_host, a_path, a_first, a_other⟩⟩
  have q5 := tget_sm hs ⟨3, (fD xs ⟨a_port, a_host, a_path, a_first, a_other⟩).to'⟩
  have hG1 := tget_c xs 1 (fS xs ⟨a_port, a_host, a_path, a_first, a_other⟩).to' hl
  have hG2 := tget_c xs 2 (fC xs ⟨a_port, a_host, a_path, a_first, a_other⟩) hl
  have hG3 := tget_c xs 3 (fD xs ⟨a_port, a_host, a_path, a_first, a_other⟩).to' hl
  have hP1 := pickR_c (fR xs ⟨a_port, a_host, a_path, a_first, a_other⟩).rules' a_host a_path q2.2.2.1 q2.2.2.2.1 hh
  have hP2 := pickC_c ((fU xs ⟨a_port, a_host, a_path, a_first, a_other⟩).getD zRule).split a_first q3.2.2.1
  have hP3 := pickH_c (fE xs ⟨a_port, a_host, a_path, a_first, a_other⟩).hosts a_other q5.2.2.2.2
  rw [show (listen xs a_port).getD zRes = fS xs ⟨a_port, a_host, a_path, a_first, a_other⟩ from rfl] at hLi
  rw [show (tget xs ⟨1, (fS xs ⟨a_port, a_host, a_path, a_first, a_other⟩).to'⟩).getD zRes = fR xs ⟨a_port, a_host, a_path, a_first, a_other⟩ from rfl] at hG1
  rw [show (tget xs ⟨2, fC xs ⟨a_port, a_host, a_path, a_first, a_other⟩⟩).getD zRes = fD xs ⟨a_port, a_host, a_path, a_first, a_other⟩ from rfl] at hG2
  rw [show (tget xs ⟨3, (fD xs ⟨a_port, a_host, a_path, a_first, a_other⟩).to'⟩).getD zRes = fE xs ⟨a_port, a_host, a_path, a_first, a_other⟩ from rfl] at hG3
  rw [show pickR (fR xs ⟨a_port, a_host, a_path, a_first, a_other⟩).rules' a_host a_path = fU xs ⟨a_port, a_host, a_path, a_first, a_other⟩ from rfl] at hP1
  rw [show (pickC ((fU xs ⟨a_port, a_host, a_path, a_first, a_other⟩).getD zRule).split a_first).getD [] = fC xs ⟨a_port, a_host, a_path, a_first, a_other⟩ from rfl] at hP2
  rw [show (pickH (fE xs ⟨a_port, a_host, a_path, a_first, a_other⟩).hosts a_other).getD 0 = fH xs ⟨a_port, a_host, a_path, a_first, a_other⟩ from rfl] at hP3
  clear q1 q2 q3 q4 q5
  generalize fH xs ⟨a_port, a_host, a_path, a_first, a_other⟩ = vH at *
  generalize fE xs ⟨a_port, a_host, a_path, a_first, a_other⟩ = vE at *
  generalize fD xs ⟨a_port, a_host, a_path, a_first, a_other⟩ = vD at *
  generalize fC xs ⟨a_port, a_host, a_path, a_first, a_other⟩ = vC at *
  generalize (fU xs ⟨a_port, a_host, a_path, a_first, a_other⟩).getD zRule = vU at *
  generalize (fU xs ⟨a_port, a_host, a_path, a_first, a_other⟩).isSome = vB at *
  generalize fR xs ⟨a_port, a_host, a_path, a_first, a_other⟩ = vR at *
  generalize fS xs ⟨a_port, a_host, a_path, a_first, a_other⟩ = vS at *
  generalize ansE xs ⟨a_port, a_host, a_path, a_first, a_other⟩ = x at *
  refine CallR.go2 (T := T) Tryz.call4 Tryz.func4 rfl Tryz.ntmps4 (congrArg Array.toList Tryz.results4) (by decide) fun ts hn h0 h1 => ?_
  (repeat' (first
 | with_reducible refine callX.by (hgc) ?_
 | with_reducible refine callX.by (hAa) ?_
 | with_reducible refine callX.by (hLi) ?_
 | with_reducible refine callX.by (hG1) ?_
 | with_reducible refine callX.by (hG2) ?_
 | with_reducible refine callX.by (hG3) ?_
 | with_reducible refine callX.by (hP1) ?_
 | with_reducible refine callX.by (hP2) ?_
 | with_reducible refine callX.by (hP3) ?_
 | with_reducible refine callX.by awake8_c ?_
 | with_reducible refine callX.by (few4_c _ ?_ ?_) ?_
 | with_reducible refine callX.by (goodN_c _ ?_ ?_ ?_) ?_
 | with_reducible refine callX.by (goodS_c _ ?_ ?_ ?_ ?_) ?_
 | with_reducible refine callX.by (goodE_c _ ?_ ?_ ?_) ?_
 | with_reducible refine callX.by sm8gc ?_
 | with_reducible refine callX.by (ansF_c _ _ _ _ _ _) ?_
 | with_reducible refine callX.by (ansE_c _ _ _ _ _ _ ?_ ?_ ?_) ?_
 | with_reducible refine callX.by sm8ac ?_
 | with_reducible refine callX.by sm8nc ?_
 | with_reducible refine callX.by (listen_c _ _ ?_) ?_
 | with_reducible refine callX.by (tget_c _ _ _ ?_) ?_
 | with_reducible refine callX.by (pickR_c _ _ _ ?_ ?_ ?_) ?_
 | with_reducible refine callX.by (pickC_c _ _ ?_) ?_
 | with_reducible refine callX.by (pickH_c _ _ ?_) ?_
 | with_reducible assumption
 | (with_reducible refine NxK.out hK _ ?_; clear hK K)
 | with_reducible refine NxK.out (by assumption) _ ?_
 | with_reducible refine Nx.out (by assumption) ?_
 | with_reducible refine SpecC.seqW fun K hK => ?_
 | with_reducible refine SpecC.regW T fun K hK => ?_
 | with_reducible refine SpecC.condW fun A B hA hB => ?_
 | with_reducible refine SpecC.block ?_
 | with_reducible refine SpecC.skip ?_
 | with_reducible refine SpecC.label ?_
 | with_reducible refine SpecC.exit ?_
 | with_reducible refine SpecC.goto ?_
 | with_reducible refine SpecC.ret ?_
 | ((with_reducible first | refine condK.split (fun hb => ?_) (fun hb => ?_) | refine gK.split_t (fun hb => ?_) (fun hb => ?_) | refine gK.split_f (fun hb => ?_) (fun hb => ?_)) <;> try simp only [decide_not, ilt_t, ilt_f, ile_t, ile_f, nlt_t, nlt_f, nle_t, nle_f, Bool.not_eq_true', Bool.not_eq_false', Int.ofNat_lt, Int.ofNat_le] at hb)
 | simp only [go_sem, ↓reduceIte, reduceIte, Nat.reduceEqDiff, String.reduceEq, Nat.reduceLT, Nat.reduceLeDiff, Nat.reduceAdd, Nat.reduceMul, Nat.reduceSub, Nat.reduceBEq, reduceCtorEq, *, -hs, -hgc, -hg, -hAa, -hLi, -hG1, -hG2, -hG3, -hP1, -hP2, -hP3, -f1, -f2]
 | with_reducible refine fun (bn : Bool) hbn => ?_))
  all_goals ((repeat clear hK); (repeat clear hA); (repeat clear hB))
  all_goals clear hgc hAa hLi hG1 hG2 hG3 hP1 hP2 hP3
  all_goals
    by_cases h3 : x.what = 3
    · have e := f2 h3
      clear f1 f2
      simp_all
    · have e := f1 h3
      clear f1 f2
      rcases e with e | e <;> simp_all
end Go.Proofs.YtdhbkffionmmaaaGreatDoor.Lg
