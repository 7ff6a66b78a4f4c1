/- Parts of the proof, one behind the other. -/
import Derived.Test.YtndnkbekhmndhaaGreatDoorG19
namespace Go.Proofs.YtndnkbekhmndhaaGreatDoor.Lg
set_option maxRecDepth 100000
set_option linter.unusedVariables false
set_option linter.unusedSimpArgs false
open Go
def sm8 : List Res := [⟨0, [108], 0, 80, [114], [], []⟩, ⟨1, [114], 0, 0, [], [⟨[42], [47], [⟨[99], 1⟩]⟩], []⟩, ⟨2, [99], 0, 0, [101], [], []⟩, ⟨3, [101], 0, 0, [], [], [7]⟩]
set_option maxRecDepth 30000 in
set_option maxHeartbeats 4000000 in
theorem small8_c : CallR Tryz.prog 87 [] (.own 7 (avs sm8)) := by
  refine CallR.go0 (T := T) Tryz.call87 Tryz.func87 rfl Tryz.ntmps87 (congrArg Array.toList Tryz.results87) fun ts hn => ?_
  (repeat' (first
 | (with_reducible first | assumption | (refine NxK.out hK _ ?_; clear hK K) | refine NxK.out (by assumption) _ ?_ | refine Nx.out (by assumption) ?_ | refine SpecC.seqW fun K hK => ?_ | refine SpecC.regW T fun K hK => ?_ | refine SpecC.condW fun A B hA hB => ?_ | refine SpecC.block ?_ | refine SpecC.skip ?_ | refine SpecC.label ?_ | refine SpecC.exit ?_ | refine SpecC.goto ?_)
 | ((with_reducible first | refine condK.split (fun hb => ?_) (fun hb => ?_) | refine gK.split_t (fun hb => ?_) (fun hb => ?_) | refine gK.split_f (fun hb => ?_) (fun hb => ?_)) <;> try simp only [decide_not, ilt_t, ilt_f, ile_t, ile_f, nlt_t, nlt_f, nle_t, nle_f, Bool.not_eq_true', Bool.not_eq_false', Int.ofNat_lt, Int.ofNat_le] at hb)
 | simp only [go_sem, ↓reduceIte, reduceIte, Nat.reduceEqDiff, String.reduceEq, Nat.reduceLT, Nat.reduceLeDiff, Nat.reduceAdd, Nat.reduceMul, Nat.reduceSub, Nat.reduceBEq, reduceCtorEq, *, Int.le_refl]
 | with_reducible refine fun (bn : Bool) hbn => ?_))
  refine SpecC.ent (Ent.frzA2 5 0 2 3 ?_) ?_
  · simp only [go_sem, ↓reduceIte, reduceIte, Nat.reduceEqDiff, String.reduceEq, Nat.reduceLT, Nat.reduceLeDiff, Nat.reduceAdd, Nat.reduceMul, Nat.reduceSub, Nat.reduceBEq, reduceCtorEq, *, List.getD_cons_zero, AV.cells]
  refine SpecC.ent (Ent.frzA2 10 1 5 5 ?_) ?_
  · simp only [go_sem, ↓reduceIte, reduceIte, Nat.reduceEqDiff, String.reduceEq, Nat.reduceLT, Nat.reduceLeDiff, Nat.reduceAdd, Nat.reduceMul, Nat.reduceSub, Nat.reduceBEq, reduceCtorEq, *, List.getD_cons_zero, AV.cells]
  refine SpecC.ent (Ent.frzA2 10 3 6 8 ?_) ?_
  · simp only [go_sem, ↓reduceIte, reduceIte, Nat.reduceEqDiff, String.reduceEq, Nat.reduceLT, Nat.reduceLeDiff, Nat.reduceAdd, Nat.reduceMul, Nat.reduceSub, Nat.reduceBEq, reduceCtorEq, *, List.getD_cons_zero, AV.cells]
  (repeat' (first
 | (with_reducible first | assumption | (refine NxK.out hK _ ?_; clear hK K) | refine NxK.out (by assumption) _ ?_ | refine Nx.out (by assumption) ?_ | refine SpecC.seqW fun K hK => ?_ | refine SpecC.regW T fun K hK => ?_ | refine SpecC.condW fun A B hA hB => ?_ | refine SpecC.block ?_ | refine SpecC.skip ?_ | refine SpecC.label ?_ | refine SpecC.exit ?_ | refine SpecC.goto ?_ | refine SpecC.ret ?_)
 | ((with_reducible first | refine condK.split (fun hb => ?_) (fun hb => ?_) | refine gK.split_t (fun hb => ?_) (fun hb => ?_) | refine gK.split_f (fun hb => ?_) (fun hb => ?_)) <;> try simp only [decide_not, ilt_t, ilt_f, ile_t, ile_f, nlt_t, nlt_f, nle_t, nle_f, Bool.not_eq_true', Bool.not_eq_false', Int.ofNat_lt, Int.ofNat_le] at hb)
 | simp only [go_sem, ↓reduceIte, reduceIte, Nat.reduceEqDiff, String.reduceEq, Nat.reduceLT, Nat.reduceLeDiff, Nat.reduceAdd, Nat.reduceMul, Nat.reduceSub, Nat.reduceBEq, reduceCtorEq, *, List.getD_cons_zero, AV.cells]
 | with_reducible refine fun (bn : Bool) hbn => ?_))
  all_goals rfl
theorem sm8s : ∀ r ∈ sm8, saneR r = 0 := by
  intro r hr
  simp only [sm8, List.mem_cons, List.not_mem_nil, or_false] at hr
  rcases hr with rfl | rfl | rfl | rfl <;> decide
theorem sm8sm : ∀ r ∈ sm8, SmRes r := by
  intro r hr
  simp only [sm8, List.mem_cons, List.not_mem_nil, or_false] at hr
  rcases hr with rfl | rfl | rfl | rfl <;> simp [SmRes, Small, SmRule, SmWeight]
theorem sm8r : ∀ r ∈ sm8, ∀ k ∈ refsR r, k ∈ sm8.map keyOf := by
  intro r hr k hk
  have hs := sm8s r hr
  simp only [sm8, List.mem_cons, List.not_mem_nil, or_false] at hr
  rcases hr with rfl | rfl | rfl | rfl
  · rw [refs_one hs (.inl rfl), List.mem_singleton] at hk
    subst hk; decide
  · rw [(refs_up hs).2] at hk
    have e : baseR ⟨1, [114], 0, 0, [], [⟨[42], [47], [⟨[99], 1⟩]⟩], []⟩ ++ keysR [⟨[42], [47], [⟨[99], 1⟩]⟩] = [⟨2, [99]⟩] := by decide
    rw [e, List.mem_singleton] at hk
    subst hk; decide
  · rw [refs_one hs (.inr rfl), List.mem_singleton] at hk
    subst hk; decide
  · rw [refs_ends rfl] at hk; simp at hk
theorem sm8v : served sm8 = 0 := by
  refine served_ok.2 ⟨fun r hr => sm8r r ((reachR_sub sm8).subset hr), fun r hr => ?_⟩
  have hr := (reachR_sub sm8).subset hr
  simp only [sm8, List.mem_cons, List.not_mem_nil, or_false] at hr
  rcases hr with rfl | rfl | rfl | rfl <;> decide
theorem sm8t : tsane sm8 = 0 := by
  have h1 : firstBad sm8 = 0 := firstBad_of sm8s
  unfold tsane
  rw [h1]
  decide
theorem sm8g : goodE sm8 = true := by unfold goodE; rw [sm8t, sm8v]; rfl
theorem sm8a : ansE sm8 ⟨80, [97], [47], 0, 0⟩ = ⟨3, [99], 7⟩ := by decide +kernel
theorem sm8w : withinE sm8 ⟨3, [99], 7⟩ = true := by decide +kernel
theorem sm8ac : CallR Tryz.prog 42 [.slice false (avs sm8), .bool true, .agg [.int .i64 80, .str [97], .str [47], .int .i64 0, .int .i64 0]] (.val (.agg [.int .i64 3, .str [99], .int .i64 7])) := by
  have h := ansE_c sm8 80 [97] [47] 0 0 (by simp [Small, sm8]) sm8sm (by simp [Small])
  rw [sm8a] at h; exact h
theorem sm8nc : CallR Tryz.prog 42 [.slice false [], .bool true, .agg [.int .i64 0, .str [], .str [], .int .i64 0, .int .i64 0]] (.val (.agg [.int .i64 1, .str [], .int .i64 0])) := by
  have h := ansE_c [] 0 [] [] 0 0 (by simp [Small]) (by simp) (by simp [Small])
  exact h
theorem sm8gc : CallR Tryz.prog 37 [.slice false (avs sm8)] (.val (.bool true)) := by
  have h := goodE_c sm8 (by decide) sm8sm (fun h => (conf_of h).nodup)
  rw [sm8g] at h; exact h
theorem sm8wc : CallR Tryz.prog 88 [.slice false (avs sm8), .agg [.int .i64 3, .str [99], .int .i64 7]] (.val (.bool true)) := by
  have h := withinE_c sm8 3 [99] 7 (by simp [Small, sm8]) sm8sm
  rw [sm8w] at h; exact h
theorem sm8l : sm8.length = 4 := rfl
set_option maxRecDepth 30000 in
set_option maxHeartbeats 4000000 in
theorem awake8_c : CallR Tryz.prog 39 [] (.val (.bool true)) := by
  have htk : ∀ n, n = 4 → (avs sm8).take n = avs sm8 := fun n h => List.take_of_length_le (by simp [avs, sm8l, h])
  refine CallR.go0 (T := T) Tryz.call39 Tryz.func39 rfl Tryz.ntmps39 (congrArg Array.toList Tryz.results39) fun ts hn => ?_
  (repeat' (first
 | (with_reducible first | refine callX.by (sm8ac) ?_ | refine callX.by (sm8nc) ?_ | refine callX.by (sm8gc) ?_ | refine callX.by (sm8wc) ?_ | refine callX.by (small8_c) ?_ | refine callX.by small8_c ?_ | refine callX.by (ansF_c _ _ _ _ _ _) ?_ | refine callX.by (ansE_c _ _ _ _ _ _ ?_ ?_ ?_) ?_ | refine callX.by sm8ac ?_ | refine callX.by sm8nc ?_ | refine callX.by (goodN_c _ ?_ ?_ ?_) ?_ | refine callX.by (goodS_c _ ?_ ?_ ?_ ?_) ?_ | refine callX.by (goodE_c _ ?_ ?_ ?_) ?_ | refine callX.by sm8gc ?_ | refine callX.by (withinE_c _ _ _ _ ?_ ?_) ?_ | refine callX.by sm8wc ?_ | refine callX.by nilW1_c ?_ | refine callX.by nilW3_c ?_ | assumption | (refine NxK.out hK _ ?_; clear hK K) | refine NxK.out (by assumption) _ ?_ | refine Nx.out (by assumption) ?_ | refine SpecC.seqW fun K hK => ?_ | refine SpecC.regW T fun K hK => ?_ | refine SpecC.drawW (id := 2) T mixed [([5], [6, 9, 10, 11, 12, 13, 14, 15, 16, 17, 18, 19, 20, 21, 22]), ([6], [5, 9, 10, 11, 12, 13, 14, 15, 16, 17, 18, 19, 20, 21, 22]), ([7], [14, 15, 16, 17, 18, 19, 20, 21, 22]), ([8], [15, 16, 17, 18, 19, 20, 21, 22]), ([9], [5, 6, 12, 13, 15, 16, 17, 18, 19, 20, 21, 22]), ([10], [5, 6, 13, 18, 19, 20, 21, 22]), ([11], [5, 6, 14, 15, 16, 17, 18, 19, 20, 21, 22]), ([12], [5, 6, 9, 15, 16, 17, 18, 19, 20, 21, 22]), ([13], [5, 6, 9, 10, 18, 19, 20, 21, 22]), ([14], [5, 6, 7, 11, 19, 20, 21, 22]), ([15], [5, 6, 7, 8, 9, 11, 12, 19, 20, 21, 22]), ([16], [5, 6, 7, 8, 9, 11, 12]), ([17], [5, 6, 7, 8, 9, 11, 12]), ([18], [5, 6, 7, 8, 9, 10, 11, 12, 13]), ([19], [5, 6, 7, 8, 9, 10, 11, 12, 13, 14, 15, 20]), ([20], [5, 6, 7, 8, 9, 10, 11, 12, 13, 14, 15, 19]), ([21], [5, 6, 7, 8, 9, 10, 11, 12, 13, 14, 15]), ([22], [5, 6, 7, 8, 9, 10, 11, 12, 13, 14, 15])] (by kernel_rfl) fun K hK => ?_ | refine SpecC.condW fun A B hA hB => ?_ | refine SpecC.block ?_ | refine SpecC.skip ?_ | refine SpecC.label ?_ | refine SpecC.exit ?_ | refine SpecC.goto ?_ | refine SpecC.ret ?_)
 | ((with_reducible first | refine condK.split (fun hb => ?_) (fun hb => ?_) | refine gK.split_t (fun hb => ?_) (fun hb => ?_) | refine gK.split_f (fun hb => ?_) (fun hb => ?_)) <;> try simp only [decide_not, ilt_t, ilt_f, ile_t, ile_f, nlt_t, nlt_f, nle_t, nle_f, Bool.not_eq_true', Bool.not_eq_false', Int.ofNat_lt, Int.ofNat_le] at hb)
 | simp only [go_sem, ↓reduceIte, reduceIte, Nat.reduceEqDiff, String.reduceEq, Nat.reduceLT, Nat.reduceLeDiff, Nat.reduceAdd, Nat.reduceMul, Nat.reduceSub, Nat.reduceBEq, reduceCtorEq, *, -htk, Int.reduceEq]
 | with_reducible refine fun (bn : Bool) hbn => ?_))
end Go.Proofs.YtndnkbekhmndhaaGreatDoor.Lg

namespace Go.Proofs.YtndnkbekhmndhaaGreatDoor.Lg
set_option maxRecDepth 100000
set_option linter.unusedVariables false
set_option linter.unusedSimpArgs false
open Go
theorem few_len {l : List Res} (h : fewAll l = true) : l.length ≤ 65536 := by
  simp only [fewAll, Bool.and_eq_true, decide_eq_true_eq] at h
  omega
theorem nilW1_c : CallR Tryz.prog 88 [.slice false [], .agg [.int .i64 1, .str [], .int .i64 0]] (.val (.bool true)) := by
  have h := withinE_c [] 1 [] 0 (by simp [Small]) (by simp)
  rw [show withinE [] ⟨1, [], 0⟩ = true by decide] at h
  exact h
theorem nilW3_c : CallR Tryz.prog 88 [.slice false [], .agg [.int .i64 3, .str [], .int .i64 0]] (.val (.bool false)) := by
  have h := withinE_c [] 3 [] 0 (by simp [Small]) (by simp)
  rw [show withinE [] ⟨3, [], 0⟩ = false by decide] at h
  exact h
end Go.Proofs.YtndnkbekhmndhaaGreatDoor.Lg

namespace Go.Proofs.YtndnkbekhmndhaaGreatDoor.Lg
set_option maxRecDepth 100000
set_option linter.unusedVariables false
set_option linter.unusedSimpArgs false
open Go
end Go.Proofs.YtndnkbekhmndhaaGreatDoor.Lg

namespace Go.Proofs.YtndnkbekhmndhaaGreatDoor.Lg
set_option maxRecDepth 100000
set_option linter.unusedVariables false
set_option linter.unusedSimpArgs false
open Go
set_option maxRecDepth 30000 in
theorem with11_c (r_kind : Int) (r_name : List UInt8) (r_ver : Int) (r_port : Int) (r_to : List UInt8) (r_rules : List Rule) (r_hosts : List Int) (k_kind : Int) (k_name : List UInt8) (c : Int) : CallR Tryz.prog 93 [.agg [.int .i64 r_kind, .str r_name, .int .i64 r_ver, .int .i64 r_port, .str r_to, .slice false (avs r_rules), .slice false (avs r_hosts)], .ro [.int .i64 k_kind, .str k_name], .ro [.int .i64 c]] (.val (.bool (decide (kcmp (keyOf (⟨r_kind, r_name, r_ver, r_port, r_to, r_rules, r_hosts⟩ : Res)) (⟨k_kind, k_name⟩ : Key) = c)))) := by
  refine CallR.go3 (T := T) Tryz.call93 Tryz.func93 rfl Tryz.ntmps93 (congrArg Array.toList Tryz.results93) (by decide) fun ts hn h0 h1 h2 => ?_
  (repeat' (first
 | (with_reducible first | refine callX.by (rkey_c _ _ _ _ _ _ _) ?_ | refine callX.by (kcmp_c _ _ _ _) ?_ | assumption | (refine NxK.out hK _ ?_; clear hK K) | refine NxK.out (by assumption) _ ?_ | refine Nx.out (by assumption) ?_ | refine SpecC.seqW fun K hK => ?_ | refine SpecC.regW T fun K hK => ?_ | refine SpecC.drawW (id := 1) T mixed [([5], [7, 9]), ([6], [7, 9]), ([7], [5, 6, 9]), ([8], [9]), ([9], [5, 6, 7, 8])] (by kernel_rfl) fun K hK => ?_ | refine SpecC.condW fun A B hA hB => ?_ | refine SpecC.block ?_ | refine SpecC.skip ?_ | refine SpecC.label ?_ | refine SpecC.exit ?_ | refine SpecC.goto ?_ | refine SpecC.ret ?_)
 | ((with_reducible first | refine condK.split (fun hb => ?_) (fun hb => ?_) | refine gK.split_t (fun hb => ?_) (fun hb => ?_) | refine gK.split_f (fun hb => ?_) (fun hb => ?_)) <;> try simp only [decide_not, ilt_t, ilt_f, ile_t, ile_f, nlt_t, nlt_f, nle_t, nle_f, Bool.not_eq_true', Bool.not_eq_false', Int.ofNat_lt, Int.ofNat_le] at hb)
 | simp only [go_sem, ↓reduceIte, reduceIte, Nat.reduceEqDiff, String.reduceEq, Nat.reduceLT, Nat.reduceLeDiff, Nat.reduceAdd, Nat.reduceMul, Nat.reduceSub, Nat.reduceBEq, reduceCtorEq, *]
 | with_reducible refine fun (bn : Bool) hbn => ?_))
  all_goals rfl
theorem caps_with (a : Int) (b : List UInt8) (c : Int) : Caps [.ro [.int .i64 a, .str b], .ro [.int .i64 c]] := ⟨by simp only [go_sem, Bool.and_self], by simp only [go_sem]⟩
def sideR (l : List Res) (k : Key) (c : Int) : List Res := l.filter fun r => decide (kcmp (keyOf r) k = c)
set_option maxRecDepth 30000 in
theorem with1_c (xs : List Res) (k_kind : Int) (k_name : List UInt8) (c : Int) (hl : Small xs.length) : CallR Tryz.prog 91 [.int .i64 c, .ro [.slice false (avs xs)], .ro [.int .i64 k_kind, .str k_name]] (.own 7 (avs (sideR xs (⟨k_kind, k_name⟩ : Key) c))) := by
  have hf := tfilter_c 93 [.ro [.int .i64 k_kind, .str k_name], .ro [.int .i64 c]] (caps_with k_kind k_name c) (fun r => decide (kcmp (keyOf r) (⟨k_kind, k_name⟩ : Key) = c)) xs (fun x _ => with11_c x.kind x.name x.ver x.port x.to' x.rules' x.hosts k_kind k_name c) hl
  rw [show xs.filter (fun r => decide (kcmp (keyOf r) (⟨k_kind, k_name⟩ : Key) = c)) = sideR xs (⟨k_kind, k_name⟩ : Key) c from rfl] at hf
  refine CallR.go3 (T := T) Tryz.call91 Tryz.func91 rfl Tryz.ntmps91 (congrArg Array.toList Tryz.results91) (by decide) fun ts hn h0 h1 h2 => ?_
  (repeat' (first
 | (with_reducible first | refine callX.by (hf) ?_ | refine callX.by (tfilter_c _ _ ?_ _ _ ?_ ?_) ?_ | assumption | (refine NxK.out hK _ ?_; clear hK K) | refine NxK.out (by assumption) _ ?_ | refine Nx.out (by assumption) ?_ | refine SpecC.seqW fun K hK => ?_ | refine SpecC.regW T fun K hK => ?_ | refine SpecC.condW fun A B hA hB => ?_ | refine SpecC.block ?_ | refine SpecC.skip ?_ | refine SpecC.label ?_ | refine SpecC.exit ?_ | refine SpecC.goto ?_ | refine SpecC.ret ?_)
 | ((with_reducible first | refine condK.split (fun hb => ?_) (fun hb => ?_) | refine gK.split_t (fun hb => ?_) (fun hb => ?_) | refine gK.split_f (fun hb => ?_) (fun hb => ?_)) <;> try simp only [decide_not, ilt_t, ilt_f, ile_t, ile_f, nlt_t, nlt_f, nle_t, nle_f, Bool.not_eq_true', Bool.not_eq_false', Int.ofNat_lt, Int.ofNat_le] at hb)
 | simp only [go_sem, ↓reduceIte, reduceIte, Nat.reduceEqDiff, String.reduceEq, Nat.reduceLT, Nat.reduceLeDiff, Nat.reduceAdd, Nat.reduceMul, Nat.reduceSub, Nat.reduceBEq, reduceCtorEq, *, -hf]
 | with_reducible refine fun (bn : Bool) hbn => ?_))
end Go.Proofs.YtndnkbekhmndhaaGreatDoor.Lg
