/- Parts of the proof, one behind the other. -/
import Derived.Test.YtbmdbkgjgjggiaaGreatDoorG19
namespace Go.Proofs.YtbmdbkgjgjggiaaGreatDoor.Lg
set_option maxRecDepth 100000
set_option linter.unusedVariables false
set_option linter.unusedSimpArgs false
open Go
def a6 : Res := ⟨0, [108], 0, 0, [114], [], []⟩
theorem a6s : saneR a6 = 0 := by decide
theorem a6r : refsR a6 = [⟨1, [114]⟩] := by
  unfold refsR
  rw [if_pos a6s]
  have e : baseR a6 ++ keysR a6.rules' = [⟨1, [114]⟩] := by decide
  rw [e]
  have e2 : ksort [⟨1, [114]⟩] = [(⟨1, [114]⟩ : Key)] := by simp [ksort]
  rw [e2]; rfl
theorem a6sm : ∀ r ∈ [a6], SmRes r := by
  intro r hr
  rw [List.mem_singleton] at hr
  subst hr
  exact ⟨by simp [Small, a6], by simp [Small, a6], by simp [Small, a6], by simp [a6], by simp [Small, a6]⟩
theorem a6nd : ([a6].map keyOf).Nodup := by simp
theorem a6m : missK [a6] = [⟨1, [114]⟩] := by
  have e : missR (ofR [a6] []) [a6] = [⟨1, [114]⟩] := by
    rw [missR_cons, a6r]
    have : keepK (ofR [a6] []) [⟨1, [114]⟩] = [⟨1, [114]⟩] := by decide
    rw [this]; rfl
  unfold missK
  rw [e]
  have e2 : ksort [⟨1, [114]⟩] = [(⟨1, [114]⟩ : Key)] := by simp [ksort]
  rw [e2]; rfl
theorem a6re : reachR [a6] = [a6] := by
  unfold reachR
  rw [List.filter_eq_self]
  intro r hr
  rw [reached_iff a6nd]
  rw [List.mem_singleton] at hr
  subst hr
  exact .base a6 (by simp) rfl
theorem a6se : served [a6] = 6 := by
  unfold served
  rw [a6re, if_pos]
  rw [List.any_cons, lacks, a6r]
  decide
theorem a6o : orderK [a6] = [⟨0, [108]⟩] := by decide
abbrev A6 : AV := .slice false [.agg [.int .i64 0, .str [108], .int .i64 0, .int .i64 0, .str [114], .slice false [], .slice false []]]
theorem a6mc : CallR Tryz.prog 27 [A6] (.own 2 [.agg [.int .i64 1, .str [114]]]) := by
  have h := missing_c [a6] (by decide) a6sm
  rw [a6m] at h; exact h
theorem a6sc : CallR Tryz.prog 34 [A6] (.val (.int .i64 6)) := by
  have h := served_c [a6] (by decide) a6sm a6nd
  rw [a6se] at h; exact h
theorem a6oc : CallR Tryz.prog 36 [A6] (.own 2 [.agg [.int .i64 0, .str [108]]]) := by
  have h := order_refs_c [a6] (by decide)
  rw [a6o] at h; exact h
theorem a6rc : CallR Tryz.prog 32 [A6] (.own 7 [.agg [.int .i64 0, .str [108], .int .i64 0, .int .i64 0, .str [114], .slice false [], .slice false []]]) := by
  have h := reach_c [a6] (by decide) a6sm a6nd
  rw [a6re] at h; exact h
set_option maxRecDepth 30000 in
set_option maxHeartbeats 4000000 in
theorem awake6_c : CallR Tryz.prog 25 [] (.val (.bool true)) := by
  refine CallR.go0 (T := T) Tryz.call25 Tryz.func25 rfl Tryz.ntmps25 (congrArg Array.toList Tryz.results25) fun ts hn => ?_
  (repeat' (first
 | with_reducible refine callX.by (a6mc) ?_
 | with_reducible refine callX.by (a6sc) ?_
 | with_reducible refine callX.by (a6oc) ?_
 | with_reducible refine callX.fz (a6rc) ?_
 | with_reducible refine callX.by (missing_c _ ?_ ?_) ?_
 | with_reducible refine callX.by a6mc ?_
 | with_reducible refine callX.by (served_c _ ?_ ?_ ?_) ?_
 | with_reducible refine callX.by a6sc ?_
 | with_reducible refine callX.by (order_refs_c _ ?_) ?_
 | with_reducible refine callX.by a6oc ?_
 | with_reducible refine callX.by (reach_c _ ?_ ?_ ?_) ?_
 | with_reducible refine callX.by a6rc ?_
 | with_reducible assumption
 | (with_reducible refine NxK.out hK _ ?_; clear hK K)
 | with_reducible refine NxK.out (by assumption) _ ?_
 | with_reducible refine Nx.out (by assumption) ?_
 | with_reducible refine SpecC.seqW fun K hK => ?_
 | with_reducible refine SpecC.regW T fun K hK => ?_
 | with_reducible refine SpecC.condW fun A B hA hB => ?_
 | with_reducible refine SpecC.block ?_
 | with_reducible refine SpecC.skip ?_
 | with_reducible refine SpecC.label ?_
 | with_reducible refine SpecC.exit ?_
 | with_reducible refine SpecC.goto ?_
 | with_reducible refine SpecC.ret ?_
 | ((with_reducible first | refine condK.split (fun hb => ?_) (fun hb => ?_) | refine gK.split_t (fun hb => ?_) (fun hb => ?_) | refine gK.split_f (fun hb => ?_) (fun hb => ?_)) <;> try simp only [decide_not, ilt_t, ilt_f, ile_t, ile_f, nlt_t, nlt_f, nle_t, nle_f, Bool.not_eq_true', Bool.not_eq_false', Int.ofNat_lt, Int.ofNat_le] at hb)
 | simp only [go_sem, ↓reduceIte, reduceIte, Nat.reduceEqDiff, String.reduceEq, Nat.reduceLT, Nat.reduceLeDiff, Nat.reduceAdd, Nat.reduceMul, Nat.reduceSub, Nat.reduceBEq, reduceCtorEq, *, Int.toNat_zero, Int.le_refl, List.getD_cons_zero, z01, Nat.zero_lt_one]
 | with_reducible refine fun (bn : Bool) hbn => ?_))
theorem few_len {l : List Res} (h : fewAll l = true) : l.length ≤ 65536 := by
  simp only [fewAll, Bool.and_eq_true, decide_eq_true_eq] at h
  omega
set_option maxRecDepth 30000 in
set_option maxHeartbeats 8000000 in
theorem refsReach_c (xs : List Res) (hl : Small xs.length) (hs : ∀ r ∈ xs, SmRes r) : CallR Tryz.prog 6 [.slice false (avs xs)] (.val (.bool true)) := by
  by_cases hfa : fewAll xs = true
  rotate_left
  · have hfa : fewAll xs = false := by simpa using hfa
    refine CallR.go1 (T := T) Tryz.call6 Tryz.func6 rfl Tryz.ntmps6 (congrArg Array.toList Tryz.results6) (by decide) fun ts hn h0 => ?_
    (repeat' (first
 | with_reducible refine callX.by awake6_c ?_
 | with_reducible refine callX.by (few4_c _ ?_ ?_) ?_
 | with_reducible refine callX.by (tsane_c _ ?_ ?_) ?_
 | with_reducible refine callX.by (reach_c _ ?_ ?_ ?_) ?_
 | with_reducible refine callX.by a6rc ?_
 | with_reducible refine callX.by (rkey_c _ _ _ _ _ _ _) ?_
 | with_reducible refine callX.by (referrers_c _ _ _ ?_ ?_) ?_
 | with_reducible refine callX.by (all4_c _ _ ?_ ?_) ?_
 | with_reducible refine callX.by (served_c _ ?_ ?_ ?_) ?_
 | with_reducible refine callX.by a6sc ?_
 | with_reducible refine callX.by (orphans_c _ ?_ ?_ ?_) ?_
 | with_reducible refine callX.by (tkind_c _ _ ?_) ?_
 | with_reducible assumption
 | (with_reducible refine NxK.out hK _ ?_; clear hK K)
 | with_reducible refine NxK.out (by assumption) _ ?_
 | with_reducible refine Nx.out (by assumption) ?_
 | with_reducible refine SpecC.seqW fun K hK => ?_
 | with_reducible refine SpecC.regW T fun K hK => ?_
 | with_reducible refine SpecC.condW fun A B hA hB => ?_
 | with_reducible refine SpecC.block ?_
 | with_reducible refine SpecC.skip ?_
 | with_reducible refine SpecC.label ?_
 | with_reducible refine SpecC.exit ?_
 | with_reducible refine SpecC.goto ?_
 | with_reducible refine SpecC.ret ?_
 | ((with_reducible first | refine condK.split (fun hb => ?_) (fun hb => ?_) | refine gK.split_t (fun hb => ?_) (fun hb => ?_) | refine gK.split_f (fun hb => ?_) (fun hb => ?_)) <;> try simp only [decide_not, ilt_t, ilt_f, ile_t, ile_f, nlt_t, nlt_f, nle_t, nle_f, Bool.not_eq_true', Bool.not_eq_false', Int.ofNat_lt, Int.ofNat_le] at hb)
 | simp only [go_sem, ↓reduceIte, reduceIte, Nat.reduceEqDiff, String.reduceEq, Nat.reduceLT, Nat.reduceLeDiff, Nat.reduceAdd, Nat.reduceMul, Nat.reduceSub, Nat.reduceBEq, reduceCtorEq, *, -hs]
 | with_reducible refine fun (bn : Bool) hbn => ?_))
  by_cases hsn : tsane xs = 0
  rotate_left
  · refine CallR.go1 (T := T) Tryz.call6 Tryz.func6 rfl Tryz.ntmps6 (congrArg Array.toList Tryz.results6) (by decide) fun ts hn h0 => ?_
    (repeat' (first
 | with_reducible refine callX.by awake6_c ?_
 | with_reducible refine callX.by (few4_c _ ?_ ?_) ?_
 | with_reducible refine callX.by (tsane_c _ ?_ ?_) ?_
 | with_reducible refine callX.by (reach_c _ ?_ ?_ ?_) ?_
 | with_reducible refine callX.by a6rc ?_
 | with_reducible refine callX.by (rkey_c _ _ _ _ _ _ _) ?_
 | with_reducible refine callX.by (referrers_c _ _ _ ?_ ?_) ?_
 | with_reducible refine callX.by (all4_c _ _ ?_ ?_) ?_
 | with_reducible refine callX.by (served_c _ ?_ ?_ ?_) ?_
 | with_reducible refine callX.by a6sc ?_
 | with_reducible refine callX.by (orphans_c _ ?_ ?_ ?_) ?_
 | with_reducible refine callX.by (tkind_c _ _ ?_) ?_
 | with_reducible assumption
 | (with_reducible refine NxK.out hK _ ?_; clear hK K)
 | with_reducible refine NxK.out (by assumption) _ ?_
 | with_reducible refine Nx.out (by assumption) ?_
 | with_reducible refine SpecC.seqW fun K hK => ?_
 | with_reducible refine SpecC.regW T fun K hK => ?_
 | with_reducible refine SpecC.condW fun A B hA hB => ?_
 | with_reducible refine SpecC.block ?_
 | with_reducible refine SpecC.skip ?_
 | with_reducible refine SpecC.label ?_
 | with_reducible refine SpecC.exit ?_
 | with_reducible refine SpecC.goto ?_
 | with_reducible refine SpecC.ret ?_
 | ((with_reducible first | refine condK.split (fun hb => ?_) (fun hb => ?_) | refine gK.split_t (fun hb => ?_) (fun hb => ?_) | refine gK.split_f (fun hb => ?_) (fun hb => ?_)) <;> try simp only [decide_not, ilt_t, ilt_f, ile_t, ile_f, nlt_t, nlt_f, nle_t, nle_f, Bool.not_eq_true', Bool.not_eq_false', Int.ofNat_lt, Int.ofNat_le] at hb)
 | simp only [go_sem, ↓reduceIte, reduceIte, Nat.reduceEqDiff, String.reduceEq, Nat.reduceLT, Nat.reduceLeDiff, Nat.reduceAdd, Nat.reduceMul, Nat.reduceSub, Nat.reduceBEq, reduceCtorEq, *, -hs]
 | with_reducible refine fun (bn : Bool) hbn => ?_))
  have hl2 := few_len hfa
  have hc := conf_of hsn
  have hnd := hc.nodup
  have h1 := reach_reach hnd
  have h2 := served_reach hnd
  have h3 := orph_reach hnd
  have h4 := orph_len xs
  have h5 := kind0_reach hnd
  have h6 := fun r hr hk => reach_named (r := r) hnd hr hk
  have hr := reach_c xs hl2 hs hnd
  have hol := orphans_c xs hl2 hs hnd
  have hsv := served_c xs hl2 hs hnd
  have hkl := tkind_len xs 0
  have hsr : ∀ r ∈ reachR xs, SmRes r := fun r hr => hs r ((reachR_sub xs).subset hr)
  have hrl := reachR_len xs
  have hnr := nodup_sub hnd (reachR_sub xs)
  have hrr := reach_c (reachR xs) (by omega) hsr hnr
  have hor := orphans_c (reachR xs) (by omega) hsr hnr
  have hsr2 := served_c (reachR xs) (by omega) hsr hnr
  rw [h1] at hrr
  rw [h2] at hsr2
  rw [h3] at hor
  clear h1 h2 h3 hnr
  generalize reachR xs = R at *
  have hR2 : R.length ≤ 65536 := by omega
  have hRs : Small R.length := small_le hR2
  have hw : IntKind.i64.wrap (((orphans xs).length : Int) + (R.length : Int)) = (xs.length : Int) := by
    rw [show ((orphans xs).length : Int) + (R.length : Int) = ((xs.length : Nat) : Int) by omega]; exact IntWalk.i64_in _ (by unfold Small at hl; omega)
  refine CallR.go1 (T := T) Tryz.call6 Tryz.func6 rfl Tryz.ntmps6 (congrArg Array.toList Tryz.results6) (by decide) fun ts hn h0 => ?_
  (repeat' (first
 | with_reducible refine callX.by (hr) ?_
 | with_reducible refine callX.by awake6_c ?_
 | with_reducible refine callX.by (few4_c _ ?_ ?_) ?_
 | with_reducible refine callX.by (tsane_c _ ?_ ?_) ?_
 | with_reducible refine callX.by (reach_c _ ?_ ?_ ?_) ?_
 | with_reducible refine callX.by a6rc ?_
 | with_reducible refine callX.by (rkey_c _ _ _ _ _ _ _) ?_
 | with_reducible refine callX.by (referrers_c _ _ _ ?_ ?_) ?_
 | with_reducible refine callX.by (all4_c _ _ ?_ ?_) ?_
 | with_reducible refine callX.by (served_c _ ?_ ?_ ?_) ?_
 | with_reducible refine callX.by a6sc ?_
 | with_reducible refine callX.by (orphans_c _ ?_ ?_ ?_) ?_
 | with_reducible refine callX.by (tkind_c _ _ ?_) ?_
 | with_reducible assumption
 | (with_reducible refine NxK.out hK _ ?_; clear hK K)
 | with_reducible refine NxK.out (by assumption) _ ?_
 | with_reducible refine Nx.out (by assumption) ?_
 | with_reducible refine SpecC.seqW fun K hK => ?_
 | with_reducible refine SpecC.regW T fun K hK => ?_
 | with_reducible refine SpecC.condW fun A B hA hB => ?_
 | with_reducible refine SpecC.block ?_
 | with_reducible refine SpecC.skip ?_
 | with_reducible refine SpecC.label ?_
 | with_reducible refine SpecC.exit ?_
 | with_reducible refine SpecC.goto ?_
 | with_reducible refine SpecC.ret ?_
 | ((with_reducible first | refine condK.split (fun hb => ?_) (fun hb => ?_) | refine gK.split_t (fun hb => ?_) (fun hb => ?_) | refine gK.split_f (fun hb => ?_) (fun hb => ?_)) <;> try simp only [decide_not, ilt_t, ilt_f, ile_t, ile_f, nlt_t, nlt_f, nle_t, nle_f, Bool.not_eq_true', Bool.not_eq_false', Int.ofNat_lt, Int.ofNat_le] at hb)
 | simp only [go_sem, ↓reduceIte, reduceIte, Nat.reduceEqDiff, String.reduceEq, Nat.reduceLT, Nat.reduceLeDiff, Nat.reduceAdd, Nat.reduceMul, Nat.reduceSub, Nat.reduceBEq, reduceCtorEq, *, -hs, -hsr, -h6, -hr, -hol, -hsv, -hrr, -hor, -hsr2, -hnd, -h5]
 | with_reducible refine fun (bn : Bool) hbn => ?_))
  refine SpecC.ent (Ent.frz 4 (d := 17) (g := ts.gen 17 + 1) (len := R.length) (sz := 7) (xs := avs R) (by simp only [go_sem, ↓reduceIte, reduceIte, Nat.reduceEqDiff, String.reduceEq, Nat.reduceLT, Nat.reduceLeDiff, Nat.reduceAdd, Nat.reduceMul, Nat.reduceSub, Nat.reduceBEq, reduceCtorEq, *, -hs, -hsr, -h6, -hr, -hol, -hsv, -hrr, -hor, -hsr2, -hnd, -h5]; done) (by simp only [go_sem, ↓reduceIte, reduceIte, Nat.reduceEqDiff, String.reduceEq, Nat.reduceLT, Nat.reduceLeDiff, Nat.reduceAdd, Nat.reduceMul, Nat.reduceSub, Nat.reduceBEq, reduceCtorEq, *, -hs, -hsr, -h6, -hr, -hol, -hsv, -hrr, -hor, -hsr2, -hnd, -h5]; done) (by simp only [go_sem, ↓reduceIte, reduceIte, Nat.reduceEqDiff, String.reduceEq, Nat.reduceLT, Nat.reduceLeDiff, Nat.reduceAdd, Nat.reduceMul, Nat.reduceSub, Nat.reduceBEq, reduceCtorEq, *, -hs, -hsr, -h6, -hr, -hol, -hsv, -hrr, -hor, -hsr2, -hnd, -h5]; done) (by simp only [go_sem, ↓reduceIte, reduceIte, Nat.reduceEqDiff, String.reduceEq, Nat.reduceLT, Nat.reduceLeDiff, Nat.reduceAdd, Nat.reduceMul, Nat.reduceSub, Nat.reduceBEq, reduceCtorEq, *, -hs, -hsr, -h6, -hr, -hol, -hsv, -hrr, -hor, -hsr2, -hnd, -h5]; done)) ?_
  refine SpecC.loopF [0, 3, 4] (fun m ts' => ∃ (i : Nat), m = R.length - i ∧ i ≤ R.length ∧ ts'.tmp 5 = .int .i64 i) R.length ?_ ?_
  · refine ⟨0, rfl, Nat.zero_le _, ?_⟩
    simp only [go_sem, ↓reduceIte, reduceIte, Nat.reduceEqDiff, String.reduceEq, Nat.reduceLT, Nat.reduceLeDiff, Nat.reduceAdd, Nat.reduceMul, Nat.reduceSub, Nat.reduceBEq, reduceCtorEq, *, -hs, -hsr, -h6, -hr, -hol, -hsv, -hrr, -hor, -hsr2, -hnd, -h5]
  · rintro m A hM ts' hk ⟨i, hm, f1, s1⟩
    simp only [go_sem, ↓reduceIte, reduceIte, Nat.reduceEqDiff, String.reduceEq, Nat.reduceLT, Nat.reduceLeDiff, Nat.reduceAdd, Nat.reduceMul, Nat.reduceSub, Nat.reduceBEq, reduceCtorEq, *] at hk
    by_cases hlt : i < R.length
    · clear hr hol hsv hrr hor hsr2 h5 hw h4
      by_cases hk : R[i].kind = 0
      · (repeat' (first
 | with_reducible refine callX.by awake6_c ?_
 | with_reducible refine callX.by (few4_c _ ?_ ?_) ?_
 | with_reducible refine callX.by (tsane_c _ ?_ ?_) ?_
 | with_reducible refine callX.by (reach_c _ ?_ ?_ ?_) ?_
 | with_reducible refine callX.by a6rc ?_
 | with_reducible refine callX.by (rkey_c _ _ _ _ _ _ _) ?_
 | with_reducible refine callX.by (referrers_c _ _ _ ?_ ?_) ?_
 | with_reducible refine callX.by (all4_c _ _ ?_ ?_) ?_
 | with_reducible refine callX.by (served_c _ ?_ ?_ ?_) ?_
 | with_reducible refine callX.by a6sc ?_
 | with_reducible refine callX.by (orphans_c _ ?_ ?_ ?_) ?_
 | with_reducible refine callX.by (tkind_c _ _ ?_) ?_
 | with_reducible assumption
 | (with_reducible refine NxK.out hK _ ?_; clear hK K)
 | with_reducible refine NxK.out (by assumption) _ ?_
 | with_reducible refine Nx.out (by assumption) ?_
 | with_reducible refine SpecC.seqW fun K hK => ?_
 | with_reducible refine SpecC.regW T fun K hK => ?_
 | with_reducible refine SpecC.condW fun A B hA hB => ?_
 | with_reducible refine SpecC.block ?_
 | with_reducible refine SpecC.skip ?_
 | with_reducible refine SpecC.label ?_
 | with_reducible refine SpecC.exit ?_
 | with_reducible refine SpecC.goto ?_
 | with_reducible refine SpecC.ret ?_
 | ((with_reducible first | refine condK.split (fun hb => ?_) (fun hb => ?_) | refine gK.split_t (fun hb => ?_) (fun hb => ?_) | refine gK.split_f (fun hb => ?_) (fun hb => ?_)) <;> try simp only [decide_not, ilt_t, ilt_f, ile_t, ile_f, nlt_t, nlt_f, nle_t, nle_f, Bool.not_eq_true', Bool.not_eq_false', Int.ofNat_lt, Int.ofNat_le] at hb)
 | simp only [go_sem, ↓reduceIte, reduceIte, Nat.reduceEqDiff, String.reduceEq, Nat.reduceLT, Nat.reduceLeDiff, Nat.reduceAdd, Nat.reduceMul, Nat.reduceSub, Nat.reduceBEq, reduceCtorEq, *, -hs, -hsr, -h6, -hnd]
 | with_reducible refine fun (bn : Bool) hbn => ?_))
        all_goals ((repeat clear hK); (repeat clear hA); (repeat clear hB))
        (refine hM.on (R.length - (i + 1)) (by omega) (by simp only [go_sem, ↓reduceIte, reduceIte, Nat.reduceEqDiff, String.reduceEq, Nat.reduceLT, Nat.reduceLeDiff, Nat.reduceAdd, Nat.reduceMul, Nat.reduceSub, Nat.reduceBEq, reduceCtorEq, *, w64_nat hlt hRs, -hs, -hsr, -h6, -hnd]) ⟨i + 1, rfl, by omega, ?_⟩; simp only [go_sem, ↓reduceIte, reduceIte, Nat.reduceEqDiff, String.reduceEq, Nat.reduceLT, Nat.reduceLeDiff, Nat.reduceAdd, Nat.reduceMul, Nat.reduceSub, Nat.reduceBEq, reduceCtorEq, *, w64_nat hlt hRs, -hs, -hsr, -h6, -hnd]; done)
      · have hne : ¬ (referrers R ⟨R[i].kind, R[i].name⟩).length = 0 := by have := h6 R[i] (List.getElem_mem hlt) hk; simp only [keyOf] at this; omega
        clear h6
        (repeat' (first
 | with_reducible refine callX.by awake6_c ?_
 | with_reducible refine callX.by (few4_c _ ?_ ?_) ?_
 | with_reducible refine callX.by (tsane_c _ ?_ ?_) ?_
 | with_reducible refine callX.by (reach_c _ ?_ ?_ ?_) ?_
 | with_reducible refine callX.by a6rc ?_
 | with_reducible refine callX.by (rkey_c _ _ _ _ _ _ _) ?_
 | with_reducible refine callX.by (referrers_c _ _ _ ?_ ?_) ?_
 | with_reducible refine callX.by (all4_c _ _ ?_ ?_) ?_
 | with_reducible refine callX.by (served_c _ ?_ ?_ ?_) ?_
 | with_reducible refine callX.by a6sc ?_
 | with_reducible refine callX.by (orphans_c _ ?_ ?_ ?_) ?_
 | with_reducible refine callX.by (tkind_c _ _ ?_) ?_
 | with_reducible assumption
 | (with_reducible refine NxK.out hK _ ?_; clear hK K)
 | with_reducible refine NxK.out (by assumption) _ ?_
 | with_reducible refine Nx.out (by assumption) ?_
 | with_reducible refine SpecC.seqW fun K hK => ?_
 | with_reducible refine SpecC.regW T fun K hK => ?_
 | with_reducible refine SpecC.condW fun A B hA hB => ?_
 | with_reducible refine SpecC.block ?_
 | with_reducible refine SpecC.skip ?_
 | with_reducible refine SpecC.label ?_
 | with_reducible refine SpecC.exit ?_
 | with_reducible refine SpecC.goto ?_
 | with_reducible refine SpecC.ret ?_
 | ((with_reducible first | refine condK.split (fun hb => ?_) (fun hb => ?_) | refine gK.split_t (fun hb => ?_) (fun hb => ?_) | refine gK.split_f (fun hb => ?_) (fun hb => ?_)) <;> try simp only [decide_not, ilt_t, ilt_f, ile_t, ile_f, nlt_t, nlt_f, nle_t, nle_f, Bool.not_eq_true', Bool.not_eq_false', Int.ofNat_lt, Int.ofNat_le] at hb)
 | simp only [go_sem, ↓reduceIte, reduceIte, Nat.reduceEqDiff, String.reduceEq, Nat.reduceLT, Nat.reduceLeDiff, Nat.reduceAdd, Nat.reduceMul, Nat.reduceSub, Nat.reduceBEq, reduceCtorEq, *, -hs, -hsr, -hnd]
 | with_reducible refine fun (bn : Bool) hbn => ?_))
        all_goals ((repeat clear hK); (repeat clear hA); (repeat clear hB))
        (refine hM.on (R.length - (i + 1)) (by omega) (by simp only [go_sem, ↓reduceIte, reduceIte, Nat.reduceEqDiff, String.reduceEq, Nat.reduceLT, Nat.reduceLeDiff, Nat.reduceAdd, Nat.reduceMul, Nat.reduceSub, Nat.reduceBEq, reduceCtorEq, *, w64_nat hlt hRs, -hs, -hsr, -hnd]) ⟨i + 1, rfl, by omega, ?_⟩; simp only [go_sem, ↓reduceIte, reduceIte, Nat.reduceEqDiff, String.reduceEq, Nat.reduceLT, Nat.reduceLeDiff, Nat.reduceAdd, Nat.reduceMul, Nat.reduceSub, Nat.reduceBEq, reduceCtorEq, *, w64_nat hlt hRs, -hs, -hsr, -hnd]; done)
    · clear h6
      (repeat' (first
 | with_reducible refine callX.by (hrr) ?_
 | with_reducible refine callX.by (hsr2) ?_
 | with_reducible refine callX.by (hsv) ?_
 | with_reducible refine callX.by (hor) ?_
 | with_reducible refine callX.by (hol) ?_
 | with_reducible refine callX.by awake6_c ?_
 | with_reducible refine callX.by (few4_c _ ?_ ?_) ?_
 | with_reducible refine callX.by (tsane_c _ ?_ ?_) ?_
 | with_reducible refine callX.by (reach_c _ ?_ ?_ ?_) ?_
 | with_reducible refine callX.by a6rc ?_
 | with_reducible refine callX.by (rkey_c _ _ _ _ _ _ _) ?_
 | with_reducible refine callX.by (referrers_c _ _ _ ?_ ?_) ?_
 | with_reducible refine callX.by (all4_c _ _ ?_ ?_) ?_
 | with_reducible refine callX.by (served_c _ ?_ ?_ ?_) ?_
 | with_reducible refine callX.by a6sc ?_
 | with_reducible refine callX.by (orphans_c _ ?_ ?_ ?_) ?_
 | with_reducible refine callX.by (tkind_c _ _ ?_) ?_
 | with_reducible assumption
 | (with_reducible refine NxK.out hK _ ?_; clear hK K)
 | with_reducible refine NxK.out (by assumption) _ ?_
 | with_reducible refine Nx.out (by assumption) ?_
 | with_reducible refine SpecC.seqW fun K hK => ?_
 | with_reducible refine SpecC.regW T fun K hK => ?_
 | with_reducible refine SpecC.condW fun A B hA hB => ?_
 | with_reducible refine SpecC.block ?_
 | with_reducible refine SpecC.skip ?_
 | with_reducible refine SpecC.label ?_
 | with_reducible refine SpecC.exit ?_
 | with_reducible refine SpecC.goto ?_
 | with_reducible refine SpecC.ret ?_
 | ((with_reducible first | refine condK.split (fun hb => ?_) (fun hb => ?_) | refine gK.split_t (fun hb => ?_) (fun hb => ?_) | refine gK.split_f (fun hb => ?_) (fun hb => ?_)) <;> try simp only [decide_not, ilt_t, ilt_f, ile_t, ile_f, nlt_t, nlt_f, nle_t, nle_f, Bool.not_eq_true', Bool.not_eq_false', Int.ofNat_lt, Int.ofNat_le] at hb)
 | simp only [go_sem, ↓reduceIte, reduceIte, Nat.reduceEqDiff, String.reduceEq, Nat.reduceLT, Nat.reduceLeDiff, Nat.reduceAdd, Nat.reduceMul, Nat.reduceSub, Nat.reduceBEq, reduceCtorEq, *, -hs, -hsr, -hr, -hol, -hsv, -hrr, -hor, -hsr2, -hnd, -h5]
 | with_reducible refine fun (bn : Bool) hbn => ?_))
      all_goals ((repeat clear hK); (repeat clear hA); (repeat clear hB))
      all_goals (simp only [decide_eq_true_eq, decide_eq_decide]; omega)
end Go.Proofs.YtbmdbkgjgjggiaaGreatDoor.Lg
