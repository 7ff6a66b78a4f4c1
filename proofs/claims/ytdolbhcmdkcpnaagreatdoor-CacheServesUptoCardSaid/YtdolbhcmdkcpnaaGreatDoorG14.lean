/- Parts of the proof, one behind the other. -/
import Derived.Test.YtdolbhcmdkcpnaaGreatDoorG13
namespace Go.Proofs.YtdolbhcmdkcpnaaGreatDoor.Lg
set_option maxRecDepth 100000
set_option linter.unusedVariables false
set_option linter.unusedSimpArgs false
open Go
set_option maxRecDepth 30000 in
theorem and_c (a b c d e f g h : Bool) : CallR Tryz.prog 168 [.agg [.bool a, .bool b, .bool c, .bool d], .agg [.bool e, .bool f, .bool g, .bool h]] (.val (.agg [.bool (a && e), .bool (b && f), .bool (c && g), .bool (d && h)])) := by
  cases a <;> cases b <;> cases c <;> cases d
  all_goals
    refine CallR.go2 (T := T) Tryz.call168 Tryz.func168 rfl Tryz.ntmps168 (congrArg Array.toList Tryz.results168) (by decide) fun ts hn h0 h1 => ?_
    (repeat' (first
 | (with_reducible first | assumption | (refine NxK.out hK _ ?_; clear hK K) | refine NxK.out (by assumption) _ ?_ | refine Nx.out (by assumption) ?_ | refine SpecC.seqW fun K hK => ?_ | refine SpecC.regW T fun K hK => ?_ | refine SpecC.condW fun A B hA hB => ?_ | refine SpecC.block ?_ | refine SpecC.skip ?_ | refine SpecC.label ?_ | refine SpecC.exit ?_ | refine SpecC.goto ?_ | refine SpecC.ret ?_)
 | ((with_reducible first | refine condK.split (fun hb => ?_) (fun hb => ?_) | refine gK.split_t (fun hb => ?_) (fun hb => ?_) | refine gK.split_f (fun hb => ?_) (fun hb => ?_)) <;> try simp only [decide_not, ilt_t, ilt_f, ile_t, ile_f, nlt_t, nlt_f, nle_t, nle_f, Bool.not_eq_true', Bool.not_eq_false', Int.ofNat_lt, Int.ofNat_le] at hb)
 | simp only [go_sem, ↓reduceIte, reduceIte, Nat.reduceEqDiff, String.reduceEq, Nat.reduceLT, Nat.reduceLeDiff, Nat.reduceAdd, Nat.reduceMul, Nat.reduceSub, Nat.reduceBEq, reduceCtorEq, *]
 | with_reducible refine fun (bn : Bool) hbn => ?_))
theorem bx1 (a b : Bool) : decide ((!a && b) = !a) = (a || b) := by cases a <;> cases b <;> rfl
theorem bx2 (p b : Bool) : decide ((p && b) = p) = (!p || b) := by cases p <;> cases b <;> rfl
theorem bx3 (n : Nat) : (!decide ((0 : Int) < (n : Int))) = decide (n = 0) := by
  rw [Bool.eq_iff_iff]; simp only [Bool.not_eq_true', decide_eq_false_iff_not, decide_eq_true_eq]; omega
def shapedR (r : Res) : Bool := (decide (r.port = 0) || decide (r.kind = 0)) && ((decide (r.to' = []) || (decide (r.kind = 0) || decide (r.kind = 2))) && ((decide (r.rules'.length = 0) || decide (r.kind = 1)) && (decide (r.hosts.length = 0) || decide (r.kind = 3))))
set_option maxRecDepth 30000 in
theorem shaped_c (r_kind : Int) (r_name : List UInt8) (r_ver : Int) (r_port : Int) (r_to : List UInt8) (r_rules : List Rule) (r_hosts : List Int) : CallR Tryz.prog 132 [.agg [.int .i64 r_kind, .str r_name, .int .i64 r_ver, .int .i64 r_port, .str r_to, .slice false (avs r_rules), .slice false (avs r_hosts)]] (.val (.bool (shapedR (⟨r_kind, r_name, r_ver, r_port, r_to, r_rules, r_hosts⟩ : Res)))) := by
  refine CallR.go1 (T := T) Tryz.call132 Tryz.func132 rfl Tryz.ntmps132 (congrArg Array.toList Tryz.results132) (by decide) fun ts hn h0 => ?_
  (repeat' (first
 | (with_reducible first | refine callX.by (may_c _) ?_ | refine callX.by (and_c _ _ _ _ _ _ _ _) ?_ | assumption | (refine NxK.out hK _ ?_; clear hK K) | refine NxK.out (by assumption) _ ?_ | refine Nx.out (by assumption) ?_ | refine SpecC.seqW fun K hK => ?_ | refine SpecC.regW T fun K hK => ?_ | refine SpecC.drawW (id := 2) T mixed [([19], [20, 21, 22, 24]), ([20], [19, 23, 24]), ([21], [19, 24]), ([22], [19, 24]), ([23], [20, 24]), ([24], [19, 20, 21, 22, 23])] (by kernel_rfl) fun K hK => ?_ | refine SpecC.condW fun A B hA hB => ?_ | refine SpecC.block ?_ | refine SpecC.skip ?_ | refine SpecC.label ?_ | refine SpecC.exit ?_ | refine SpecC.goto ?_ | refine SpecC.ret ?_)
 | ((with_reducible first | refine condK.split (fun hb => ?_) (fun hb => ?_) | refine gK.split_t (fun hb => ?_) (fun hb => ?_) | refine gK.split_f (fun hb => ?_) (fun hb => ?_)) <;> try simp only [decide_not, ilt_t, ilt_f, ile_t, ile_f, nlt_t, nlt_f, nle_t, nle_f, Bool.not_eq_true', Bool.not_eq_false', Int.ofNat_lt, Int.ofNat_le] at hb)
 | simp only [go_sem, ↓reduceIte, reduceIte, Nat.reduceEqDiff, String.reduceEq, Nat.reduceLT, Nat.reduceLeDiff, Nat.reduceAdd, Nat.reduceMul, Nat.reduceSub, Nat.reduceBEq, reduceCtorEq, *]
 | with_reducible refine fun (bn : Bool) hbn => ?_))
  all_goals ((repeat clear hK); (repeat clear hA); (repeat clear hB))
  all_goals simp only [bx1, bx2, bx3, shapedR, Bool.not_not]
def smallRule (x : Rule) : Bool := decide (x.split.length ≤ 4) && !(x.split.any fun w => !wIn w.w 100)
def smallR (r : Res) : Bool := wIn r.ver 2147483647 && (wIn r.port 65535 && (decide (r.rules'.length ≤ 8) && (decide (r.hosts.length ≤ 8) && (r.hosts.all (fun h => wIn h 2147483647) && r.rules'.all smallRule))))
set_option maxRecDepth 30000 in
set_option maxHeartbeats 4000000 in
theorem small_c (r_kind : Int) (r_name : List UInt8) (r_ver : Int) (r_port : Int) (r_to : List UInt8) (r_rules : List Rule) (r_hosts : List Int) (hl : Small r_rules.length) (hh : Small r_hosts.length) (hs : ∀ x ∈ r_rules, SmRule x) : CallR Tryz.prog 131 [.agg [.int .i64 r_kind, .str r_name, .int .i64 r_ver, .int .i64 r_port, .str r_to, .slice false (avs r_rules), .slice false (avs r_hosts)]] (.val (.bool (smallR (⟨r_kind, r_name, r_ver, r_port, r_to, r_rules, r_hosts⟩ : Res)))) := by
  refine CallR.go1 (T := T) Tryz.call131 Tryz.func131 rfl Tryz.ntmps131 (congrArg Array.toList Tryz.results131) (by decide) fun ts hn h0 => ?_
  (repeat' (first
 | (with_reducible first | refine callX.by (wIn_c _ _) ?_ | refine callX.by (conFW_c _ _ ?_ _ _ ?_ ?_) ?_ | refine callX.by (small1_c _ _) ?_ | assumption | (refine NxK.out hK _ ?_; clear hK K) | refine NxK.out (by assumption) _ ?_ | refine Nx.out (by assumption) ?_ | refine SpecC.seqW fun K hK => ?_ | refine SpecC.regW T fun K hK => ?_ | refine SpecC.condW fun A B hA hB => ?_ | refine SpecC.block ?_ | refine SpecC.skip ?_ | refine SpecC.label ?_ | refine SpecC.exit ?_ | refine SpecC.goto ?_ | refine SpecC.ret ?_)
 | ((with_reducible first | refine condK.split (fun hb => ?_) (fun hb => ?_) | refine gK.split_t (fun hb => ?_) (fun hb => ?_) | refine gK.split_f (fun hb => ?_) (fun hb => ?_)) <;> try simp only [decide_not, ilt_t, ilt_f, ile_t, ile_f, nlt_t, nlt_f, nle_t, nle_f, Bool.not_eq_true', Bool.not_eq_false', Int.ofNat_lt, Int.ofNat_le] at hb)
 | simp only [go_sem, ↓reduceIte, reduceIte, Nat.reduceEqDiff, String.reduceEq, Nat.reduceLT, Nat.reduceLeDiff, Nat.reduceAdd, Nat.reduceMul, Nat.reduceSub, Nat.reduceBEq, reduceCtorEq, *, -hs]
 | with_reducible refine fun (bn : Bool) hbn => ?_))
  iterate 4 (focus (all_goals ((repeat clear hK); (repeat clear hA); (repeat clear hB)); clear hs; simp_all [smallR]; try omega))
  refine SpecC.loopF [1, 30, 31] (fun m ts' => ∃ (i : Nat), m = r_hosts.length - i ∧ i ≤ r_hosts.length ∧ r_hosts.all (fun h => wIn h 2147483647) = (r_hosts.drop i).all (fun h => wIn h 2147483647) ∧ ts'.tmp 32 = .int .i64 i) r_hosts.length ?_ ?_
  · refine ⟨0, ?_⟩
    simp only [go_sem, ↓reduceIte, reduceIte, Nat.reduceEqDiff, String.reduceEq, Nat.reduceLT, Nat.reduceLeDiff, Nat.reduceAdd, Nat.reduceMul, Nat.reduceSub, Nat.reduceBEq, reduceCtorEq, *, -hs]
  · rintro m A hM ts' hk ⟨i, hm, f1, f2, s1⟩
    simp only [go_sem, ↓reduceIte, reduceIte, Nat.reduceEqDiff, String.reduceEq, Nat.reduceLT, Nat.reduceLeDiff, Nat.reduceAdd, Nat.reduceMul, Nat.reduceSub, Nat.reduceBEq, reduceCtorEq, *] at hk
    by_cases hlt : i < r_hosts.length
    · rw [List.drop_eq_getElem_cons hlt, List.all_cons] at f2
      (repeat' (first
 | (with_reducible first | refine callX.by (wIn_c _ _) ?_ | refine callX.by (conFW_c _ _ ?_ _ _ ?_ ?_) ?_ | refine callX.by (small1_c _ _) ?_ | assumption | (refine NxK.out hK _ ?_; clear hK K) | refine NxK.out (by assumption) _ ?_ | refine Nx.out (by assumption) ?_ | refine SpecC.seqW fun K hK => ?_ | refine SpecC.regW T fun K hK => ?_ | refine SpecC.condW fun A B hA hB => ?_ | refine SpecC.block ?_ | refine SpecC.skip ?_ | refine SpecC.label ?_ | refine SpecC.exit ?_ | refine SpecC.goto ?_ | refine SpecC.ret ?_)
 | ((with_reducible first | refine condK.split (fun hb => ?_) (fun hb => ?_) | refine gK.split_t (fun hb => ?_) (fun hb => ?_) | refine gK.split_f (fun hb => ?_) (fun hb => ?_)) <;> try simp only [decide_not, ilt_t, ilt_f, ile_t, ile_f, nlt_t, nlt_f, nle_t, nle_f, Bool.not_eq_true', Bool.not_eq_false', Int.ofNat_lt, Int.ofNat_le] at hb)
 | simp only [go_sem, ↓reduceIte, reduceIte, Nat.reduceEqDiff, String.reduceEq, Nat.reduceLT, Nat.reduceLeDiff, Nat.reduceAdd, Nat.reduceMul, Nat.reduceSub, Nat.reduceBEq, reduceCtorEq, *, -hs, -f2]
 | with_reducible refine fun (bn : Bool) hbn => ?_))
      all_goals ((repeat clear hK); (repeat clear hA); (repeat clear hB))
      · clear hM hs; simp_all [smallR]
        intro hall
        obtain ⟨x, hx, e⟩ := f2
        rw [hall x hx] at e; cases e
      · (refine hM.on (r_hosts.length - (i + 1)) (by omega) (by simp only [go_sem, ↓reduceIte, reduceIte, Nat.reduceEqDiff, String.reduceEq, Nat.reduceLT, Nat.reduceLeDiff, Nat.reduceAdd, Nat.reduceMul, Nat.reduceSub, Nat.reduceBEq, reduceCtorEq, *, w64_nat hlt hh, -hs, -f2]) ⟨i + 1, rfl, by omega, by rw [f2, hb]; simp, ?_⟩; simp only [go_sem, ↓reduceIte, reduceIte, Nat.reduceEqDiff, String.reduceEq, Nat.reduceLT, Nat.reduceLeDiff, Nat.reduceAdd, Nat.reduceMul, Nat.reduceSub, Nat.reduceBEq, reduceCtorEq, *, w64_nat hlt hh, -hs, -f2]; done)
    · rw [List.drop_eq_nil_of_le (by omega), List.all_nil] at f2
      have hhost := f2
      clear f2 f1 hM
      (repeat' (first
 | (with_reducible first | refine callX.by (wIn_c _ _) ?_ | refine callX.by (conFW_c _ _ ?_ _ _ ?_ ?_) ?_ | refine callX.by (small1_c _ _) ?_ | assumption | (refine NxK.out hK _ ?_; clear hK K) | refine NxK.out (by assumption) _ ?_ | refine Nx.out (by assumption) ?_ | refine SpecC.seqW fun K hK => ?_ | refine SpecC.regW T fun K hK => ?_ | refine SpecC.condW fun A B hA hB => ?_ | refine SpecC.block ?_ | refine SpecC.skip ?_ | refine SpecC.label ?_ | refine SpecC.exit ?_ | refine SpecC.goto ?_ | refine SpecC.ret ?_)
 | ((with_reducible first | refine condK.split (fun hb => ?_) (fun hb => ?_) | refine gK.split_t (fun hb => ?_) (fun hb => ?_) | refine gK.split_f (fun hb => ?_) (fun hb => ?_)) <;> try simp only [decide_not, ilt_t, ilt_f, ile_t, ile_f, nlt_t, nlt_f, nle_t, nle_f, Bool.not_eq_true', Bool.not_eq_false', Int.ofNat_lt, Int.ofNat_le] at hb)
 | simp only [go_sem, ↓reduceIte, reduceIte, Nat.reduceEqDiff, String.reduceEq, Nat.reduceLT, Nat.reduceLeDiff, Nat.reduceAdd, Nat.reduceMul, Nat.reduceSub, Nat.reduceBEq, reduceCtorEq, *, -hs, -hhost]
 | with_reducible refine fun (bn : Bool) hbn => ?_))
      refine SpecC.loopF [41, 42] (fun m ts' => ∃ (i : Nat), m = r_rules.length - i ∧ i ≤ r_rules.length ∧ r_rules.all smallRule = (r_rules.drop i).all smallRule ∧ ts'.tmp 43 = .int .i64 i) r_rules.length ?_ ?_
      · refine ⟨0, ?_⟩
        simp only [go_sem, ↓reduceIte, reduceIte, Nat.reduceEqDiff, String.reduceEq, Nat.reduceLT, Nat.reduceLeDiff, Nat.reduceAdd, Nat.reduceMul, Nat.reduceSub, Nat.reduceBEq, reduceCtorEq, *, -hs, -hhost]
      · rintro m A hM ts' hk ⟨i, hm, f1, f2, s1⟩
        simp only [go_sem, ↓reduceIte, reduceIte, Nat.reduceEqDiff, String.reduceEq, Nat.reduceLT, Nat.reduceLeDiff, Nat.reduceAdd, Nat.reduceMul, Nat.reduceSub, Nat.reduceBEq, reduceCtorEq, *] at hk
        by_cases hlt : i < r_rules.length
        · rw [List.drop_eq_getElem_cons hlt, List.all_cons] at f2
          have hsi := hs _ (List.getElem_mem hlt)
          have h := conFW_c 167 [] Caps.nil (fun w => !wIn w.w 100) r_rules[i].split (fun w _ => small1_c w.cluster w.w) hsi.2.2.1
          (repeat' (first
 | (with_reducible first | refine callX.by (h) ?_ | refine callX.by (wIn_c _ _) ?_ | refine callX.by (conFW_c _ _ ?_ _ _ ?_ ?_) ?_ | refine callX.by (small1_c _ _) ?_ | assumption | (refine NxK.out hK _ ?_; clear hK K) | refine NxK.out (by assumption) _ ?_ | refine Nx.out (by assumption) ?_ | refine SpecC.seqW fun K hK => ?_ | refine SpecC.regW T fun K hK => ?_ | refine SpecC.condW fun A B hA hB => ?_ | refine SpecC.block ?_ | refine SpecC.skip ?_ | refine SpecC.label ?_ | refine SpecC.exit ?_ | refine SpecC.goto ?_ | refine SpecC.ret ?_)
 | ((with_reducible first | refine condK.split (fun hb => ?_) (fun hb => ?_) | refine gK.split_t (fun hb => ?_) (fun hb => ?_) | refine gK.split_f (fun hb => ?_) (fun hb => ?_)) <;> try simp only [decide_not, ilt_t, ilt_f, ile_t, ile_f, nlt_t, nlt_f, nle_t, nle_f, Bool.not_eq_true', Bool.not_eq_false', Int.ofNat_lt, Int.ofNat_le] at hb)
 | simp only [go_sem, ↓reduceIte, reduceIte, Nat.reduceEqDiff, String.reduceEq, Nat.reduceLT, Nat.reduceLeDiff, Nat.reduceAdd, Nat.reduceMul, Nat.reduceSub, Nat.reduceBEq, reduceCtorEq, *, -hs, -hhost, -f2, -hsi, -h]
 | with_reducible refine fun (bn : Bool) hbn => ?_))
          all_goals ((repeat clear hK); (repeat clear hA); (repeat clear hB))
          all_goals first
            | (refine hM.on (r_rules.length - (i + 1)) (by omega) (by simp only [go_sem, ↓reduceIte, reduceIte, Nat.reduceEqDiff, String.reduceEq, Nat.reduceLT, Nat.reduceLeDiff, Nat.reduceAdd, Nat.reduceMul, Nat.reduceSub, Nat.reduceBEq, reduceCtorEq, *, w64_nat hlt hl, -hs, -hhost, -f2, -hsi, -h]) ⟨i + 1, rfl, by omega, by clear h hM hs hsi; rw [f2]; simp_all [smallRule], ?_⟩; simp only [go_sem, ↓reduceIte, reduceIte, Nat.reduceEqDiff, String.reduceEq, Nat.reduceLT, Nat.reduceLeDiff, Nat.reduceAdd, Nat.reduceMul, Nat.reduceSub, Nat.reduceBEq, reduceCtorEq, *, w64_nat hlt hl, -hs, -hhost, -f2, -hsi, -h]; done)
            | (clear h hM hs hsi; simp_all [smallR, smallRule]; done)
            | (clear h hM hs hsi; simp_all [smallR, smallRule]; intros; omega)
            | trace_state
        · rw [List.drop_eq_nil_of_le (by omega), List.all_nil] at f2
          (repeat' (first
 | (with_reducible first | refine callX.by (wIn_c _ _) ?_ | refine callX.by (conFW_c _ _ ?_ _ _ ?_ ?_) ?_ | refine callX.by (small1_c _ _) ?_ | assumption | (refine NxK.out hK _ ?_; clear hK K) | refine NxK.out (by assumption) _ ?_ | refine Nx.out (by assumption) ?_ | refine SpecC.seqW fun K hK => ?_ | refine SpecC.regW T fun K hK => ?_ | refine SpecC.condW fun A B hA hB => ?_ | refine SpecC.block ?_ | refine SpecC.skip ?_ | refine SpecC.label ?_ | refine SpecC.exit ?_ | refine SpecC.goto ?_ | refine SpecC.ret ?_)
 | ((with_reducible first | refine condK.split (fun hb => ?_) (fun hb => ?_) | refine gK.split_t (fun hb => ?_) (fun hb => ?_) | refine gK.split_f (fun hb => ?_) (fun hb => ?_)) <;> try simp only [decide_not, ilt_t, ilt_f, ile_t, ile_f, nlt_t, nlt_f, nle_t, nle_f, Bool.not_eq_true', Bool.not_eq_false', Int.ofNat_lt, Int.ofNat_le] at hb)
 | simp only [go_sem, ↓reduceIte, reduceIte, Nat.reduceEqDiff, String.reduceEq, Nat.reduceLT, Nat.reduceLeDiff, Nat.reduceAdd, Nat.reduceMul, Nat.reduceSub, Nat.reduceBEq, reduceCtorEq, *, -hs, -hhost, -f2]
 | with_reducible refine fun (bn : Bool) hbn => ?_))
          all_goals ((repeat clear hK); (repeat clear hA); (repeat clear hB))
          all_goals (clear hM hs; simp_all [smallR]; try omega)
set_option maxRecDepth 30000 in
theorem idxI_c (xs : List Int) (v : Int) (hl : Small xs.length) : CallR Tryz.prog 201 [.slice false (avs xs), .int .i64 v] (.val (.int .i64 (idxF (fun y => decide (v = y)) xs 0))) := by
  refine CallR.go2 (T := T) Tryz.call201 Tryz.func201 rfl Tryz.ntmps201 (congrArg Array.toList Tryz.results201) (by decide) fun ts hn h0 h1 => ?_
  (repeat' (first
 | (with_reducible first | assumption | (refine NxK.out hK _ ?_; clear hK K) | refine NxK.out (by assumption) _ ?_ | refine Nx.out (by assumption) ?_ | refine SpecC.seqW fun K hK => ?_ | refine SpecC.regW T fun K hK => ?_ | refine SpecC.condW fun A B hA hB => ?_ | refine SpecC.block ?_ | refine SpecC.skip ?_ | refine SpecC.label ?_ | refine SpecC.exit ?_ | refine SpecC.goto ?_ | refine SpecC.ret ?_)
 | ((with_reducible first | refine condK.split (fun hb => ?_) (fun hb => ?_) | refine gK.split_t (fun hb => ?_) (fun hb => ?_) | refine gK.split_f (fun hb => ?_) (fun hb => ?_)) <;> try simp only [decide_not, ilt_t, ilt_f, ile_t, ile_f, nlt_t, nlt_f, nle_t, nle_f, Bool.not_eq_true', Bool.not_eq_false', Int.ofNat_lt, Int.ofNat_le] at hb)
 | simp only [go_sem, ↓reduceIte, reduceIte, Nat.reduceEqDiff, String.reduceEq, Nat.reduceLT, Nat.reduceLeDiff, Nat.reduceAdd, Nat.reduceMul, Nat.reduceSub, Nat.reduceBEq, reduceCtorEq, *]
 | with_reducible refine fun (bn : Bool) hbn => ?_))
  refine SpecC.loopF [0, 1, 7] (fun m ts' => ∃ (i : Nat), m = xs.length - i ∧ i ≤ xs.length ∧ idxF (fun y => decide (v = y)) xs 0 = idxF (fun y => decide (v = y)) (xs.drop i) i ∧ ts'.tmp 8 = .int .i64 i) xs.length ?_ ?_
  · refine ⟨0, ?_⟩
    simp only [go_sem, ↓reduceIte, reduceIte, Nat.reduceEqDiff, String.reduceEq, Nat.reduceLT, Nat.reduceLeDiff, Nat.reduceAdd, Nat.reduceMul, Nat.reduceSub, Nat.reduceBEq, reduceCtorEq, *]
  · rintro m A hM ts' hk ⟨i, hm, f1, f2, s1⟩
    simp only [go_sem, ↓reduceIte, reduceIte, Nat.reduceEqDiff, String.reduceEq, Nat.reduceLT, Nat.reduceLeDiff, Nat.reduceAdd, Nat.reduceMul, Nat.reduceSub, Nat.reduceBEq, reduceCtorEq, *] at hk
    by_cases hlt : i < xs.length
    · rw [List.drop_eq_getElem_cons hlt, idxF] at f2
      (repeat' (first
 | (with_reducible first | assumption | (refine NxK.out hK _ ?_; clear hK K) | refine NxK.out (by assumption) _ ?_ | refine Nx.out (by assumption) ?_ | refine SpecC.seqW fun K hK => ?_ | refine SpecC.regW T fun K hK => ?_ | refine SpecC.condW fun A B hA hB => ?_ | refine SpecC.block ?_ | refine SpecC.skip ?_ | refine SpecC.label ?_ | refine SpecC.exit ?_ | refine SpecC.goto ?_ | refine SpecC.ret ?_)
 | ((with_reducible first | refine condK.split (fun hb => ?_) (fun hb => ?_) | refine gK.split_t (fun hb => ?_) (fun hb => ?_) | refine gK.split_f (fun hb => ?_) (fun hb => ?_)) <;> try simp only [decide_not, ilt_t, ilt_f, ile_t, ile_f, nlt_t, nlt_f, nle_t, nle_f, Bool.not_eq_true', Bool.not_eq_false', Int.ofNat_lt, Int.ofNat_le] at hb)
 | simp only [go_sem, ↓reduceIte, reduceIte, Nat.reduceEqDiff, String.reduceEq, Nat.reduceLT, Nat.reduceLeDiff, Nat.reduceAdd, Nat.reduceMul, Nat.reduceSub, Nat.reduceBEq, reduceCtorEq, *]
 | with_reducible refine fun (bn : Bool) hbn => ?_))
      all_goals ((repeat clear hK); (repeat clear hA); (repeat clear hB))
      rw [if_neg (by simpa using hb)] at f2
      (refine hM.on (xs.length - (i + 1)) (by omega) (by simp only [go_sem, ↓reduceIte, reduceIte, Nat.reduceEqDiff, String.reduceEq, Nat.reduceLT, Nat.reduceLeDiff, Nat.reduceAdd, Nat.reduceMul, Nat.reduceSub, Nat.reduceBEq, reduceCtorEq, *, w64_nat hlt hl, -f2]) ⟨i + 1, rfl, by omega, f2, ?_⟩; simp only [go_sem, ↓reduceIte, reduceIte, Nat.reduceEqDiff, String.reduceEq, Nat.reduceLT, Nat.reduceLeDiff, Nat.reduceAdd, Nat.reduceMul, Nat.reduceSub, Nat.reduceBEq, reduceCtorEq, *, w64_nat hlt hl, -f2]; done)
    · rw [List.drop_eq_nil_of_le (by omega), idxF] at f2
      (repeat' (first
 | (with_reducible first | assumption | (refine NxK.out hK _ ?_; clear hK K) | refine NxK.out (by assumption) _ ?_ | refine Nx.out (by assumption) ?_ | refine SpecC.seqW fun K hK => ?_ | refine SpecC.regW T fun K hK => ?_ | refine SpecC.condW fun A B hA hB => ?_ | refine SpecC.block ?_ | refine SpecC.skip ?_ | refine SpecC.label ?_ | refine SpecC.exit ?_ | refine SpecC.goto ?_ | refine SpecC.ret ?_)
 | ((with_reducible first | refine condK.split (fun hb => ?_) (fun hb => ?_) | refine gK.split_t (fun hb => ?_) (fun hb => ?_) | refine gK.split_f (fun hb => ?_) (fun hb => ?_)) <;> try simp only [decide_not, ilt_t, ilt_f, ile_t, ile_f, nlt_t, nlt_f, nle_t, nle_f, Bool.not_eq_true', Bool.not_eq_false', Int.ofNat_lt, Int.ofNat_le] at hb)
 | simp only [go_sem, ↓reduceIte, reduceIte, Nat.reduceEqDiff, String.reduceEq, Nat.reduceLT, Nat.reduceLeDiff, Nat.reduceAdd, Nat.reduceMul, Nat.reduceSub, Nat.reduceBEq, reduceCtorEq, *]
 | with_reducible refine fun (bn : Bool) hbn => ?_))
set_option maxRecDepth 30000 in
theorem conI_c (xs : List Int) (v : Int) (hl : Small xs.length) : CallR Tryz.prog 175 [.slice false (avs xs), .int .i64 v] (.val (.bool (xs.any fun y => decide (v = y)))) := by
  have ha := idxF_any (fun y => decide (v = y)) xs
  refine CallR.go2 (T := T) Tryz.call175 Tryz.func175 rfl Tryz.ntmps175 (congrArg Array.toList Tryz.results175) (by decide) fun ts hn h0 h1 => ?_
  (repeat' (first
 | (with_reducible first | refine callX.by (idxI_c _ _ ?_) ?_ | assumption | (refine NxK.out hK _ ?_; clear hK K) | refine NxK.out (by assumption) _ ?_ | refine Nx.out (by assumption) ?_ | refine SpecC.seqW fun K hK => ?_ | refine SpecC.regW T fun K hK => ?_ | refine SpecC.condW fun A B hA hB => ?_ | refine SpecC.block ?_ | refine SpecC.skip ?_ | refine SpecC.label ?_ | refine SpecC.exit ?_ | refine SpecC.goto ?_ | refine SpecC.ret ?_)
 | ((with_reducible first | refine condK.split (fun hb => ?_) (fun hb => ?_) | refine gK.split_t (fun hb => ?_) (fun hb => ?_) | refine gK.split_f (fun hb => ?_) (fun hb => ?_)) <;> try simp only [decide_not, ilt_t, ilt_f, ile_t, ile_f, nlt_t, nlt_f, nle_t, nle_f, Bool.not_eq_true', Bool.not_eq_false', Int.ofNat_lt, Int.ofNat_le] at hb)
 | simp only [go_sem, ↓reduceIte, reduceIte, Nat.reduceEqDiff, String.reduceEq, Nat.reduceLT, Nat.reduceLeDiff, Nat.reduceAdd, Nat.reduceMul, Nat.reduceSub, Nat.reduceBEq, reduceCtorEq, *]
 | with_reducible refine fun (bn : Bool) hbn => ?_))
set_option maxRecDepth 30000 in
theorem single1_c (h p : List UInt8) (sp : List Weight) (y_host : List UInt8) (y_pfx : List UInt8) (y_split : List Weight) : CallR Tryz.prog 173 [.agg [.str y_host, .str y_pfx, .slice false (avs y_split)], .ro [.str h, .str p, .slice false (avs sp)]] (.val (.bool (decide (h = y_host) && decide (p = y_pfx)))) := by
  refine CallR.go2 (T := T) Tryz.call173 Tryz.func173 rfl Tryz.ntmps173 (congrArg Array.toList Tryz.results173) (by decide) fun ts hn h0 h1 => ?_
  (repeat' (first
 | (with_reducible first | assumption | (refine NxK.out hK _ ?_; clear hK K) | refine NxK.out (by assumption) _ ?_ | refine Nx.out (by assumption) ?_ | refine SpecC.seqW fun K hK => ?_ | refine SpecC.regW T fun K hK => ?_ | refine SpecC.condW fun A B hA hB => ?_ | refine SpecC.block ?_ | refine SpecC.skip ?_ | refine SpecC.label ?_ | refine SpecC.exit ?_ | refine SpecC.goto ?_ | refine SpecC.ret ?_)
 | ((with_reducible first | refine condK.split (fun hb => ?_) (fun hb => ?_) | refine gK.split_t (fun hb => ?_) (fun hb => ?_) | refine gK.split_f (fun hb => ?_) (fun hb => ?_)) <;> try simp only [decide_not, ilt_t, ilt_f, ile_t, ile_f, nlt_t, nlt_f, nle_t, nle_f, Bool.not_eq_true', Bool.not_eq_false', Int.ofNat_lt, Int.ofNat_le] at hb)
 | simp only [go_sem, ↓reduceIte, reduceIte, Nat.reduceEqDiff, String.reduceEq, Nat.reduceLT, Nat.reduceLeDiff, Nat.reduceAdd, Nat.reduceMul, Nat.reduceSub, Nat.reduceBEq, reduceCtorEq, *]
 | with_reducible refine fun (bn : Bool) hbn => ?_))
  all_goals ((repeat clear hK); (repeat clear hA); (repeat clear hB))
  all_goals simp_all
def dupR (x y : Rule) : Bool := decide (x.host = y.host) && decide (x.pfx = y.pfx)
def sngR : List Rule → List Rule → Bool
  | _, [] => true
  | p, x :: r => weighsR x && (!(p.any (dupR x)) && sngR (p ++ [x]) r)
def sngH : List Int → List Int → Bool
  | _, [] => true
  | p, h :: r => !(p.any fun y => decide (h = y)) && sngH (p ++ [h]) r
def singleR (r : Res) : Bool := sngR [] r.rules' && sngH [] r.hosts
theorem take_snoc {α : Type} {l : List α} {i : Nat} (h : i < l.length) : l.take i ++ [l[i]] = l.take (i + 1) := (List.take_succ_eq_append_getElem h).symm
theorem caps_ro (h p : List UInt8) (sp : List Weight) : Caps [.ro [.str h, .str p, .slice false (avs sp)]] := ⟨by simp only [go_sem, Bool.and_self], by simp only [go_sem]⟩
set_option maxRecDepth 30000 in
set_option maxHeartbeats 4000000 in
theorem single_c (r_kind : Int) (r_name : List UInt8) (r_ver : Int) (r_port : Int) (r_to : List UInt8) (r_rules : List Rule) (r_hosts : List Int) (hl : Small r_rules.length) (hh : Small r_hosts.length) (hs : ∀ x ∈ r_rules, SmRule x) : CallR Tryz.prog 134 [.agg [.int .i64 r_kind, .str r_name, .int .i64 r_ver, .int .i64 r_port, .str r_to, .slice false (avs r_rules), .slice false (avs r_hosts)]] (.val (.bool (singleR (⟨r_kind, r_name, r_ver, r_port, r_to, r_rules, r_hosts⟩ : Res)))) := by
  refine CallR.go1 (T := T) Tryz.call134 Tryz.func134 rfl Tryz.ntmps134 (congrArg Array.toList Tryz.results134) (by decide) fun ts hn h0 => ?_
  (repeat' (first
 | (with_reducible first | refine callX.by (weighs_c _ _ _ ?_) ?_ | refine callX.by (conFR_c _ _ ?_ _ _ ?_ ?_) ?_ | refine callX.by (conI_c _ _ ?_) ?_ | assumption | (refine NxK.out hK _ ?_; clear hK K) | refine NxK.out (by assumption) _ ?_ | refine Nx.out (by assumption) ?_ | refine SpecC.seqW fun K hK => ?_ | refine SpecC.regW T fun K hK => ?_ | refine SpecC.condW fun A B hA hB => ?_ | refine SpecC.block ?_ | refine SpecC.skip ?_ | refine SpecC.label ?_ | refine SpecC.exit ?_ | refine SpecC.goto ?_ | refine SpecC.ret ?_)
 | ((with_reducible first | refine condK.split (fun hb => ?_) (fun hb => ?_) | refine gK.split_t (fun hb => ?_) (fun hb => ?_) | refine gK.split_f (fun hb => ?_) (fun hb => ?_)) <;> try simp only [decide_not, ilt_t, ilt_f, ile_t, ile_f, nlt_t, nlt_f, nle_t, nle_f, Bool.not_eq_true', Bool.not_eq_false', Int.ofNat_lt, Int.ofNat_le] at hb)
 | simp only [go_sem, ↓reduceIte, reduceIte, Nat.reduceEqDiff, String.reduceEq, Nat.reduceLT, Nat.reduceLeDiff, Nat.reduceAdd, Nat.reduceMul, Nat.reduceSub, Nat.reduceBEq, reduceCtorEq, *, -hs]
 | with_reducible refine fun (bn : Bool) hbn => ?_))
  refine SpecC.loopF [1, 9, 10] (fun m ts' => ∃ (i : Nat), m = r_rules.length - i ∧ i ≤ r_rules.length ∧ sngR [] r_rules = sngR (r_rules.take i) (r_rules.drop i) ∧ ts'.tmp 11 = .int .i64 i) r_rules.length ?_ ?_
  · refine ⟨0, ?_⟩
    simp only [go_sem, ↓reduceIte, reduceIte, Nat.reduceEqDiff, String.reduceEq, Nat.reduceLT, Nat.reduceLeDiff, Nat.reduceAdd, Nat.reduceMul, Nat.reduceSub, Nat.reduceBEq, reduceCtorEq, *, -hs]
  · rintro m A hM ts' hk ⟨i, hm, f1, f2, s1⟩
    simp only [go_sem, ↓reduceIte, reduceIte, Nat.reduceEqDiff, String.reduceEq, Nat.reduceLT, Nat.reduceLeDiff, Nat.reduceAdd, Nat.reduceMul, Nat.reduceSub, Nat.reduceBEq, reduceCtorEq, *] at hk
    by_cases hlt : i < r_rules.length
    · rw [List.drop_eq_getElem_cons hlt, sngR] at f2
      have hsi := hs _ (List.getElem_mem hlt)
      have hsl := hsi.2.2.1
      have hti : Small (r_rules.take i).length := by unfold Small at *; rw [List.length_take]; omega
      have h := conFR_c 173 [.ro [.str r_rules[i].host, .str r_rules[i].pfx, .slice false (avs r_rules[i].split)]] (caps_ro _ _ _) (dupR r_rules[i]) (r_rules.take i) (fun y _ => single1_c _ _ _ y.host y.pfx y.split) hti
      (repeat' (first
 | (with_reducible first | refine callX.by (h) ?_ | refine callX.by (weighs_c _ _ _ ?_) ?_ | refine callX.by (conFR_c _ _ ?_ _ _ ?_ ?_) ?_ | refine callX.by (conI_c _ _ ?_) ?_ | assumption | (refine NxK.out hK _ ?_; clear hK K) | refine NxK.out (by assumption) _ ?_ | refine Nx.out (by assumption) ?_ | refine SpecC.seqW fun K hK => ?_ | refine SpecC.regW T fun K hK => ?_ | refine SpecC.condW fun A B hA hB => ?_ | refine SpecC.block ?_ | refine SpecC.skip ?_ | refine SpecC.label ?_ | refine SpecC.exit ?_ | refine SpecC.goto ?_ | refine SpecC.ret ?_)
 | ((with_reducible first | refine condK.split (fun hb => ?_) (fun hb => ?_) | refine gK.split_t (fun hb => ?_) (fun hb => ?_) | refine gK.split_f (fun hb => ?_) (fun hb => ?_)) <;> try simp only [decide_not, ilt_t, ilt_f, ile_t, ile_f, nlt_t, nlt_f, nle_t, nle_f, Bool.not_eq_true', Bool.not_eq_false', Int.ofNat_lt, Int.ofNat_le] at hb)
 | simp only [go_sem, ↓reduceIte, reduceIte, Nat.reduceEqDiff, String.reduceEq, Nat.reduceLT, Nat.reduceLeDiff, Nat.reduceAdd, Nat.reduceMul, Nat.reduceSub, Nat.reduceBEq, reduceCtorEq, *, -hs, -f2, -hsi, -h, Int.le_refl, Int.toNat_zero]
 | with_reducible refine fun (bn : Bool) hbn => ?_))
      all_goals ((repeat clear hK); (repeat clear hA); (repeat clear hB))
      all_goals first
        | (refine hM.on (r_rules.length - (i + 1)) (by omega) (by simp only [go_sem, ↓reduceIte, reduceIte, Nat.reduceEqDiff, String.reduceEq, Nat.reduceLT, Nat.reduceLeDiff, Nat.reduceAdd, Nat.reduceMul, Nat.reduceSub, Nat.reduceBEq, reduceCtorEq, *, w64_nat hlt hl, -hs, -f2, -hsi, -h]) ⟨i + 1, rfl, by omega, by clear h hM hs hsi; rw [f2, ← take_snoc hlt]; simp_all, ?_⟩; simp only [go_sem, ↓reduceIte, reduceIte, Nat.reduceEqDiff, String.reduceEq, Nat.reduceLT, Nat.reduceLeDiff, Nat.reduceAdd, Nat.reduceMul, Nat.reduceSub, Nat.reduceBEq, reduceCtorEq, *, w64_nat hlt hl, -hs, -f2, -hsi, -h]; done)
        | (clear h hM hs hsi; simp_all [singleR]; done)
        | trace_state
    · rw [List.drop_eq_nil_of_le (by omega), sngR] at f2
      have hr1 := f2
      clear f2 f1 hM
      (repeat' (first
 | (with_reducible first | refine callX.by (weighs_c _ _ _ ?_) ?_ | refine callX.by (conFR_c _ _ ?_ _ _ ?_ ?_) ?_ | refine callX.by (conI_c _ _ ?_) ?_ | assumption | (refine NxK.out hK _ ?_; clear hK K) | refine NxK.out (by assumption) _ ?_ | refine Nx.out (by assumption) ?_ | refine SpecC.seqW fun K hK => ?_ | refine SpecC.regW T fun K hK => ?_ | refine SpecC.condW fun A B hA hB => ?_ | refine SpecC.block ?_ | refine SpecC.skip ?_ | refine SpecC.label ?_ | refine SpecC.exit ?_ | refine SpecC.goto ?_ | refine SpecC.ret ?_)
 | ((with_reducible first | refine condK.split (fun hb => ?_) (fun hb => ?_) | refine gK.split_t (fun hb => ?_) (fun hb => ?_) | refine gK.split_f (fun hb => ?_) (fun hb => ?_)) <;> try simp only [decide_not, ilt_t, ilt_f, ile_t, ile_f, nlt_t, nlt_f, nle_t, nle_f, Bool.not_eq_true', Bool.not_eq_false', Int.ofNat_lt, Int.ofNat_le] at hb)
 | simp only [go_sem, ↓reduceIte, reduceIte, Nat.reduceEqDiff, String.reduceEq, Nat.reduceLT, Nat.reduceLeDiff, Nat.reduceAdd, Nat.reduceMul, Nat.reduceSub, Nat.reduceBEq, reduceCtorEq, *, -hs, -hr1]
 | with_reducible refine fun (bn : Bool) hbn => ?_))
      refine SpecC.loopF [1, 30, 31] (fun m ts' => ∃ (i : Nat), m = r_hosts.length - i ∧ i ≤ r_hosts.length ∧ sngH [] r_hosts = sngH (r_hosts.take i) (r_hosts.drop i) ∧ ts'.tmp 32 = .int .i64 i) r_hosts.length ?_ ?_
      · refine ⟨0, ?_⟩
        simp only [go_sem, ↓reduceIte, reduceIte, Nat.reduceEqDiff, String.reduceEq, Nat.reduceLT, Nat.reduceLeDiff, Nat.reduceAdd, Nat.reduceMul, Nat.reduceSub, Nat.reduceBEq, reduceCtorEq, *, -hs, -hr1]
      · rintro m A hM ts' hk ⟨i, hm, f1, f2, s1⟩
        simp only [go_sem, ↓reduceIte, reduceIte, Nat.reduceEqDiff, String.reduceEq, Nat.reduceLT, Nat.reduceLeDiff, Nat.reduceAdd, Nat.reduceMul, Nat.reduceSub, Nat.reduceBEq, reduceCtorEq, *] at hk
        by_cases hlt : i < r_hosts.length
        · rw [List.drop_eq_getElem_cons hlt, sngH] at f2
          have hti : Small (r_hosts.take i).length := by unfold Small at *; rw [List.length_take]; omega
          (repeat' (first
 | (with_reducible first | refine callX.by (weighs_c _ _ _ ?_) ?_ | refine callX.by (conFR_c _ _ ?_ _ _ ?_ ?_) ?_ | refine callX.by (conI_c _ _ ?_) ?_ | assumption | (refine NxK.out hK _ ?_; clear hK K) | refine NxK.out (by assumption) _ ?_ | refine Nx.out (by assumption) ?_ | refine SpecC.seqW fun K hK => ?_ | refine SpecC.regW T fun K hK => ?_ | refine SpecC.condW fun A B hA hB => ?_ | refine SpecC.block ?_ | refine SpecC.skip ?_ | refine SpecC.label ?_ | refine SpecC.exit ?_ | refine SpecC.goto ?_ | refine SpecC.ret ?_)
 | ((with_reducible first | refine condK.split (fun hb => ?_) (fun hb => ?_) | refine gK.split_t (fun hb => ?_) (fun hb => ?_) | refine gK.split_f (fun hb => ?_) (fun hb => ?_)) <;> try simp only [decide_not, ilt_t, ilt_f, ile_t, ile_f, nlt_t, nlt_f, nle_t, nle_f, Bool.not_eq_true', Bool.not_eq_false', Int.ofNat_lt, Int.ofNat_le] at hb)
 | simp only [go_sem, ↓reduceIte, reduceIte, Nat.reduceEqDiff, String.reduceEq, Nat.reduceLT, Nat.reduceLeDiff, Nat.reduceAdd, Nat.reduceMul, Nat.reduceSub, Nat.reduceBEq, reduceCtorEq, *, -hs, -f2, -hr1, Int.le_refl, Int.toNat_zero]
 | with_reducible refine fun (bn : Bool) hbn => ?_))
          all_goals ((repeat clear hK); (repeat clear hA); (repeat clear hB))
          all_goals first
            | (refine hM.on (r_hosts.length - (i + 1)) (by omega) (by simp only [go_sem, ↓reduceIte, reduceIte, Nat.reduceEqDiff, String.reduceEq, Nat.reduceLT, Nat.reduceLeDiff, Nat.reduceAdd, Nat.reduceMul, Nat.reduceSub, Nat.reduceBEq, reduceCtorEq, *, w64_nat hlt hh, -hs, -f2, -hr1]) ⟨i + 1, rfl, by omega, by clear hM hs; rw [f2, ← take_snoc hlt]; simp_all, ?_⟩; simp only [go_sem, ↓reduceIte, reduceIte, Nat.reduceEqDiff, String.reduceEq, Nat.reduceLT, Nat.reduceLeDiff, Nat.reduceAdd, Nat.reduceMul, Nat.reduceSub, Nat.reduceBEq, reduceCtorEq, *, w64_nat hlt hh, -hs, -f2, -hr1]; done)
            | (clear hM hs; simp_all [singleR]; done)
            | trace_state
        · rw [List.drop_eq_nil_of_le (by omega), sngH] at f2
          (repeat' (first
 | (with_reducible first | refine callX.by (weighs_c _ _ _ ?_) ?_ | refine callX.by (conFR_c _ _ ?_ _ _ ?_ ?_) ?_ | refine callX.by (conI_c _ _ ?_) ?_ | assumption | (refine NxK.out hK _ ?_; clear hK K) | refine NxK.out (by assumption) _ ?_ | refine Nx.out (by assumption) ?_ | refine SpecC.seqW fun K hK => ?_ | refine SpecC.regW T fun K hK => ?_ | refine SpecC.condW fun A B hA hB => ?_ | refine SpecC.block ?_ | refine SpecC.skip ?_ | refine SpecC.label ?_ | refine SpecC.exit ?_ | refine SpecC.goto ?_ | refine SpecC.ret ?_)
 | ((with_reducible first | refine condK.split (fun hb => ?_) (fun hb => ?_) | refine gK.split_t (fun hb => ?_) (fun hb => ?_) | refine gK.split_f (fun hb => ?_) (fun hb => ?_)) <;> try simp only [decide_not, ilt_t, ilt_f, ile_t, ile_f, nlt_t, nlt_f, nle_t, nle_f, Bool.not_eq_true', Bool.not_eq_false', Int.ofNat_lt, Int.ofNat_le] at hb)
 | simp only [go_sem, ↓reduceIte, reduceIte, Nat.reduceEqDiff, String.reduceEq, Nat.reduceLT, Nat.reduceLeDiff, Nat.reduceAdd, Nat.reduceMul, Nat.reduceSub, Nat.reduceBEq, reduceCtorEq, *, -hs, -f2, -hr1]
 | with_reducible refine fun (bn : Bool) hbn => ?_))
          all_goals ((repeat clear hK); (repeat clear hA); (repeat clear hB))
          all_goals (clear hM hs; simp_all [singleR])
def saneR (r : Res) : Int := if wIn r.kind 3 = false then 4 else if nmOk r.name = false then 5 else if smallR r = false then 3 else if shapedR r = false then 2 else if namedR r = false then 5 else if singleR r = false then 2 else 0
set_option maxRecDepth 30000 in
theorem saneR_c (r_kind : Int) (r_name : List UInt8) (r_ver : Int) (r_port : Int) (r_to : List UInt8) (r_rules : List Rule) (r_hosts : List Int) (hl : Small r_rules.length) (hh : Small r_hosts.length) (hs : ∀ x ∈ r_rules, SmRule x) : CallR Tryz.prog 86 [.agg [.int .i64 r_kind, .str r_name, .int .i64 r_ver, .int .i64 r_port, .str r_to, .slice false (avs r_rules), .slice false (avs r_hosts)]] (.val (.int .i64 (saneR (⟨r_kind, r_name, r_ver, r_port, r_to, r_rules, r_hosts⟩ : Res)))) := by
  refine CallR.go1 (T := T) Tryz.call86 Tryz.func86 rfl Tryz.ntmps86 (congrArg Array.toList Tryz.results86) (by decide) fun ts hn h0 => ?_
  (repeat' (first
 | (with_reducible first | refine callX.by (wIn_c _ _) ?_ | refine callX.by (nmOk_c _) ?_ | refine callX.by (small_c _ _ _ _ _ _ _ ?_ ?_ ?_) ?_ | refine callX.by (shaped_c _ _ _ _ _ _ _) ?_ | refine callX.by (named_c _ _ _ _ _ _ _ ?_ ?_) ?_ | refine callX.by (single_c _ _ _ _ _ _ _ ?_ ?_ ?_) ?_ | assumption | (refine NxK.out hK _ ?_; clear hK K) | refine NxK.out (by assumption) _ ?_ | refine Nx.out (by assumption) ?_ | refine SpecC.seqW fun K hK => ?_ | refine SpecC.regW T fun K hK => ?_ | refine SpecC.condW fun A B hA hB => ?_ | refine SpecC.block ?_ | refine SpecC.skip ?_ | refine SpecC.label ?_ | refine SpecC.exit ?_ | refine SpecC.goto ?_ | refine SpecC.ret ?_)
 | ((with_reducible first | refine condK.split (fun hb => ?_) (fun hb => ?_) | refine gK.split_t (fun hb => ?_) (fun hb => ?_) | refine gK.split_f (fun hb => ?_) (fun hb => ?_)) <;> try simp only [decide_not, ilt_t, ilt_f, ile_t, ile_f, nlt_t, nlt_f, nle_t, nle_f, Bool.not_eq_true', Bool.not_eq_false', Int.ofNat_lt, Int.ofNat_le] at hb)
 | simp only [go_sem, ↓reduceIte, reduceIte, Nat.reduceEqDiff, String.reduceEq, Nat.reduceLT, Nat.reduceLeDiff, Nat.reduceAdd, Nat.reduceMul, Nat.reduceSub, Nat.reduceBEq, reduceCtorEq, *, -hs]
 | with_reducible refine fun (bn : Bool) hbn => ?_))
  all_goals ((repeat clear hK); (repeat clear hA); (repeat clear hB))
  all_goals first | assumption | (clear hs; simp_all [saneR])
end Go.Proofs.YtdolbhcmdkcpnaaGreatDoor.Lg
