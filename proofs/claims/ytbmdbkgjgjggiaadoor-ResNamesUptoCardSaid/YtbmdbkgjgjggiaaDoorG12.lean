/- Parts of the proof, one behind the other. -/
import Derived.Test.YtbmdbkgjgjggiaaDoorG11
namespace Go.Proofs.YtbmdbkgjgjggiaaDoor.Lg
set_option maxRecDepth 100000
set_option linter.unusedVariables false
set_option linter.unusedSimpArgs false
open Go
def wS (s : List UInt8) : List Weight → Int → Int
  | [], w => w
  | y :: l, w => wS s l (if y.cluster = s then max w y.w else w)
def wR (s : List UInt8) : List Rule → Int → Int
  | [], w => w
  | z :: l, w => wR s l (wS s z.split w)
theorem wS_pos (s : List UInt8) : ∀ (l : List Weight) (w : Int), 0 < wS s l w ↔ 0 < w ∨ ∃ y ∈ l, y.cluster = s ∧ 0 < y.w
  | [], w => by simp [wS]
  | y :: l, w => by
    rw [wS, wS_pos s l]
    by_cases h : y.cluster = s
    · rw [if_pos h]
      simp only [List.exists_mem_cons, List.mem_cons]
      constructor
      · rintro (h1 | ⟨x, hx, h2⟩)
        · by_cases h0 : 0 < w
          · exact .inl h0
          · exact .inr ⟨y, .inl rfl, h, by omega⟩
        · exact .inr ⟨x, .inr hx, h2⟩
      · rintro (h1 | ⟨x, rfl | hx, h2⟩)
        · exact .inl (by omega)
        · exact .inl (by omega)
        · exact .inr ⟨x, hx, h2⟩
    · rw [if_neg h]
      simp only [List.mem_cons]
      constructor
      · rintro (h1 | ⟨x, hx, h2⟩)
        · exact .inl h1
        · exact .inr ⟨x, .inr hx, h2⟩
      · rintro (h1 | ⟨x, rfl | hx, h2⟩)
        · exact .inl h1
        · exact absurd h2.1 h
        · exact .inr ⟨x, hx, h2⟩
theorem wR_pos (s : List UInt8) : ∀ (l : List Rule) (w : Int), 0 < wR s l w ↔ 0 < w ∨ ∃ z ∈ l, ∃ y ∈ z.split, y.cluster = s ∧ 0 < y.w
  | [], w => by simp [wR]
  | z :: l, w => by
    rw [wR, wR_pos s l, wS_pos]
    simp only [List.mem_cons]
    constructor
    · rintro ((h1 | h1) | ⟨x, hx, h2⟩)
      · exact .inl h1
      · exact .inr ⟨z, .inl rfl, h1⟩
      · exact .inr ⟨x, .inr hx, h2⟩
    · rintro (h1 | ⟨x, rfl | hx, h2⟩)
      · exact .inl (.inl h1)
      · exact .inl (.inr h2)
      · exact .inr ⟨x, hx, h2⟩
set_option maxRecDepth 30000 in
set_option maxHeartbeats 8000000 in
theorem rnames_law_c (r_kind : Int) (r_name : List UInt8) (r_ver : Int) (r_port : Int) (r_to : List UInt8) (r_rules : List Rule) (r_hosts : List Int) (s : List UInt8) (hh : Small r_hosts.length) (hl : Small r_rules.length) (hs : ∀ x ∈ r_rules, SmRule x) : CallR Tryd.prog 3 [.agg [.int .i64 r_kind, .str r_name, .int .i64 r_ver, .int .i64 r_port, .str r_to, .slice false (avs r_rules), .slice false (avs r_hosts)], .str s] (.val (.bool true)) := by
  by_cases hfa : fewRes (⟨r_kind, r_name, r_ver, r_port, r_to, r_rules, r_hosts⟩ : Res) = true
  rotate_left
  · refine CallR.go2 (T := T) Tryd.call3 Tryd.func3 rfl Tryd.ntmps3 (congrArg Array.toList Tryd.results3) (by decide) fun ts hn h0 h1 => ?_
    (repeat' (first
 | with_reducible refine callX.by awake3_c ?_
 | with_reducible refine callX.by (fewRes_c _ _ _ _ _ _ _ ?_) ?_
 | with_reducible refine callX.by (saneR_c _ _ _ _ _ _ _ ?_ ?_ ?_) ?_
 | with_reducible refine callX.by awqs ?_
 | with_reducible refine callX.by (refsR_c _ _ _ _ _ _ _ ?_ ?_ ?_) ?_
 | with_reducible refine callX.by awqc ?_
 | with_reducible assumption
 | (with_reducible refine NxK.out hK _ ?_; clear hK K)
 | with_reducible refine NxK.out (by assumption) _ ?_
 | with_reducible refine Nx.out (by assumption) ?_
 | with_reducible refine SpecC.seqW fun K hK => ?_
 | with_reducible refine SpecC.regW T fun K hK => ?_
 | with_reducible refine SpecC.condW fun A B hA hB => ?_
 | with_reducible refine SpecC.block ?_
 | with_reducible refine SpecC.skip ?_
 | with_reducible refine SpecC.label ?_
 | with_reducible refine SpecC.exit ?_
 | with_reducible refine SpecC.goto ?_
 | with_reducible refine SpecC.ret ?_
 | ((with_reducible first | refine condK.split (fun hb => ?_) (fun hb => ?_) | refine gK.split_t (fun hb => ?_) (fun hb => ?_) | refine gK.split_f (fun hb => ?_) (fun hb => ?_)) <;> try simp only [decide_not, ilt_t, ilt_f, ile_t, ile_f, nlt_t, nlt_f, nle_t, nle_f, Bool.not_eq_true', Bool.not_eq_false', Int.ofNat_lt, Int.ofNat_le] at hb)
 | simp only [go_sem, ↓reduceIte, reduceIte, Nat.reduceEqDiff, String.reduceEq, Nat.reduceLT, Nat.reduceLeDiff, Nat.reduceAdd, Nat.reduceMul, Nat.reduceSub, Nat.reduceBEq, reduceCtorEq, *, -hs]
 | with_reducible refine fun (bn : Bool) hbn => ?_))
    all_goals simp_all
  by_cases hk : r_kind = 1
  rotate_left
  · refine CallR.go2 (T := T) Tryd.call3 Tryd.func3 rfl Tryd.ntmps3 (congrArg Array.toList Tryd.results3) (by decide) fun ts hn h0 h1 => ?_
    (repeat' (first
 | with_reducible refine callX.by awake3_c ?_
 | with_reducible refine callX.by (fewRes_c _ _ _ _ _ _ _ ?_) ?_
 | with_reducible refine callX.by (saneR_c _ _ _ _ _ _ _ ?_ ?_ ?_) ?_
 | with_reducible refine callX.by awqs ?_
 | with_reducible refine callX.by (refsR_c _ _ _ _ _ _ _ ?_ ?_ ?_) ?_
 | with_reducible refine callX.by awqc ?_
 | with_reducible assumption
 | (with_reducible refine NxK.out hK _ ?_; clear hK K)
 | with_reducible refine NxK.out (by assumption) _ ?_
 | with_reducible refine Nx.out (by assumption) ?_
 | with_reducible refine SpecC.seqW fun K hK => ?_
 | with_reducible refine SpecC.regW T fun K hK => ?_
 | with_reducible refine SpecC.condW fun A B hA hB => ?_
 | with_reducible refine SpecC.block ?_
 | with_reducible refine SpecC.skip ?_
 | with_reducible refine SpecC.label ?_
 | with_reducible refine SpecC.exit ?_
 | with_reducible refine SpecC.goto ?_
 | with_reducible refine SpecC.ret ?_
 | ((with_reducible first | refine condK.split (fun hb => ?_) (fun hb => ?_) | refine gK.split_t (fun hb => ?_) (fun hb => ?_) | refine gK.split_f (fun hb => ?_) (fun hb => ?_)) <;> try simp only [decide_not, ilt_t, ilt_f, ile_t, ile_f, nlt_t, nlt_f, nle_t, nle_f, Bool.not_eq_true', Bool.not_eq_false', Int.ofNat_lt, Int.ofNat_le] at hb)
 | simp only [go_sem, ↓reduceIte, reduceIte, Nat.reduceEqDiff, String.reduceEq, Nat.reduceLT, Nat.reduceLeDiff, Nat.reduceAdd, Nat.reduceMul, Nat.reduceSub, Nat.reduceBEq, reduceCtorEq, *, -hs]
 | with_reducible refine fun (bn : Bool) hbn => ?_))
    all_goals simp_all
  subst hk
  by_cases hsn : saneR ⟨1, r_name, r_ver, r_port, r_to, r_rules, r_hosts⟩ = 0
  rotate_left
  · refine CallR.go2 (T := T) Tryd.call3 Tryd.func3 rfl Tryd.ntmps3 (congrArg Array.toList Tryd.results3) (by decide) fun ts hn h0 h1 => ?_
    (repeat' (first
 | with_reducible refine callX.by awake3_c ?_
 | with_reducible refine callX.by (fewRes_c _ _ _ _ _ _ _ ?_) ?_
 | with_reducible refine callX.by (saneR_c _ _ _ _ _ _ _ ?_ ?_ ?_) ?_
 | with_reducible refine callX.by awqs ?_
 | with_reducible refine callX.by (refsR_c _ _ _ _ _ _ _ ?_ ?_ ?_) ?_
 | with_reducible refine callX.by awqc ?_
 | with_reducible assumption
 | (with_reducible refine NxK.out hK _ ?_; clear hK K)
 | with_reducible refine NxK.out (by assumption) _ ?_
 | with_reducible refine Nx.out (by assumption) ?_
 | with_reducible refine SpecC.seqW fun K hK => ?_
 | with_reducible refine SpecC.regW T fun K hK => ?_
 | with_reducible refine SpecC.condW fun A B hA hB => ?_
 | with_reducible refine SpecC.block ?_
 | with_reducible refine SpecC.skip ?_
 | with_reducible refine SpecC.label ?_
 | with_reducible refine SpecC.exit ?_
 | with_reducible refine SpecC.goto ?_
 | with_reducible refine SpecC.ret ?_
 | ((with_reducible first | refine condK.split (fun hb => ?_) (fun hb => ?_) | refine gK.split_t (fun hb => ?_) (fun hb => ?_) | refine gK.split_f (fun hb => ?_) (fun hb => ?_)) <;> try simp only [decide_not, ilt_t, ilt_f, ile_t, ile_f, nlt_t, nlt_f, nle_t, nle_f, Bool.not_eq_true', Bool.not_eq_false', Int.ofNat_lt, Int.ofNat_le] at hb)
 | simp only [go_sem, ↓reduceIte, reduceIte, Nat.reduceEqDiff, String.reduceEq, Nat.reduceLT, Nat.reduceLeDiff, Nat.reduceAdd, Nat.reduceMul, Nat.reduceSub, Nat.reduceBEq, reduceCtorEq, *, -hs]
 | with_reducible refine fun (bn : Bool) hbn => ?_))
    all_goals simp_all
  have hn1 := names_iff hsn rfl s
  have hn2 := names_some hsn rfl
  have hrc := refsR_c 1 r_name r_ver r_port r_to r_rules r_hosts hl hh hs
  have hql := refs_len ⟨1, r_name, r_ver, r_port, r_to, r_rules, r_hosts⟩
  generalize refsR ⟨1, r_name, r_ver, r_port, r_to, r_rules, r_hosts⟩ = L at *
  have hLs : Small L.length := by unfold Small; omega
  clear hql
  refine CallR.go2 (T := T) Tryd.call3 Tryd.func3 rfl Tryd.ntmps3 (congrArg Array.toList Tryd.results3) (by decide) fun ts hn h0 h1 => ?_
  (repeat' (first
 | with_reducible refine callX.by awake3_c ?_
 | with_reducible refine callX.by (fewRes_c _ _ _ _ _ _ _ ?_) ?_
 | with_reducible refine callX.by (saneR_c _ _ _ _ _ _ _ ?_ ?_ ?_) ?_
 | with_reducible refine callX.by awqs ?_
 | with_reducible refine callX.by (refsR_c _ _ _ _ _ _ _ ?_ ?_ ?_) ?_
 | with_reducible refine callX.by awqc ?_
 | with_reducible assumption
 | (with_reducible refine NxK.out hK _ ?_; clear hK K)
 | with_reducible refine NxK.out (by assumption) _ ?_
 | with_reducible refine Nx.out (by assumption) ?_
 | with_reducible refine SpecC.seqW fun K hK => ?_
 | with_reducible refine SpecC.regW T fun K hK => ?_
 | with_reducible refine SpecC.condW fun A B hA hB => ?_
 | with_reducible refine SpecC.block ?_
 | with_reducible refine SpecC.skip ?_
 | with_reducible refine SpecC.label ?_
 | with_reducible refine SpecC.exit ?_
 | with_reducible refine SpecC.goto ?_
 | with_reducible refine SpecC.ret ?_
 | ((with_reducible first | refine condK.split (fun hb => ?_) (fun hb => ?_) | refine gK.split_t (fun hb => ?_) (fun hb => ?_) | refine gK.split_f (fun hb => ?_) (fun hb => ?_)) <;> try simp only [decide_not, ilt_t, ilt_f, ile_t, ile_f, nlt_t, nlt_f, nle_t, nle_f, Bool.not_eq_true', Bool.not_eq_false', Int.ofNat_lt, Int.ofNat_le] at hb)
 | simp only [go_sem, ↓reduceIte, reduceIte, Nat.reduceEqDiff, String.reduceEq, Nat.reduceLT, Nat.reduceLeDiff, Nat.reduceAdd, Nat.reduceMul, Nat.reduceSub, Nat.reduceBEq, reduceCtorEq, *, -hs, -hn1, -hn2, -hrc]
 | with_reducible refine fun (bn : Bool) hbn => ?_))
  refine SpecC.loopF [1, 2, 5, 6] (fun m ts' => ∃ (i : Nat), ∃ (w : Int), m = r_rules.length - i ∧ i ≤ r_rules.length ∧ wR s r_rules 0 = wR s (r_rules.drop i) w ∧ ts'.tmp 7 = .int .i64 w ∧ ts'.tmp 8 = .int .i64 i) r_rules.length ?_ ?_
  · refine ⟨0, 0, rfl, Nat.zero_le _, rfl, ?_⟩
    simp only [go_sem, ↓reduceIte, reduceIte, Nat.reduceEqDiff, String.reduceEq, Nat.reduceLT, Nat.reduceLeDiff, Nat.reduceAdd, Nat.reduceMul, Nat.reduceSub, Nat.reduceBEq, reduceCtorEq, *, -hs, -hn1, -hn2, -hrc]
  · rintro m A hM ts' hk ⟨i, w, hm, f1, f2, s1, s2⟩
    simp only [go_sem, ↓reduceIte, reduceIte, Nat.reduceEqDiff, String.reduceEq, Nat.reduceLT, Nat.reduceLeDiff, Nat.reduceAdd, Nat.reduceMul, Nat.reduceSub, Nat.reduceBEq, reduceCtorEq, *] at hk
    by_cases hlt : i < r_rules.length
    · rw [List.drop_eq_getElem_cons hlt, wR] at f2
      have hsp := hs _ (List.getElem_mem hlt)
      have hsp2 : Small r_rules[i].split.length := hsp.2.2.1
      clear hsp
      obtain ⟨v0, hv0⟩ : ∃ v0, wS s r_rules[i].split w = v0 := ⟨_, rfl⟩
      rw [hv0] at f2
      (repeat' (first
 | with_reducible refine callX.by awake3_c ?_
 | with_reducible refine callX.by (fewRes_c _ _ _ _ _ _ _ ?_) ?_
 | with_reducible refine callX.by (saneR_c _ _ _ _ _ _ _ ?_ ?_ ?_) ?_
 | with_reducible refine callX.by awqs ?_
 | with_reducible refine callX.by (refsR_c _ _ _ _ _ _ _ ?_ ?_ ?_) ?_
 | with_reducible refine callX.by awqc ?_
 | with_reducible assumption
 | (with_reducible refine NxK.out hK _ ?_; clear hK K)
 | with_reducible refine NxK.out (by assumption) _ ?_
 | with_reducible refine Nx.out (by assumption) ?_
 | with_reducible refine SpecC.seqW fun K hK => ?_
 | with_reducible refine SpecC.regW T fun K hK => ?_
 | with_reducible refine SpecC.condW fun A B hA hB => ?_
 | with_reducible refine SpecC.block ?_
 | with_reducible refine SpecC.skip ?_
 | with_reducible refine SpecC.label ?_
 | with_reducible refine SpecC.exit ?_
 | with_reducible refine SpecC.goto ?_
 | with_reducible refine SpecC.ret ?_
 | ((with_reducible first | refine condK.split (fun hb => ?_) (fun hb => ?_) | refine gK.split_t (fun hb => ?_) (fun hb => ?_) | refine gK.split_f (fun hb => ?_) (fun hb => ?_)) <;> try simp only [decide_not, ilt_t, ilt_f, ile_t, ile_f, nlt_t, nlt_f, nle_t, nle_f, Bool.not_eq_true', Bool.not_eq_false', Int.ofNat_lt, Int.ofNat_le] at hb)
 | simp only [go_sem, ↓reduceIte, reduceIte, Nat.reduceEqDiff, String.reduceEq, Nat.reduceLT, Nat.reduceLeDiff, Nat.reduceAdd, Nat.reduceMul, Nat.reduceSub, Nat.reduceBEq, reduceCtorEq, *, -hs, -hn1, -hn2, -hrc, -f2, -hv0]
 | with_reducible refine fun (bn : Bool) hbn => ?_))
      refine SpecC.loopF [1, 2, 5, 6, 8] (fun m ts' => ∃ (j : Nat), ∃ (w : Int), m = r_rules[i].split.length - j ∧ j ≤ r_rules[i].split.length ∧ wS s (r_rules[i].split.drop j) w = v0 ∧ ts'.tmp 7 = .int .i64 w ∧ ts'.tmp 9 = .int .i64 j) r_rules[i].split.length ?_ ?_
      · refine ⟨0, w, rfl, Nat.zero_le _, hv0, ?_⟩
        simp only [go_sem, ↓reduceIte, reduceIte, Nat.reduceEqDiff, String.reduceEq, Nat.reduceLT, Nat.reduceLeDiff, Nat.reduceAdd, Nat.reduceMul, Nat.reduceSub, Nat.reduceBEq, reduceCtorEq, *, -hs, -hn1, -hn2, -hrc, -f2, -hv0]
      · revert hM f2
        clear hv0
        intro hM1 f20
        rintro m A hM ts' hk ⟨j, w, hm, f1, f2, s1, s2⟩
        simp only [go_sem, ↓reduceIte, reduceIte, Nat.reduceEqDiff, String.reduceEq, Nat.reduceLT, Nat.reduceLeDiff, Nat.reduceAdd, Nat.reduceMul, Nat.reduceSub, Nat.reduceBEq, reduceCtorEq, *] at hk
        by_cases hjt : j < r_rules[i].split.length
        · rw [List.drop_eq_getElem_cons hjt, wS] at f2
          by_cases he : r_rules[i].split[j].cluster = s
          · rw [if_pos he] at f2
            (repeat' (first
 | with_reducible refine callX.by awake3_c ?_
 | with_reducible refine callX.by (fewRes_c _ _ _ _ _ _ _ ?_) ?_
 | with_reducible refine callX.by (saneR_c _ _ _ _ _ _ _ ?_ ?_ ?_) ?_
 | with_reducible refine callX.by awqs ?_
 | with_reducible refine callX.by (refsR_c _ _ _ _ _ _ _ ?_ ?_ ?_) ?_
 | with_reducible refine callX.by awqc ?_
 | with_reducible assumption
 | (with_reducible refine NxK.out hK _ ?_; clear hK K)
 | with_reducible refine NxK.out (by assumption) _ ?_
 | with_reducible refine Nx.out (by assumption) ?_
 | with_reducible refine SpecC.seqW fun K hK => ?_
 | with_reducible refine SpecC.regW T fun K hK => ?_
 | with_reducible refine SpecC.condW fun A B hA hB => ?_
 | with_reducible refine SpecC.block ?_
 | with_reducible refine SpecC.skip ?_
 | with_reducible refine SpecC.label ?_
 | with_reducible refine SpecC.exit ?_
 | with_reducible refine SpecC.goto ?_
 | with_reducible refine SpecC.ret ?_
 | ((with_reducible first | refine condK.split (fun hb => ?_) (fun hb => ?_) | refine gK.split_t (fun hb => ?_) (fun hb => ?_) | refine gK.split_f (fun hb => ?_) (fun hb => ?_)) <;> try simp only [decide_not, ilt_t, ilt_f, ile_t, ile_f, nlt_t, nlt_f, nle_t, nle_f, Bool.not_eq_true', Bool.not_eq_false', Int.ofNat_lt, Int.ofNat_le] at hb)
 | simp only [go_sem, ↓reduceIte, reduceIte, Nat.reduceEqDiff, String.reduceEq, Nat.reduceLT, Nat.reduceLeDiff, Nat.reduceAdd, Nat.reduceMul, Nat.reduceSub, Nat.reduceBEq, reduceCtorEq, *, -hs, -hn1, -hn2, -hrc, -f2, -f20]
 | with_reducible refine fun (bn : Bool) hbn => ?_))
            all_goals ((repeat clear hK); (repeat clear hA); (repeat clear hB))
            (refine hM.on (r_rules[i].split.length - (j + 1)) (by omega) (by simp only [go_sem, ↓reduceIte, reduceIte, Nat.reduceEqDiff, String.reduceEq, Nat.reduceLT, Nat.reduceLeDiff, Nat.reduceAdd, Nat.reduceMul, Nat.reduceSub, Nat.reduceBEq, reduceCtorEq, *, w64_nat hjt hsp2, -hs, -hn1, -hn2, -hrc, -f2, -f20]) ⟨j + 1, max w r_rules[i].split[j].w, rfl, by omega, f2, ?_⟩; simp only [go_sem, ↓reduceIte, reduceIte, Nat.reduceEqDiff, String.reduceEq, Nat.reduceLT, Nat.reduceLeDiff, Nat.reduceAdd, Nat.reduceMul, Nat.reduceSub, Nat.reduceBEq, reduceCtorEq, *, w64_nat hjt hsp2, -hs, -hn1, -hn2, -hrc, -f2, -f20]; done)
          · rw [if_neg he] at f2
            (repeat' (first
 | with_reducible refine callX.by awake3_c ?_
 | with_reducible refine callX.by (fewRes_c _ _ _ _ _ _ _ ?_) ?_
 | with_reducible refine callX.by (saneR_c _ _ _ _ _ _ _ ?_ ?_ ?_) ?_
 | with_reducible refine callX.by awqs ?_
 | with_reducible refine callX.by (refsR_c _ _ _ _ _ _ _ ?_ ?_ ?_) ?_
 | with_reducible refine callX.by awqc ?_
 | with_reducible assumption
 | (with_reducible refine NxK.out hK _ ?_; clear hK K)
 | with_reducible refine NxK.out (by assumption) _ ?_
 | with_reducible refine Nx.out (by assumption) ?_
 | with_reducible refine SpecC.seqW fun K hK => ?_
 | with_reducible refine SpecC.regW T fun K hK => ?_
 | with_reducible refine SpecC.condW fun A B hA hB => ?_
 | with_reducible refine SpecC.block ?_
 | with_reducible refine SpecC.skip ?_
 | with_reducible refine SpecC.label ?_
 | with_reducible refine SpecC.exit ?_
 | with_reducible refine SpecC.goto ?_
 | with_reducible refine SpecC.ret ?_
 | ((with_reducible first | refine condK.split (fun hb => ?_) (fun hb => ?_) | refine gK.split_t (fun hb => ?_) (fun hb => ?_) | refine gK.split_f (fun hb => ?_) (fun hb => ?_)) <;> try simp only [decide_not, ilt_t, ilt_f, ile_t, ile_f, nlt_t, nlt_f, nle_t, nle_f, Bool.not_eq_true', Bool.not_eq_false', Int.ofNat_lt, Int.ofNat_le] at hb)
 | simp only [go_sem, ↓reduceIte, reduceIte, Nat.reduceEqDiff, String.reduceEq, Nat.reduceLT, Nat.reduceLeDiff, Nat.reduceAdd, Nat.reduceMul, Nat.reduceSub, Nat.reduceBEq, reduceCtorEq, *, -hs, -hn1, -hn2, -hrc, -f2, -f20]
 | with_reducible refine fun (bn : Bool) hbn => ?_))
            all_goals ((repeat clear hK); (repeat clear hA); (repeat clear hB))
            (refine hM.on (r_rules[i].split.length - (j + 1)) (by omega) (by simp only [go_sem, ↓reduceIte, reduceIte, Nat.reduceEqDiff, String.reduceEq, Nat.reduceLT, Nat.reduceLeDiff, Nat.reduceAdd, Nat.reduceMul, Nat.reduceSub, Nat.reduceBEq, reduceCtorEq, *, w64_nat hjt hsp2, -hs, -hn1, -hn2, -hrc, -f2, -f20]) ⟨j + 1, w, rfl, by omega, f2, ?_⟩; simp only [go_sem, ↓reduceIte, reduceIte, Nat.reduceEqDiff, String.reduceEq, Nat.reduceLT, Nat.reduceLeDiff, Nat.reduceAdd, Nat.reduceMul, Nat.reduceSub, Nat.reduceBEq, reduceCtorEq, *, w64_nat hjt hsp2, -hs, -hn1, -hn2, -hrc, -f2, -f20]; done)
        · rw [List.drop_eq_nil_of_le (by omega), wS] at f2
          subst f2
          (repeat' (first
 | with_reducible refine callX.by awake3_c ?_
 | with_reducible refine callX.by (fewRes_c _ _ _ _ _ _ _ ?_) ?_
 | with_reducible refine callX.by (saneR_c _ _ _ _ _ _ _ ?_ ?_ ?_) ?_
 | with_reducible refine callX.by awqs ?_
 | with_reducible refine callX.by (refsR_c _ _ _ _ _ _ _ ?_ ?_ ?_) ?_
 | with_reducible refine callX.by awqc ?_
 | with_reducible assumption
 | (with_reducible refine NxK.out hK _ ?_; clear hK K)
 | with_reducible refine NxK.out (by assumption) _ ?_
 | with_reducible refine Nx.out (by assumption) ?_
 | with_reducible refine SpecC.seqW fun K hK => ?_
 | with_reducible refine SpecC.regW T fun K hK => ?_
 | with_reducible refine SpecC.condW fun A B hA hB => ?_
 | with_reducible refine SpecC.block ?_
 | with_reducible refine SpecC.skip ?_
 | with_reducible refine SpecC.label ?_
 | with_reducible refine SpecC.exit ?_
 | with_reducible refine SpecC.goto ?_
 | with_reducible refine SpecC.ret ?_
 | ((with_reducible first | refine condK.split (fun hb => ?_) (fun hb => ?_) | refine gK.split_t (fun hb => ?_) (fun hb => ?_) | refine gK.split_f (fun hb => ?_) (fun hb => ?_)) <;> try simp only [decide_not, ilt_t, ilt_f, ile_t, ile_f, nlt_t, nlt_f, nle_t, nle_f, Bool.not_eq_true', Bool.not_eq_false', Int.ofNat_lt, Int.ofNat_le] at hb)
 | simp only [go_sem, ↓reduceIte, reduceIte, Nat.reduceEqDiff, String.reduceEq, Nat.reduceLT, Nat.reduceLeDiff, Nat.reduceAdd, Nat.reduceMul, Nat.reduceSub, Nat.reduceBEq, reduceCtorEq, *, -hs, -hn1, -hn2, -hrc, -f20]
 | with_reducible refine fun (bn : Bool) hbn => ?_))
          all_goals ((repeat clear hK); (repeat clear hA); (repeat clear hB))
          all_goals (clear hM; revert hM1; intro hM)
          (refine hM.on (r_rules.length - (i + 1)) (by omega) (by simp only [go_sem, ↓reduceIte, reduceIte, Nat.reduceEqDiff, String.reduceEq, Nat.reduceLT, Nat.reduceLeDiff, Nat.reduceAdd, Nat.reduceMul, Nat.reduceSub, Nat.reduceBEq, reduceCtorEq, *, w64_nat hlt hl, -hs, -hn1, -hn2, -hrc, -f20]) ⟨i + 1, w, rfl, by omega, f20, ?_⟩; simp only [go_sem, ↓reduceIte, reduceIte, Nat.reduceEqDiff, String.reduceEq, Nat.reduceLT, Nat.reduceLeDiff, Nat.reduceAdd, Nat.reduceMul, Nat.reduceSub, Nat.reduceBEq, reduceCtorEq, *, w64_nat hlt hl, -hs, -hn1, -hn2, -hrc, -f20]; done)
    · rw [List.drop_eq_nil_of_le (by omega), wR] at f2
      subst f2
      (repeat' (first
 | with_reducible refine callX.by (hrc) ?_
 | with_reducible refine callX.by awake3_c ?_
 | with_reducible refine callX.by (fewRes_c _ _ _ _ _ _ _ ?_) ?_
 | with_reducible refine callX.by (saneR_c _ _ _ _ _ _ _ ?_ ?_ ?_) ?_
 | with_reducible refine callX.by awqs ?_
 | with_reducible refine callX.by (refsR_c _ _ _ _ _ _ _ ?_ ?_ ?_) ?_
 | with_reducible refine callX.by awqc ?_
 | with_reducible assumption
 | (with_reducible refine NxK.out hK _ ?_; clear hK K)
 | with_reducible refine NxK.out (by assumption) _ ?_
 | with_reducible refine Nx.out (by assumption) ?_
 | with_reducible refine SpecC.seqW fun K hK => ?_
 | with_reducible refine SpecC.regW T fun K hK => ?_
 | with_reducible refine SpecC.condW fun A B hA hB => ?_
 | with_reducible refine SpecC.block ?_
 | with_reducible refine SpecC.skip ?_
 | with_reducible refine SpecC.label ?_
 | with_reducible refine SpecC.exit ?_
 | with_reducible refine SpecC.goto ?_
 | with_reducible refine SpecC.ret ?_
 | ((with_reducible first | refine condK.split (fun hb => ?_) (fun hb => ?_) | refine gK.split_t (fun hb => ?_) (fun hb => ?_) | refine gK.split_f (fun hb => ?_) (fun hb => ?_)) <;> try simp only [decide_not, ilt_t, ilt_f, ile_t, ile_f, nlt_t, nlt_f, nle_t, nle_f, Bool.not_eq_true', Bool.not_eq_false', Int.ofNat_lt, Int.ofNat_le] at hb)
 | simp only [go_sem, ↓reduceIte, reduceIte, Nat.reduceEqDiff, String.reduceEq, Nat.reduceLT, Nat.reduceLeDiff, Nat.reduceAdd, Nat.reduceMul, Nat.reduceSub, Nat.reduceBEq, reduceCtorEq, *, -hs, -hn1, -hn2, -hrc]
 | with_reducible refine fun (bn : Bool) hbn => ?_))
      have hpos := wR_pos s r_rules 0
      rw [← hn1] at hpos
      clear hn1 hrc
      refine SpecC.ent (Ent.frz 10 (d := 70) (g := ts'.gen 70 + 1) (len := L.length) (sz := 2) (xs := avs L) (by simp only [go_sem, ↓reduceIte, reduceIte, Nat.reduceEqDiff, String.reduceEq, Nat.reduceLT, Nat.reduceLeDiff, Nat.reduceAdd, Nat.reduceMul, Nat.reduceSub, Nat.reduceBEq, reduceCtorEq, *, -hs, -hpos, -hn2]; done) (by simp only [go_sem, ↓reduceIte, reduceIte, Nat.reduceEqDiff, String.reduceEq, Nat.reduceLT, Nat.reduceLeDiff, Nat.reduceAdd, Nat.reduceMul, Nat.reduceSub, Nat.reduceBEq, reduceCtorEq, *, -hs, -hpos, -hn2]; done) (by simp only [go_sem, ↓reduceIte, reduceIte, Nat.reduceEqDiff, String.reduceEq, Nat.reduceLT, Nat.reduceLeDiff, Nat.reduceAdd, Nat.reduceMul, Nat.reduceSub, Nat.reduceBEq, reduceCtorEq, *, -hs, -hpos, -hn2]; done) (by simp only [go_sem, ↓reduceIte, reduceIte, Nat.reduceEqDiff, String.reduceEq, Nat.reduceLT, Nat.reduceLeDiff, Nat.reduceAdd, Nat.reduceMul, Nat.reduceSub, Nat.reduceBEq, reduceCtorEq, *, -hs, -hpos, -hn2]; done)) ?_
      refine SpecC.loopF [1, 2, 5, 7, 10] (fun m ts' => ∃ (j : Nat), ∃ (b : Bool), m = L.length - j ∧ j ≤ L.length ∧ b = (L.take j).any (fun x => decide (x.name = s)) ∧ ts'.tmp 6 = .bool b ∧ ts'.tmp 11 = .int .i64 j) L.length ?_ ?_
      · refine ⟨0, false, rfl, Nat.zero_le _, rfl, ?_⟩
        simp only [go_sem, ↓reduceIte, reduceIte, Nat.reduceEqDiff, String.reduceEq, Nat.reduceLT, Nat.reduceLeDiff, Nat.reduceAdd, Nat.reduceMul, Nat.reduceSub, Nat.reduceBEq, reduceCtorEq, *, -hs, -hpos, -hn2]
      · clear hM
        rintro m A hM ts' hk ⟨j, b, hm, f1, f2, s1, s2⟩
        simp only [go_sem, ↓reduceIte, reduceIte, Nat.reduceEqDiff, String.reduceEq, Nat.reduceLT, Nat.reduceLeDiff, Nat.reduceAdd, Nat.reduceMul, Nat.reduceSub, Nat.reduceBEq, reduceCtorEq, *] at hk
        by_cases hjt : j < L.length
        · have hns : (L.take (j + 1)).any (fun x => decide (x.name = s)) = ((L.take j).any (fun x => decide (x.name = s)) || decide (L[j].name = s)) := by
            rw [List.take_succ_eq_append_getElem hjt, List.any_append]; simp
          rw [← f2] at hns
          cases b
          · by_cases he : L[j].name = s
            · (repeat' (first
 | with_reducible refine callX.by awake3_c ?_
 | with_reducible refine callX.by (fewRes_c _ _ _ _ _ _ _ ?_) ?_
 | with_reducible refine callX.by (saneR_c _ _ _ _ _ _ _ ?_ ?_ ?_) ?_
 | with_reducible refine callX.by awqs ?_
 | with_reducible refine callX.by (refsR_c _ _ _ _ _ _ _ ?_ ?_ ?_) ?_
 | with_reducible refine callX.by awqc ?_
 | with_reducible assumption
 | (with_reducible refine NxK.out hK _ ?_; clear hK K)
 | with_reducible refine NxK.out (by assumption) _ ?_
 | with_reducible refine Nx.out (by assumption) ?_
 | with_reducible refine SpecC.seqW fun K hK => ?_
 | with_reducible refine SpecC.regW T fun K hK => ?_
 | with_reducible refine SpecC.condW fun A B hA hB => ?_
 | with_reducible refine SpecC.block ?_
 | with_reducible refine SpecC.skip ?_
 | with_reducible refine SpecC.label ?_
 | with_reducible refine SpecC.exit ?_
 | with_reducible refine SpecC.goto ?_
 | with_reducible refine SpecC.ret ?_
 | ((with_reducible first | refine condK.split (fun hb => ?_) (fun hb => ?_) | refine gK.split_t (fun hb => ?_) (fun hb => ?_) | refine gK.split_f (fun hb => ?_) (fun hb => ?_)) <;> try simp only [decide_not, ilt_t, ilt_f, ile_t, ile_f, nlt_t, nlt_f, nle_t, nle_f, Bool.not_eq_true', Bool.not_eq_false', Int.ofNat_lt, Int.ofNat_le] at hb)
 | simp only [go_sem, ↓reduceIte, reduceIte, Nat.reduceEqDiff, String.reduceEq, Nat.reduceLT, Nat.reduceLeDiff, Nat.reduceAdd, Nat.reduceMul, Nat.reduceSub, Nat.reduceBEq, reduceCtorEq, *, -hs, -hpos, -hn2, -hns, -f2]
 | with_reducible refine fun (bn : Bool) hbn => ?_))
              all_goals ((repeat clear hK); (repeat clear hA); (repeat clear hB))
              (refine hM.on (L.length - (j + 1)) (by omega) (by simp only [go_sem, ↓reduceIte, reduceIte, Nat.reduceEqDiff, String.reduceEq, Nat.reduceLT, Nat.reduceLeDiff, Nat.reduceAdd, Nat.reduceMul, Nat.reduceSub, Nat.reduceBEq, reduceCtorEq, *, w64_nat hjt hLs, -hs, -hpos, -hn2, -hns, -f2]) ⟨j + 1, true, rfl, by omega, by rw [hns, decide_eq_true he]; rfl, ?_⟩; simp only [go_sem, ↓reduceIte, reduceIte, Nat.reduceEqDiff, String.reduceEq, Nat.reduceLT, Nat.reduceLeDiff, Nat.reduceAdd, Nat.reduceMul, Nat.reduceSub, Nat.reduceBEq, reduceCtorEq, *, w64_nat hjt hLs, -hs, -hpos, -hn2, -hns, -f2]; done)
            · (repeat' (first
 | with_reducible refine callX.by awake3_c ?_
 | with_reducible refine callX.by (fewRes_c _ _ _ _ _ _ _ ?_) ?_
 | with_reducible refine callX.by (saneR_c _ _ _ _ _ _ _ ?_ ?_ ?_) ?_
 | with_reducible refine callX.by awqs ?_
 | with_reducible refine callX.by (refsR_c _ _ _ _ _ _ _ ?_ ?_ ?_) ?_
 | with_reducible refine callX.by awqc ?_
 | with_reducible assumption
 | (with_reducible refine NxK.out hK _ ?_; clear hK K)
 | with_reducible refine NxK.out (by assumption) _ ?_
 | with_reducible refine Nx.out (by assumption) ?_
 | with_reducible refine SpecC.seqW fun K hK => ?_
 | with_reducible refine SpecC.regW T fun K hK => ?_
 | with_reducible refine SpecC.condW fun A B hA hB => ?_
 | with_reducible refine SpecC.block ?_
 | with_reducible refine SpecC.skip ?_
 | with_reducible refine SpecC.label ?_
 | with_reducible refine SpecC.exit ?_
 | with_reducible refine SpecC.goto ?_
 | with_reducible refine SpecC.ret ?_
 | ((with_reducible first | refine condK.split (fun hb => ?_) (fun hb => ?_) | refine gK.split_t (fun hb => ?_) (fun hb => ?_) | refine gK.split_f (fun hb => ?_) (fun hb => ?_)) <;> try simp only [decide_not, ilt_t, ilt_f, ile_t, ile_f, nlt_t, nlt_f, nle_t, nle_f, Bool.not_eq_true', Bool.not_eq_false', Int.ofNat_lt, Int.ofNat_le] at hb)
 | simp only [go_sem, ↓reduceIte, reduceIte, Nat.reduceEqDiff, String.reduceEq, Nat.reduceLT, Nat.reduceLeDiff, Nat.reduceAdd, Nat.reduceMul, Nat.reduceSub, Nat.reduceBEq, reduceCtorEq, *, -hs, -hpos, -hn2, -hns, -f2]
 | with_reducible refine fun (bn : Bool) hbn => ?_))
              all_goals ((repeat clear hK); (repeat clear hA); (repeat clear hB))
              (refine hM.on (L.length - (j + 1)) (by omega) (by simp only [go_sem, ↓reduceIte, reduceIte, Nat.reduceEqDiff, String.reduceEq, Nat.reduceLT, Nat.reduceLeDiff, Nat.reduceAdd, Nat.reduceMul, Nat.reduceSub, Nat.reduceBEq, reduceCtorEq, *, w64_nat hjt hLs, -hs, -hpos, -hn2, -hns, -f2]) ⟨j + 1, false, rfl, by omega, by rw [hns, decide_eq_false he]; rfl, ?_⟩; simp only [go_sem, ↓reduceIte, reduceIte, Nat.reduceEqDiff, String.reduceEq, Nat.reduceLT, Nat.reduceLeDiff, Nat.reduceAdd, Nat.reduceMul, Nat.reduceSub, Nat.reduceBEq, reduceCtorEq, *, w64_nat hjt hLs, -hs, -hpos, -hn2, -hns, -f2]; done)
          · (repeat' (first
 | with_reducible refine callX.by awake3_c ?_
 | with_reducible refine callX.by (fewRes_c _ _ _ _ _ _ _ ?_) ?_
 | with_reducible refine callX.by (saneR_c _ _ _ _ _ _ _ ?_ ?_ ?_) ?_
 | with_reducible refine callX.by awqs ?_
 | with_reducible refine callX.by (refsR_c _ _ _ _ _ _ _ ?_ ?_ ?_) ?_
 | with_reducible refine callX.by awqc ?_
 | with_reducible assumption
 | (with_reducible refine NxK.out hK _ ?_; clear hK K)
 | with_reducible refine NxK.out (by assumption) _ ?_
 | with_reducible refine Nx.out (by assumption) ?_
 | with_reducible refine SpecC.seqW fun K hK => ?_
 | with_reducible refine SpecC.regW T fun K hK => ?_
 | with_reducible refine SpecC.condW fun A B hA hB => ?_
 | with_reducible refine SpecC.block ?_
 | with_reducible refine SpecC.skip ?_
 | with_reducible refine SpecC.label ?_
 | with_reducible refine SpecC.exit ?_
 | with_reducible refine SpecC.goto ?_
 | with_reducible refine SpecC.ret ?_
 | ((with_reducible first | refine condK.split (fun hb => ?_) (fun hb => ?_) | refine gK.split_t (fun hb => ?_) (fun hb => ?_) | refine gK.split_f (fun hb => ?_) (fun hb => ?_)) <;> try simp only [decide_not, ilt_t, ilt_f, ile_t, ile_f, nlt_t, nlt_f, nle_t, nle_f, Bool.not_eq_true', Bool.not_eq_false', Int.ofNat_lt, Int.ofNat_le] at hb)
 | simp only [go_sem, ↓reduceIte, reduceIte, Nat.reduceEqDiff, String.reduceEq, Nat.reduceLT, Nat.reduceLeDiff, Nat.reduceAdd, Nat.reduceMul, Nat.reduceSub, Nat.reduceBEq, reduceCtorEq, *, -hs, -hpos, -hn2, -hns, -f2]
 | with_reducible refine fun (bn : Bool) hbn => ?_))
            all_goals ((repeat clear hK); (repeat clear hA); (repeat clear hB))
            (refine hM.on (L.length - (j + 1)) (by omega) (by simp only [go_sem, ↓reduceIte, reduceIte, Nat.reduceEqDiff, String.reduceEq, Nat.reduceLT, Nat.reduceLeDiff, Nat.reduceAdd, Nat.reduceMul, Nat.reduceSub, Nat.reduceBEq, reduceCtorEq, *, w64_nat hjt hLs, -hs, -hpos, -hn2, -hns, -f2]) ⟨j + 1, true, rfl, by omega, by rw [hns]; rfl, ?_⟩; simp only [go_sem, ↓reduceIte, reduceIte, Nat.reduceEqDiff, String.reduceEq, Nat.reduceLT, Nat.reduceLeDiff, Nat.reduceAdd, Nat.reduceMul, Nat.reduceSub, Nat.reduceBEq, reduceCtorEq, *, w64_nat hjt hLs, -hs, -hpos, -hn2, -hns, -f2]; done)
        · rw [List.take_of_length_le (by omega)] at f2
          have hb1 : b = decide (0 < wR s r_rules 0) := by
            rw [f2, Bool.eq_iff_iff, List.any_eq_true, decide_eq_true_eq, hpos]
            simp
          have hb2 : decide ((0 : Int) < (L.length : Int)) = decide ((0 : Int) < (r_rules.length : Int)) := by
            have hn3 : 0 < L.length ↔ 0 < r_rules.length := hn2
            rw [Bool.eq_iff_iff, decide_eq_true_eq, decide_eq_true_eq]; omega
          clear f2 hpos hn2
          (repeat' (first
 | with_reducible refine callX.by awake3_c ?_
 | with_reducible refine callX.by (fewRes_c _ _ _ _ _ _ _ ?_) ?_
 | with_reducible refine callX.by (saneR_c _ _ _ _ _ _ _ ?_ ?_ ?_) ?_
 | with_reducible refine callX.by awqs ?_
 | with_reducible refine callX.by (refsR_c _ _ _ _ _ _ _ ?_ ?_ ?_) ?_
 | with_reducible refine callX.by awqc ?_
 | with_reducible assumption
 | (with_reducible refine NxK.out hK _ ?_; clear hK K)
 | with_reducible refine NxK.out (by assumption) _ ?_
 | with_reducible refine Nx.out (by assumption) ?_
 | with_reducible refine SpecC.seqW fun K hK => ?_
 | with_reducible refine SpecC.regW T fun K hK => ?_
 | with_reducible refine SpecC.condW fun A B hA hB => ?_
 | with_reducible refine SpecC.block ?_
 | with_reducible refine SpecC.skip ?_
 | with_reducible refine SpecC.label ?_
 | with_reducible refine SpecC.exit ?_
 | with_reducible refine SpecC.goto ?_
 | with_reducible refine SpecC.ret ?_
 | ((with_reducible first | refine condK.split (fun hb => ?_) (fun hb => ?_) | refine gK.split_t (fun hb => ?_) (fun hb => ?_) | refine gK.split_f (fun hb => ?_) (fun hb => ?_)) <;> try simp only [decide_not, ilt_t, ilt_f, ile_t, ile_f, nlt_t, nlt_f, nle_t, nle_f, Bool.not_eq_true', Bool.not_eq_false', Int.ofNat_lt, Int.ofNat_le] at hb)
 | simp only [go_sem, ↓reduceIte, reduceIte, Nat.reduceEqDiff, String.reduceEq, Nat.reduceLT, Nat.reduceLeDiff, Nat.reduceAdd, Nat.reduceMul, Nat.reduceSub, Nat.reduceBEq, reduceCtorEq, *, -hs, -hb1]
 | with_reducible refine fun (bn : Bool) hbn => ?_))
          all_goals ((repeat clear hK); (repeat clear hA); (repeat clear hB))
          all_goals (first | (simp_all; done) | (subst hb1; simp_all; done) | (subst hb1; simp only [hb2]; simp; done))
end Go.Proofs.YtbmdbkgjgjggiaaDoor.Lg
