/- The references' Alike, Same, All, ref04.Few, ref18: sane. -/
import Derived.Test.YtjmnokbbodcaaaaP8
namespace Go.Proofs.Ytjmnokbbodcaaaa.Lg
set_option linter.unusedVariables false
set_option linter.unusedSimpArgs false
open Go

def alike (a b : Res) : Bool := decide (a.kind = b.kind ∧ a.name = b.name ∧ a.port = b.port ∧ a.to' = b.to' ∧ a.rules' = b.rules' ∧ a.hosts = b.hosts)

set_option maxRecDepth 30000 in
set_option maxHeartbeats 4000000 in
theorem alike3_c (a_kind : Int) (a_name : List UInt8) (a_ver : Int) (a_port : Int) (a_to : List UInt8) (a_rules : List Rule) (a_hosts : List Int) (b_kind : Int) (b_name : List UInt8) (b_ver : Int) (b_port : Int) (b_to : List UInt8) (b_rules : List Rule) (b_hosts : List Int) (hh : Small a_hosts.length) (hl : Small a_rules.length) (hs : ∀ x ∈ a_rules, SmRule x) : CallR Try.prog 57 [.agg [.int .i64 a_kind, .str a_name, .int .i64 a_ver, .int .i64 a_port, .str a_to, .slice false (avs a_rules), .slice false (avs a_hosts)], .agg [.int .i64 b_kind, .str b_name, .int .i64 b_ver, .int .i64 b_port, .str b_to, .slice false (avs b_rules), .slice false (avs b_hosts)]] (.val (.bool (alike (⟨a_kind, a_name, a_ver, a_port, a_to, a_rules, a_hosts⟩ : Res) (⟨b_kind, b_name, b_ver, b_port, b_to, b_rules, b_hosts⟩ : Res)))) := by
  refine CallR.go2 (T := T) Try.call57 Try.func57 rfl Try.ntmps57 (congrArg Array.toList Try.results57) (by decide) fun ts hn h0 h1 => ?_
  by_cases hll : a_hosts.length = b_hosts.length
  · (repeat' (first
    | with_reducible refine callX.by (rules3_c _ _ ?_ ?_) ?_
    | with_reducible assumption
    | (with_reducible refine NxK.out hK _ ?_; clear hK K)
    | with_reducible refine NxK.out (by assumption) _ ?_
    | with_reducible refine Nx.out (by assumption) ?_
    | with_reducible refine SpecC.seqW fun K hK => ?_
    | with_reducible refine SpecC.regW T fun K hK => ?_
    | with_reducible refine SpecC.drawW (id := 6) T mixed [([48], [50, 52, 53, 54, 55, 56, 57, 58]), ([49], [50, 53, 54, 55, 56, 57, 58]), ([50], [48, 49, 53, 54, 55, 56, 57, 58]), ([51], [53, 54, 55, 56, 57]), ([52], [48, 53, 54, 55, 56, 57]), ([53], [48, 49, 50, 51, 52, 55, 57, 58]), ([54], [48, 49, 50, 51, 52, 55, 58]), ([55], [48, 49, 50, 51, 52, 53, 54, 58]), ([56], [48, 49, 50, 51, 52]), ([57], [48, 49, 50, 51, 52, 53]), ([58], [48, 49, 50, 53, 54, 55])] (by kernel_rfl) fun K hK => ?_
    | with_reducible refine SpecC.condW fun A B hA hB => ?_
    | with_reducible refine SpecC.block ?_
    | with_reducible refine SpecC.skip ?_
    | with_reducible refine SpecC.label ?_
    | with_reducible refine SpecC.exit ?_
    | with_reducible refine SpecC.goto ?_
    | with_reducible refine SpecC.ret ?_
    | ((with_reducible first | refine condK.split (fun hb => ?_) (fun hb => ?_) | refine gK.split_t (fun hb => ?_) (fun hb => ?_) | refine gK.split_f (fun hb => ?_) (fun hb => ?_)) <;> try simp only [decide_not, ilt_t, ilt_f, ile_t, ile_f, nlt_t, nlt_f, nle_t, nle_f, Bool.not_eq_true', Bool.not_eq_false', Int.ofNat_lt, Int.ofNat_le] at hb)
    | simp only [go_sem, ↓reduceIte, reduceIte, Nat.reduceEqDiff, String.reduceEq, Nat.reduceLT, Nat.reduceLeDiff, Nat.reduceAdd, Nat.reduceMul, Nat.reduceSub, Nat.reduceBEq, reduceCtorEq, *]
    | with_reducible refine fun (bn : Bool) hbn => ?_))
    iterate 4 (focus (all_goals ((repeat clear hK); (repeat clear hA); (repeat clear hB)); clear hs; grind [alike]))
    refine SpecC.loopF [2, 3] (fun m ts' => ∃ (i : Nat), m = a_hosts.length - i ∧ i ≤ a_hosts.length ∧ a_hosts.take i = b_hosts.take i ∧ ts'.tmp 5 = .int .i64 i) a_hosts.length ?_ ?_
    · refine ⟨0, ?_⟩
      simp only [go_sem, ↓reduceIte, reduceIte, Nat.reduceEqDiff, String.reduceEq, Nat.reduceLT, Nat.reduceLeDiff, Nat.reduceAdd, Nat.reduceMul, Nat.reduceSub, Nat.reduceBEq, reduceCtorEq, *]
    · rintro m A hM ts' hk ⟨i, hm, f1, f2, s1⟩
      simp only [go_sem, ↓reduceIte, reduceIte, Nat.reduceEqDiff, String.reduceEq, Nat.reduceLT, Nat.reduceLeDiff, Nat.reduceAdd, Nat.reduceMul, Nat.reduceSub, Nat.reduceBEq, reduceCtorEq, *] at hk
      by_cases hlt : i < a_hosts.length
      · have hlu : i < b_hosts.length := by omega
        have hne := take_ne hlt hlu
        (repeat' (first
    | with_reducible refine callX.by (rules3_c _ _ ?_ ?_) ?_
    | with_reducible assumption
    | (with_reducible refine NxK.out hK _ ?_; clear hK K)
    | with_reducible refine NxK.out (by assumption) _ ?_
    | with_reducible refine Nx.out (by assumption) ?_
    | with_reducible refine SpecC.seqW fun K hK => ?_
    | with_reducible refine SpecC.regW T fun K hK => ?_
    | with_reducible refine SpecC.drawW (id := 6) T mixed [([48], [50, 52, 53, 54, 55, 56, 57, 58]), ([49], [50, 53, 54, 55, 56, 57, 58]), ([50], [48, 49, 53, 54, 55, 56, 57, 58]), ([51], [53, 54, 55, 56, 57]), ([52], [48, 53, 54, 55, 56, 57]), ([53], [48, 49, 50, 51, 52, 55, 57, 58]), ([54], [48, 49, 50, 51, 52, 55, 58]), ([55], [48, 49, 50, 51, 52, 53, 54, 58]), ([56], [48, 49, 50, 51, 52]), ([57], [48, 49, 50, 51, 52, 53]), ([58], [48, 49, 50, 53, 54, 55])] (by kernel_rfl) fun K hK => ?_
    | with_reducible refine SpecC.condW fun A B hA hB => ?_
    | with_reducible refine SpecC.block ?_
    | with_reducible refine SpecC.skip ?_
    | with_reducible refine SpecC.label ?_
    | with_reducible refine SpecC.exit ?_
    | with_reducible refine SpecC.goto ?_
    | with_reducible refine SpecC.ret ?_
    | ((with_reducible first | refine condK.split (fun hb => ?_) (fun hb => ?_) | refine gK.split_t (fun hb => ?_) (fun hb => ?_) | refine gK.split_f (fun hb => ?_) (fun hb => ?_)) <;> try simp only [decide_not, ilt_t, ilt_f, ile_t, ile_f, nlt_t, nlt_f, nle_t, nle_f, Bool.not_eq_true', Bool.not_eq_false', Int.ofNat_lt, Int.ofNat_le] at hb)
    | simp only [go_sem, ↓reduceIte, reduceIte, Nat.reduceEqDiff, String.reduceEq, Nat.reduceLT, Nat.reduceLeDiff, Nat.reduceAdd, Nat.reduceMul, Nat.reduceSub, Nat.reduceBEq, reduceCtorEq, *]
    | with_reducible refine fun (bn : Bool) hbn => ?_))
        all_goals ((repeat clear hK); (repeat clear hA); (repeat clear hB))
        all_goals first
          | (refine hM.on (a_hosts.length - (i + 1)) (by omega) (by simp only [go_sem, ↓reduceIte, reduceIte, Nat.reduceEqDiff, String.reduceEq, Nat.reduceLT, Nat.reduceLeDiff, Nat.reduceAdd, Nat.reduceMul, Nat.reduceSub, Nat.reduceBEq, reduceCtorEq, *, w64_nat hlt hh]) ⟨i + 1, rfl, by omega, by clear hM hs; apply take_get f2 hlt hlu; grind, ?_⟩; simp only [go_sem, ↓reduceIte, reduceIte, Nat.reduceEqDiff, String.reduceEq, Nat.reduceLT, Nat.reduceLeDiff, Nat.reduceAdd, Nat.reduceMul, Nat.reduceSub, Nat.reduceBEq, reduceCtorEq, *, w64_nat hlt hh]; done)
          | (clear hM hs; grind [alike])
      · have := take_all f2 hlt hll
        (repeat' (first
    | with_reducible refine callX.by (rules3_c _ _ ?_ ?_) ?_
    | with_reducible assumption
    | (with_reducible refine NxK.out hK _ ?_; clear hK K)
    | with_reducible refine NxK.out (by assumption) _ ?_
    | with_reducible refine Nx.out (by assumption) ?_
    | with_reducible refine SpecC.seqW fun K hK => ?_
    | with_reducible refine SpecC.regW T fun K hK => ?_
    | with_reducible refine SpecC.drawW (id := 6) T mixed [([48], [50, 52, 53, 54, 55, 56, 57, 58]), ([49], [50, 53, 54, 55, 56, 57, 58]), ([50], [48, 49, 53, 54, 55, 56, 57, 58]), ([51], [53, 54, 55, 56, 57]), ([52], [48, 53, 54, 55, 56, 57]), ([53], [48, 49, 50, 51, 52, 55, 57, 58]), ([54], [48, 49, 50, 51, 52, 55, 58]), ([55], [48, 49, 50, 51, 52, 53, 54, 58]), ([56], [48, 49, 50, 51, 52]), ([57], [48, 49, 50, 51, 52, 53]), ([58], [48, 49, 50, 53, 54, 55])] (by kernel_rfl) fun K hK => ?_
    | with_reducible refine SpecC.condW fun A B hA hB => ?_
    | with_reducible refine SpecC.block ?_
    | with_reducible refine SpecC.skip ?_
    | with_reducible refine SpecC.label ?_
    | with_reducible refine SpecC.exit ?_
    | with_reducible refine SpecC.goto ?_
    | with_reducible refine SpecC.ret ?_
    | ((with_reducible first | refine condK.split (fun hb => ?_) (fun hb => ?_) | refine gK.split_t (fun hb => ?_) (fun hb => ?_) | refine gK.split_f (fun hb => ?_) (fun hb => ?_)) <;> try simp only [decide_not, ilt_t, ilt_f, ile_t, ile_f, nlt_t, nlt_f, nle_t, nle_f, Bool.not_eq_true', Bool.not_eq_false', Int.ofNat_lt, Int.ofNat_le] at hb)
    | simp only [go_sem, ↓reduceIte, reduceIte, Nat.reduceEqDiff, String.reduceEq, Nat.reduceLT, Nat.reduceLeDiff, Nat.reduceAdd, Nat.reduceMul, Nat.reduceSub, Nat.reduceBEq, reduceCtorEq, *]
    | with_reducible refine fun (bn : Bool) hbn => ?_))
        all_goals ((repeat clear hK); (repeat clear hA); (repeat clear hB))
        all_goals (clear hM hs; grind [alike])
  · have : ¬ a_hosts = b_hosts := by rintro rfl; exact hll rfl
    (repeat' (first
    | with_reducible refine callX.by (rules3_c _ _ ?_ ?_) ?_
    | with_reducible assumption
    | (with_reducible refine NxK.out hK _ ?_; clear hK K)
    | with_reducible refine NxK.out (by assumption) _ ?_
    | with_reducible refine Nx.out (by assumption) ?_
    | with_reducible refine SpecC.seqW fun K hK => ?_
    | with_reducible refine SpecC.regW T fun K hK => ?_
    | with_reducible refine SpecC.drawW (id := 6) T mixed [([48], [50, 52, 53, 54, 55, 56, 57, 58]), ([49], [50, 53, 54, 55, 56, 57, 58]), ([50], [48, 49, 53, 54, 55, 56, 57, 58]), ([51], [53, 54, 55, 56, 57]), ([52], [48, 53, 54, 55, 56, 57]), ([53], [48, 49, 50, 51, 52, 55, 57, 58]), ([54], [48, 49, 50, 51, 52, 55, 58]), ([55], [48, 49, 50, 51, 52, 53, 54, 58]), ([56], [48, 49, 50, 51, 52]), ([57], [48, 49, 50, 51, 52, 53]), ([58], [48, 49, 50, 53, 54, 55])] (by kernel_rfl) fun K hK => ?_
    | with_reducible refine SpecC.condW fun A B hA hB => ?_
    | with_reducible refine SpecC.block ?_
    | with_reducible refine SpecC.skip ?_
    | with_reducible refine SpecC.label ?_
    | with_reducible refine SpecC.exit ?_
    | with_reducible refine SpecC.goto ?_
    | with_reducible refine SpecC.ret ?_
    | ((with_reducible first | refine condK.split (fun hb => ?_) (fun hb => ?_) | refine gK.split_t (fun hb => ?_) (fun hb => ?_) | refine gK.split_f (fun hb => ?_) (fun hb => ?_)) <;> try simp only [decide_not, ilt_t, ilt_f, ile_t, ile_f, nlt_t, nlt_f, nle_t, nle_f, Bool.not_eq_true', Bool.not_eq_false', Int.ofNat_lt, Int.ofNat_le] at hb)
    | simp only [go_sem, ↓reduceIte, reduceIte, Nat.reduceEqDiff, String.reduceEq, Nat.reduceLT, Nat.reduceLeDiff, Nat.reduceAdd, Nat.reduceMul, Nat.reduceSub, Nat.reduceBEq, reduceCtorEq, *]
    | with_reducible refine fun (bn : Bool) hbn => ?_))
    all_goals ((repeat clear hK); (repeat clear hA); (repeat clear hB))
    all_goals (clear hs; grind [alike])

set_option maxRecDepth 30000 in
theorem same3_c (a_kind : Int) (a_name : List UInt8) (a_ver : Int) (a_port : Int) (a_to : List UInt8) (a_rules : List Rule) (a_hosts : List Int) (b_kind : Int) (b_name : List UInt8) (b_ver : Int) (b_port : Int) (b_to : List UInt8) (b_rules : List Rule) (b_hosts : List Int) (hh : Small a_hosts.length) (hl : Small a_rules.length) (hs : ∀ x ∈ a_rules, SmRule x) : CallR Try.prog 43 [.agg [.int .i64 a_kind, .str a_name, .int .i64 a_ver, .int .i64 a_port, .str a_to, .slice false (avs a_rules), .slice false (avs a_hosts)], .agg [.int .i64 b_kind, .str b_name, .int .i64 b_ver, .int .i64 b_port, .str b_to, .slice false (avs b_rules), .slice false (avs b_hosts)]] (.val (.bool (decide ((⟨a_kind, a_name, a_ver, a_port, a_to, a_rules, a_hosts⟩ : Res) = (⟨b_kind, b_name, b_ver, b_port, b_to, b_rules, b_hosts⟩ : Res))))) := by
  refine CallR.go2 (T := T) Try.call43 Try.func43 rfl Try.ntmps43 (congrArg Array.toList Try.results43) (by decide) fun ts hn h0 h1 => ?_
  (repeat' (first
    | with_reducible refine callX.by (alike3_c _ _ _ _ _ _ _ _ _ _ _ _ _ _ ?_ ?_ ?_) ?_
    | with_reducible assumption
    | (with_reducible refine NxK.out hK _ ?_; clear hK K)
    | with_reducible refine NxK.out (by assumption) _ ?_
    | with_reducible refine Nx.out (by assumption) ?_
    | with_reducible refine SpecC.seqW fun K hK => ?_
    | with_reducible refine SpecC.regW T fun K hK => ?_
    | with_reducible refine SpecC.condW fun A B hA hB => ?_
    | with_reducible refine SpecC.block ?_
    | with_reducible refine SpecC.skip ?_
    | with_reducible refine SpecC.label ?_
    | with_reducible refine SpecC.exit ?_
    | with_reducible refine SpecC.goto ?_
    | with_reducible refine SpecC.ret ?_
    | ((with_reducible first | refine condK.split (fun hb => ?_) (fun hb => ?_) | refine gK.split_t (fun hb => ?_) (fun hb => ?_) | refine gK.split_f (fun hb => ?_) (fun hb => ?_)) <;> try simp only [decide_not, ilt_t, ilt_f, ile_t, ile_f, nlt_t, nlt_f, nle_t, nle_f, Bool.not_eq_true', Bool.not_eq_false', Int.ofNat_lt, Int.ofNat_le] at hb)
    | simp only [go_sem, ↓reduceIte, reduceIte, Nat.reduceEqDiff, String.reduceEq, Nat.reduceLT, Nat.reduceLeDiff, Nat.reduceAdd, Nat.reduceMul, Nat.reduceSub, Nat.reduceBEq, reduceCtorEq, *]
    | with_reducible refine fun (bn : Bool) hbn => ?_))
  all_goals ((repeat clear hK); (repeat clear hA); (repeat clear hB))
  all_goals (clear hs; grind [alike])

set_option maxRecDepth 30000 in
theorem all4_c (xs ys : List Res) (hl : Small xs.length) (hs : ∀ x ∈ xs, SmRes x) : CallR Try.prog 16 [.slice false (avs xs), .slice false (avs ys)] (.val (.bool (decide (xs = ys)))) := by
  refine CallR.go2 (T := T) Try.call16 Try.func16 rfl Try.ntmps16 (congrArg Array.toList Try.results16) (by decide) fun ts hn h0 h1 => ?_
  by_cases hll : xs.length = ys.length
  · (repeat' (first
    | with_reducible refine callX.by (same3_c _ _ _ _ _ _ _ _ _ _ _ _ _ _ ?_ ?_ ?_) ?_
    | with_reducible assumption
    | (with_reducible refine NxK.out hK _ ?_; clear hK K)
    | with_reducible refine NxK.out (by assumption) _ ?_
    | with_reducible refine Nx.out (by assumption) ?_
    | with_reducible refine SpecC.seqW fun K hK => ?_
    | with_reducible refine SpecC.regW T fun K hK => ?_
    | with_reducible refine SpecC.drawW (id := 6) T mixed [([17], [18, 21, 22, 23, 24, 25, 26]), ([18], [17, 21, 22, 23, 24, 25, 26]), ([19], [21, 22, 23, 24, 26]), ([20], [21, 22, 23, 24]), ([21], [17, 18, 19, 20, 22, 25, 26]), ([22], [17, 18, 19, 20, 21, 25, 26]), ([23], [17, 18, 19, 20, 26]), ([24], [17, 18, 19, 20]), ([25], [17, 18, 21, 22]), ([26], [17, 18, 19, 21, 22, 23])] (by kernel_rfl) fun K hK => ?_
    | with_reducible refine SpecC.condW fun A B hA hB => ?_
    | with_reducible refine SpecC.block ?_
    | with_reducible refine SpecC.skip ?_
    | with_reducible refine SpecC.label ?_
    | with_reducible refine SpecC.exit ?_
    | with_reducible refine SpecC.goto ?_
    | with_reducible refine SpecC.ret ?_
    | ((with_reducible first | refine condK.split (fun hb => ?_) (fun hb => ?_) | refine gK.split_t (fun hb => ?_) (fun hb => ?_) | refine gK.split_f (fun hb => ?_) (fun hb => ?_)) <;> try simp only [decide_not, ilt_t, ilt_f, ile_t, ile_f, nlt_t, nlt_f, nle_t, nle_f, Bool.not_eq_true', Bool.not_eq_false', Int.ofNat_lt, Int.ofNat_le] at hb)
    | simp only [go_sem, ↓reduceIte, reduceIte, Nat.reduceEqDiff, String.reduceEq, Nat.reduceLT, Nat.reduceLeDiff, Nat.reduceAdd, Nat.reduceMul, Nat.reduceSub, Nat.reduceBEq, reduceCtorEq, *]
    | with_reducible refine fun (bn : Bool) hbn => ?_))
    refine SpecC.loopF [0, 1] (fun m ts' => ∃ (i : Nat), m = xs.length - i ∧ i ≤ xs.length ∧ xs.take i = ys.take i ∧ ts'.tmp 5 = .int .i64 i) xs.length ?_ ?_
    · refine ⟨0, ?_⟩
      simp only [go_sem, ↓reduceIte, reduceIte, Nat.reduceEqDiff, String.reduceEq, Nat.reduceLT, Nat.reduceLeDiff, Nat.reduceAdd, Nat.reduceMul, Nat.reduceSub, Nat.reduceBEq, reduceCtorEq, *]
    · rintro m A hM ts' hk ⟨i, hm, f1, f2, s1⟩
      simp only [go_sem, ↓reduceIte, reduceIte, Nat.reduceEqDiff, String.reduceEq, Nat.reduceLT, Nat.reduceLeDiff, Nat.reduceAdd, Nat.reduceMul, Nat.reduceSub, Nat.reduceBEq, reduceCtorEq, *] at hk
      by_cases hlt : i < xs.length
      · have hlu : i < ys.length := by omega
        have hne := take_ne hlt hlu
        obtain ⟨hs1, hs2, hs3, hs4, hs5⟩ := hs xs[i] (List.getElem_mem hlt)
        (repeat' (first
    | with_reducible refine callX.by (same3_c _ _ _ _ _ _ _ _ _ _ _ _ _ _ ?_ ?_ ?_) ?_
    | with_reducible assumption
    | (with_reducible refine NxK.out hK _ ?_; clear hK K)
    | with_reducible refine NxK.out (by assumption) _ ?_
    | with_reducible refine Nx.out (by assumption) ?_
    | with_reducible refine SpecC.seqW fun K hK => ?_
    | with_reducible refine SpecC.regW T fun K hK => ?_
    | with_reducible refine SpecC.drawW (id := 6) T mixed [([17], [18, 21, 22, 23, 24, 25, 26]), ([18], [17, 21, 22, 23, 24, 25, 26]), ([19], [21, 22, 23, 24, 26]), ([20], [21, 22, 23, 24]), ([21], [17, 18, 19, 20, 22, 25, 26]), ([22], [17, 18, 19, 20, 21, 25, 26]), ([23], [17, 18, 19, 20, 26]), ([24], [17, 18, 19, 20]), ([25], [17, 18, 21, 22]), ([26], [17, 18, 19, 21, 22, 23])] (by kernel_rfl) fun K hK => ?_
    | with_reducible refine SpecC.condW fun A B hA hB => ?_
    | with_reducible refine SpecC.block ?_
    | with_reducible refine SpecC.skip ?_
    | with_reducible refine SpecC.label ?_
    | with_reducible refine SpecC.exit ?_
    | with_reducible refine SpecC.goto ?_
    | with_reducible refine SpecC.ret ?_
    | ((with_reducible first | refine condK.split (fun hb => ?_) (fun hb => ?_) | refine gK.split_t (fun hb => ?_) (fun hb => ?_) | refine gK.split_f (fun hb => ?_) (fun hb => ?_)) <;> try simp only [decide_not, ilt_t, ilt_f, ile_t, ile_f, nlt_t, nlt_f, nle_t, nle_f, Bool.not_eq_true', Bool.not_eq_false', Int.ofNat_lt, Int.ofNat_le] at hb)
    | simp only [go_sem, ↓reduceIte, reduceIte, Nat.reduceEqDiff, String.reduceEq, Nat.reduceLT, Nat.reduceLeDiff, Nat.reduceAdd, Nat.reduceMul, Nat.reduceSub, Nat.reduceBEq, reduceCtorEq, *]
    | with_reducible refine fun (bn : Bool) hbn => ?_))
        all_goals ((repeat clear hK); (repeat clear hA); (repeat clear hB))
        all_goals clear hs hs4
        all_goals first
          | (refine hM.on (xs.length - (i + 1)) (by omega) (by simp only [go_sem, ↓reduceIte, reduceIte, Nat.reduceEqDiff, String.reduceEq, Nat.reduceLT, Nat.reduceLeDiff, Nat.reduceAdd, Nat.reduceMul, Nat.reduceSub, Nat.reduceBEq, reduceCtorEq, *, w64_nat hlt hl]) ⟨i + 1, rfl, by omega, by clear hM; apply take_get f2 hlt hlu; grind, ?_⟩; simp only [go_sem, ↓reduceIte, reduceIte, Nat.reduceEqDiff, String.reduceEq, Nat.reduceLT, Nat.reduceLeDiff, Nat.reduceAdd, Nat.reduceMul, Nat.reduceSub, Nat.reduceBEq, reduceCtorEq, *, w64_nat hlt hl]; done)
          | (clear hM; grind)
      · have := take_all f2 hlt hll
        (repeat' (first
    | with_reducible refine callX.by (same3_c _ _ _ _ _ _ _ _ _ _ _ _ _ _ ?_ ?_ ?_) ?_
    | with_reducible assumption
    | (with_reducible refine NxK.out hK _ ?_; clear hK K)
    | with_reducible refine NxK.out (by assumption) _ ?_
    | with_reducible refine Nx.out (by assumption) ?_
    | with_reducible refine SpecC.seqW fun K hK => ?_
    | with_reducible refine SpecC.regW T fun K hK => ?_
    | with_reducible refine SpecC.drawW (id := 6) T mixed [([17], [18, 21, 22, 23, 24, 25, 26]), ([18], [17, 21, 22, 23, 24, 25, 26]), ([19], [21, 22, 23, 24, 26]), ([20], [21, 22, 23, 24]), ([21], [17, 18, 19, 20, 22, 25, 26]), ([22], [17, 18, 19, 20, 21, 25, 26]), ([23], [17, 18, 19, 20, 26]), ([24], [17, 18, 19, 20]), ([25], [17, 18, 21, 22]), ([26], [17, 18, 19, 21, 22, 23])] (by kernel_rfl) fun K hK => ?_
    | with_reducible refine SpecC.condW fun A B hA hB => ?_
    | with_reducible refine SpecC.block ?_
    | with_reducible refine SpecC.skip ?_
    | with_reducible refine SpecC.label ?_
    | with_reducible refine SpecC.exit ?_
    | with_reducible refine SpecC.goto ?_
    | with_reducible refine SpecC.ret ?_
    | ((with_reducible first | refine condK.split (fun hb => ?_) (fun hb => ?_) | refine gK.split_t (fun hb => ?_) (fun hb => ?_) | refine gK.split_f (fun hb => ?_) (fun hb => ?_)) <;> try simp only [decide_not, ilt_t, ilt_f, ile_t, ile_f, nlt_t, nlt_f, nle_t, nle_f, Bool.not_eq_true', Bool.not_eq_false', Int.ofNat_lt, Int.ofNat_le] at hb)
    | simp only [go_sem, ↓reduceIte, reduceIte, Nat.reduceEqDiff, String.reduceEq, Nat.reduceLT, Nat.reduceLeDiff, Nat.reduceAdd, Nat.reduceMul, Nat.reduceSub, Nat.reduceBEq, reduceCtorEq, *]
    | with_reducible refine fun (bn : Bool) hbn => ?_))
        all_goals ((repeat clear hK); (repeat clear hA); (repeat clear hB))
        all_goals (clear hM hs; grind)
  · have : ¬ xs = ys := by rintro rfl; exact hll rfl
    (repeat' (first
    | with_reducible refine callX.by (same3_c _ _ _ _ _ _ _ _ _ _ _ _ _ _ ?_ ?_ ?_) ?_
    | with_reducible assumption
    | (with_reducible refine NxK.out hK _ ?_; clear hK K)
    | with_reducible refine NxK.out (by assumption) _ ?_
    | with_reducible refine Nx.out (by assumption) ?_
    | with_reducible refine SpecC.seqW fun K hK => ?_
    | with_reducible refine SpecC.regW T fun K hK => ?_
    | with_reducible refine SpecC.drawW (id := 6) T mixed [([17], [18, 21, 22, 23, 24, 25, 26]), ([18], [17, 21, 22, 23, 24, 25, 26]), ([19], [21, 22, 23, 24, 26]), ([20], [21, 22, 23, 24]), ([21], [17, 18, 19, 20, 22, 25, 26]), ([22], [17, 18, 19, 20, 21, 25, 26]), ([23], [17, 18, 19, 20, 26]), ([24], [17, 18, 19, 20]), ([25], [17, 18, 21, 22]), ([26], [17, 18, 19, 21, 22, 23])] (by kernel_rfl) fun K hK => ?_
    | with_reducible refine SpecC.condW fun A B hA hB => ?_
    | with_reducible refine SpecC.block ?_
    | with_reducible refine SpecC.skip ?_
    | with_reducible refine SpecC.label ?_
    | with_reducible refine SpecC.exit ?_
    | with_reducible refine SpecC.goto ?_
    | with_reducible refine SpecC.ret ?_
    | ((with_reducible first | refine condK.split (fun hb => ?_) (fun hb => ?_) | refine gK.split_t (fun hb => ?_) (fun hb => ?_) | refine gK.split_f (fun hb => ?_) (fun hb => ?_)) <;> try simp only [decide_not, ilt_t, ilt_f, ile_t, ile_f, nlt_t, nlt_f, nle_t, nle_f, Bool.not_eq_true', Bool.not_eq_false', Int.ofNat_lt, Int.ofNat_le] at hb)
    | simp only [go_sem, ↓reduceIte, reduceIte, Nat.reduceEqDiff, String.reduceEq, Nat.reduceLT, Nat.reduceLeDiff, Nat.reduceAdd, Nat.reduceMul, Nat.reduceSub, Nat.reduceBEq, reduceCtorEq, *]
    | with_reducible refine fun (bn : Bool) hbn => ?_))
    all_goals ((repeat clear hK); (repeat clear hA); (repeat clear hB))
    all_goals (clear hs; grind)

def fewAll (xs : List Res) : Bool := xs.all fewRes && decide (xs.length ≤ 80)

set_option maxRecDepth 30000 in
theorem few4_c (xs : List Res) (hl : Small xs.length) (hs : ∀ x ∈ xs, SmRes x) : CallR Try.prog 18 [.slice false (avs xs)] (.val (.bool (fewAll xs))) := by
  refine CallR.go1 (T := T) Try.call18 Try.func18 rfl Try.ntmps18 (congrArg Array.toList Try.results18) (by decide) fun ts hn h0 => ?_
  (repeat' (first
    | with_reducible refine callX.by (fewRes_c _ _ _ _ _ _ _ ?_) ?_
    | with_reducible assumption
    | (with_reducible refine NxK.out hK _ ?_; clear hK K)
    | with_reducible refine NxK.out (by assumption) _ ?_
    | with_reducible refine Nx.out (by assumption) ?_
    | with_reducible refine SpecC.seqW fun K hK => ?_
    | with_reducible refine SpecC.regW T fun K hK => ?_
    | with_reducible refine SpecC.condW fun A B hA hB => ?_
    | with_reducible refine SpecC.block ?_
    | with_reducible refine SpecC.skip ?_
    | with_reducible refine SpecC.label ?_
    | with_reducible refine SpecC.exit ?_
    | with_reducible refine SpecC.goto ?_
    | with_reducible refine SpecC.ret ?_
    | ((with_reducible first | refine condK.split (fun hb => ?_) (fun hb => ?_) | refine gK.split_t (fun hb => ?_) (fun hb => ?_) | refine gK.split_f (fun hb => ?_) (fun hb => ?_)) <;> try simp only [decide_not, ilt_t, ilt_f, ile_t, ile_f, nlt_t, nlt_f, nle_t, nle_f, Bool.not_eq_true', Bool.not_eq_false', Int.ofNat_lt, Int.ofNat_le] at hb)
    | simp only [go_sem, ↓reduceIte, reduceIte, Nat.reduceEqDiff, String.reduceEq, Nat.reduceLT, Nat.reduceLeDiff, Nat.reduceAdd, Nat.reduceMul, Nat.reduceSub, Nat.reduceBEq, reduceCtorEq, *]
    | with_reducible refine fun (bn : Bool) hbn => ?_))
  refine SpecC.loopF [0] (fun m ts' => ∃ (i : Nat), m = xs.length - i ∧ i ≤ xs.length ∧ xs.all fewRes = (xs.drop i).all fewRes ∧ ts'.tmp 3 = .int .i64 i) xs.length ?_ ?_
  · refine ⟨0, ?_⟩
    simp only [go_sem, ↓reduceIte, reduceIte, Nat.reduceEqDiff, String.reduceEq, Nat.reduceLT, Nat.reduceLeDiff, Nat.reduceAdd, Nat.reduceMul, Nat.reduceSub, Nat.reduceBEq, reduceCtorEq, *]
  · rintro m A hM ts' hk ⟨i, hm, f1, f2, s1⟩
    simp only [go_sem, ↓reduceIte, reduceIte, Nat.reduceEqDiff, String.reduceEq, Nat.reduceLT, Nat.reduceLeDiff, Nat.reduceAdd, Nat.reduceMul, Nat.reduceSub, Nat.reduceBEq, reduceCtorEq, *] at hk
    by_cases hlt : i < xs.length
    · rw [List.drop_eq_getElem_cons hlt, List.all_cons] at f2
      obtain ⟨hs1, hs2, hs3, hs4, hs5⟩ := hs xs[i] (List.getElem_mem hlt)
      (repeat' (first
    | with_reducible refine callX.by (fewRes_c _ _ _ _ _ _ _ ?_) ?_
    | with_reducible assumption
    | (with_reducible refine NxK.out hK _ ?_; clear hK K)
    | with_reducible refine NxK.out (by assumption) _ ?_
    | with_reducible refine Nx.out (by assumption) ?_
    | with_reducible refine SpecC.seqW fun K hK => ?_
    | with_reducible refine SpecC.regW T fun K hK => ?_
    | with_reducible refine SpecC.condW fun A B hA hB => ?_
    | with_reducible refine SpecC.block ?_
    | with_reducible refine SpecC.skip ?_
    | with_reducible refine SpecC.label ?_
    | with_reducible refine SpecC.exit ?_
    | with_reducible refine SpecC.goto ?_
    | with_reducible refine SpecC.ret ?_
    | ((with_reducible first | refine condK.split (fun hb => ?_) (fun hb => ?_) | refine gK.split_t (fun hb => ?_) (fun hb => ?_) | refine gK.split_f (fun hb => ?_) (fun hb => ?_)) <;> try simp only [decide_not, ilt_t, ilt_f, ile_t, ile_f, nlt_t, nlt_f, nle_t, nle_f, Bool.not_eq_true', Bool.not_eq_false', Int.ofNat_lt, Int.ofNat_le] at hb)
    | simp only [go_sem, ↓reduceIte, reduceIte, Nat.reduceEqDiff, String.reduceEq, Nat.reduceLT, Nat.reduceLeDiff, Nat.reduceAdd, Nat.reduceMul, Nat.reduceSub, Nat.reduceBEq, reduceCtorEq, *]
    | with_reducible refine fun (bn : Bool) hbn => ?_))
      all_goals ((repeat clear hK); (repeat clear hA); (repeat clear hB))
      all_goals clear hs hs4
      all_goals first
        | (refine hM.on (xs.length - (i + 1)) (by omega) (by simp only [go_sem, ↓reduceIte, reduceIte, Nat.reduceEqDiff, String.reduceEq, Nat.reduceLT, Nat.reduceLeDiff, Nat.reduceAdd, Nat.reduceMul, Nat.reduceSub, Nat.reduceBEq, reduceCtorEq, *, w64_nat hlt hl, -f2]) ⟨i + 1, rfl, by omega, by clear hM; grind, ?_⟩; simp only [go_sem, ↓reduceIte, reduceIte, Nat.reduceEqDiff, String.reduceEq, Nat.reduceLT, Nat.reduceLeDiff, Nat.reduceAdd, Nat.reduceMul, Nat.reduceSub, Nat.reduceBEq, reduceCtorEq, *, w64_nat hlt hl, -f2]; done)
        | (clear hM; grind [fewAll])
    · rw [List.drop_eq_nil_of_le (by omega), List.all_nil] at f2
      (repeat' (first
    | with_reducible refine callX.by (fewRes_c _ _ _ _ _ _ _ ?_) ?_
    | with_reducible assumption
    | (with_reducible refine NxK.out hK _ ?_; clear hK K)
    | with_reducible refine NxK.out (by assumption) _ ?_
    | with_reducible refine Nx.out (by assumption) ?_
    | with_reducible refine SpecC.seqW fun K hK => ?_
    | with_reducible refine SpecC.regW T fun K hK => ?_
    | with_reducible refine SpecC.condW fun A B hA hB => ?_
    | with_reducible refine SpecC.block ?_
    | with_reducible refine SpecC.skip ?_
    | with_reducible refine SpecC.label ?_
    | with_reducible refine SpecC.exit ?_
    | with_reducible refine SpecC.goto ?_
    | with_reducible refine SpecC.ret ?_
    | ((with_reducible first | refine condK.split (fun hb => ?_) (fun hb => ?_) | refine gK.split_t (fun hb => ?_) (fun hb => ?_) | refine gK.split_f (fun hb => ?_) (fun hb => ?_)) <;> try simp only [decide_not, ilt_t, ilt_f, ile_t, ile_f, nlt_t, nlt_f, nle_t, nle_f, Bool.not_eq_true', Bool.not_eq_false', Int.ofNat_lt, Int.ofNat_le] at hb)
    | simp only [go_sem, ↓reduceIte, reduceIte, Nat.reduceEqDiff, String.reduceEq, Nat.reduceLT, Nat.reduceLeDiff, Nat.reduceAdd, Nat.reduceMul, Nat.reduceSub, Nat.reduceBEq, reduceCtorEq, *]
    | with_reducible refine fun (bn : Bool) hbn => ?_))
      all_goals ((repeat clear hK); (repeat clear hA); (repeat clear hB))
      all_goals (clear hM hs; grind [fewAll])

def rsane (p : Pins) : Pins := if rSane p then p else ⟨0, []⟩
theorem rsane_small {p : Pins} (h : Small p.snaps.length) : Small (rsane p).snaps.length := by
  unfold rsane; split
  · exact h
  · simp [Small]

set_option maxRecDepth 30000 in
theorem rsane_c (next : Int) (xs : List Snap) (hl : Small xs.length) : CallR Try.prog 49 [.agg [.int .i64 next, .slice false (avs xs)]] (.val (Dat.av (rsane ⟨next, xs⟩))) := by
  refine CallR.go1 (T := T) Try.call49 Try.func49 rfl Try.ntmps49 (congrArg Array.toList Try.results49) (by decide) fun ts hn h0 => ?_
  (repeat' (first
    | with_reducible refine callX.by (rSane_c _ _ ?_) ?_
    | with_reducible assumption
    | (with_reducible refine NxK.out hK _ ?_; clear hK K)
    | with_reducible refine NxK.out (by assumption) _ ?_
    | with_reducible refine Nx.out (by assumption) ?_
    | with_reducible refine SpecC.seqW fun K hK => ?_
    | with_reducible refine SpecC.regW T fun K hK => ?_
    | with_reducible refine SpecC.condW fun A B hA hB => ?_
    | with_reducible refine SpecC.block ?_
    | with_reducible refine SpecC.skip ?_
    | with_reducible refine SpecC.label ?_
    | with_reducible refine SpecC.exit ?_
    | with_reducible refine SpecC.goto ?_
    | with_reducible refine SpecC.ret ?_
    | ((with_reducible first | refine condK.split (fun hb => ?_) (fun hb => ?_) | refine gK.split_t (fun hb => ?_) (fun hb => ?_) | refine gK.split_f (fun hb => ?_) (fun hb => ?_)) <;> try simp only [decide_not, ilt_t, ilt_f, ile_t, ile_f, nlt_t, nlt_f, nle_t, nle_f, Bool.not_eq_true', Bool.not_eq_false', Int.ofNat_lt, Int.ofNat_le] at hb)
    | simp only [go_sem, ↓reduceIte, reduceIte, Nat.reduceEqDiff, String.reduceEq, Nat.reduceLT, Nat.reduceLeDiff, Nat.reduceAdd, Nat.reduceMul, Nat.reduceSub, Nat.reduceBEq, reduceCtorEq, *]
    | with_reducible refine fun (bn : Bool) hbn => ?_))
  all_goals simp [rsane, *, avs_nil, av_Pins]

def rwith (p : Pins) (i : Nat) (s : Snap) : Pins := ⟨p.next', p.snaps.take i ++ (if 0 < s.pins ∨ i + 1 = p.snaps.length then [s] else []) ++ p.snaps.drop (i + 1)⟩

set_option maxRecDepth 30000 in
theorem rwith_c (next : Int) (xs : List Snap) (i : Nat) (s_id : Int) (s_pins : Int) (s_l : List Res) (hl : Small xs.length) (hi : i < xs.length) : CallR Try.prog 50 [.agg [.int .i64 next, .slice false (avs xs)], .int .i64 i, .agg [.int .i64 s_id, .int .i64 s_pins, .slice false (avs s_l)]] (.val (Dat.av (rwith ⟨next, xs⟩ i (⟨s_id, s_pins, s_l⟩ : Snap)))) := by
  refine CallR.go3 (T := T) Try.call50 Try.func50 rfl Try.ntmps50 (congrArg Array.toList Try.results50) (by decide) fun ts hn h0 h1 h2 => ?_
  have hi1 : i ≤ xs.length := by omega
  have hi2 : i + 1 ≤ xs.length := by omega
  have ht : (xs.take i).length = i := by rw [List.length_take]; omega
  have ht2 : (xs.take i).take i = xs.take i := by rw [List.take_take, Nat.min_self]
  have ht3 : (xs.drop (i + 1)).take (xs.length - (i + 1)) = xs.drop (i + 1) := List.take_of_length_le (by simp)
  have ht4 : ∀ x : Snap, (xs.take i ++ [x]).take (i + 1) = xs.take i ++ [x] := fun x => List.take_of_length_le (by simp [ht])
  have ht5 : (xs.take i ++ xs.drop (i + 1)).take (i + (xs.length - (i + 1))) = xs.take i ++ xs.drop (i + 1) := List.take_of_length_le (by simp [ht])
  have ht6 : ∀ x : Snap, (xs.take i ++ [x] ++ xs.drop (i + 1)).take (i + 1 + (xs.length - (i + 1))) = xs.take i ++ [x] ++ xs.drop (i + 1) := fun x => List.take_of_length_le (by simp [ht]; omega)
  have ht7 : ∀ x : Snap, (xs.take i ++ [x]).length = i + 1 := fun x => by simp [ht]
  have hw : IntKind.i64.wrap ((xs.length : Int) - 1) = ((xs.length - 1 : Nat) : Int) := by
    rw [w64_pred hl]; omega
  have hr1 : Room i 40 := room_big (by unfold Small at hl; omega) (by decide)
  have hr2 : Room (i + 1) 40 := room_big (by unfold Small at hl; omega) (by decide)
  have hr3 : Room (i + (xs.length - (i + 1))) 40 := room_big (by unfold Small at hl; omega) (by decide)
  have hr4 : Room (i + 1 + (xs.length - (i + 1))) 40 := room_big (by unfold Small at hl; omega) (by decide)
  (repeat' (first
    | with_reducible assumption
    | (with_reducible refine NxK.out hK _ ?_; clear hK K)
    | with_reducible refine NxK.out (by assumption) _ ?_
    | with_reducible refine Nx.out (by assumption) ?_
    | with_reducible refine SpecC.seqW fun K hK => ?_
    | with_reducible refine SpecC.regW T fun K hK => ?_
    | with_reducible refine SpecC.condW fun A B hA hB => ?_
    | with_reducible refine SpecC.block ?_
    | with_reducible refine SpecC.skip ?_
    | with_reducible refine SpecC.label ?_
    | with_reducible refine SpecC.exit ?_
    | with_reducible refine SpecC.goto ?_
    | with_reducible refine SpecC.ret ?_
    | ((with_reducible first | refine condK.split (fun hb => ?_) (fun hb => ?_) | refine gK.split_t (fun hb => ?_) (fun hb => ?_) | refine gK.split_f (fun hb => ?_) (fun hb => ?_)) <;> try simp only [decide_not, ilt_t, ilt_f, ile_t, ile_f, nlt_t, nlt_f, nle_t, nle_f, Bool.not_eq_true', Bool.not_eq_false', Int.ofNat_lt, Int.ofNat_le] at hb)
    | simp only [go_sem, ↓reduceIte, reduceIte, Nat.reduceEqDiff, String.reduceEq, Nat.reduceLT, Nat.reduceLeDiff, Nat.reduceAdd, Nat.reduceMul, Nat.reduceSub, Nat.reduceBEq, reduceCtorEq, *, w64_nat hi hl, hw, ht, Int.le_refl, Int.toNat_zero, Nat.sub_zero]
    | with_reducible refine fun (bn : Bool) hbn => ?_))
  all_goals ((repeat clear hK); (repeat clear hA); (repeat clear hB))
  · simp [rwith, hb]
  · rw [rwith, if_pos (.inr (by grind))]; simp
  · rw [rwith, if_neg (by rintro (h | h) <;> grind)]; simp
end Go.Proofs.Ytjmnokbbodcaaaa.Lg
