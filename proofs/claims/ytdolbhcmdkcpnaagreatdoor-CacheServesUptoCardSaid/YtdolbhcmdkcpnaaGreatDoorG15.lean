/- Parts of the proof, one behind the other. -/
import Derived.Shelf.SlGeneric
import Derived.Shelf.SlSortCmp.NoneTotal
import Derived.Ground.SlsfProg
import Derived.Test.YtdolbhcmdkcpnaaGreatDoorProg
import Derived.Test.YtdolbhcmdkcpnaaGreatDoorG14
namespace Go.Proofs.YtdolbhcmdkcpnaaGreatDoor.Lg
set_option maxRecDepth 100000
set_option linter.unusedVariables false
set_option linter.unusedSimpArgs false
open Go
def alike (a b : Res) : Bool := decide (a.kind = b.kind ∧ a.name = b.name ∧ a.port = b.port ∧ a.to' = b.to' ∧ a.rules' = b.rules' ∧ a.hosts = b.hosts)
set_option maxRecDepth 30000 in
set_option maxHeartbeats 4000000 in
theorem alike3_c (a_kind : Int) (a_name : List UInt8) (a_ver : Int) (a_port : Int) (a_to : List UInt8) (a_rules : List Rule) (a_hosts : List Int) (b_kind : Int) (b_name : List UInt8) (b_ver : Int) (b_port : Int) (b_to : List UInt8) (b_rules : List Rule) (b_hosts : List Int) (hh : Small a_hosts.length) (hl : Small a_rules.length) (hs : ∀ x ∈ a_rules, SmRule x) : CallR Tryz.prog 106 [.agg [.int .i64 a_kind, .str a_name, .int .i64 a_ver, .int .i64 a_port, .str a_to, .slice false (avs a_rules), .slice false (avs a_hosts)], .agg [.int .i64 b_kind, .str b_name, .int .i64 b_ver, .int .i64 b_port, .str b_to, .slice false (avs b_rules), .slice false (avs b_hosts)]] (.val (.bool (alike (⟨a_kind, a_name, a_ver, a_port, a_to, a_rules, a_hosts⟩ : Res) (⟨b_kind, b_name, b_ver, b_port, b_to, b_rules, b_hosts⟩ : Res)))) := by
  refine CallR.go2 (T := T) Tryz.call106 Tryz.func106 rfl Tryz.ntmps106 (congrArg Array.toList Tryz.results106) (by decide) fun ts hn h0 h1 => ?_
  by_cases hll : a_hosts.length = b_hosts.length
  · (repeat' (first
 | (with_reducible first | refine callX.by (rules3_c _ _ ?_ ?_) ?_ | assumption | (refine NxK.out hK _ ?_; clear hK K) | refine NxK.out (by assumption) _ ?_ | refine Nx.out (by assumption) ?_ | refine SpecC.seqW fun K hK => ?_ | refine SpecC.regW T fun K hK => ?_ | refine SpecC.drawW (id := 6) T mixed [([48], [50, 52, 53, 54, 55, 56, 57]), ([49], [50, 53, 54, 55, 56, 57]), ([50], [48, 49, 53, 54, 55, 56, 57]), ([51], [53, 54, 55, 56, 57]), ([52], [48, 53, 54, 55, 56, 57]), ([53], [48, 49, 50, 51, 52, 55, 57]), ([54], [48, 49, 50, 51, 52, 55]), ([55], [48, 49, 50, 51, 52, 53, 54]), ([56], [48, 49, 50, 51, 52]), ([57], [48, 49, 50, 51, 52, 53])] (by kernel_rfl) fun K hK => ?_ | refine SpecC.condW fun A B hA hB => ?_ | refine SpecC.block ?_ | refine SpecC.skip ?_ | refine SpecC.label ?_ | refine SpecC.exit ?_ | refine SpecC.goto ?_ | refine SpecC.ret ?_)
 | ((with_reducible first | refine condK.split (fun hb => ?_) (fun hb => ?_) | refine gK.split_t (fun hb => ?_) (fun hb => ?_) | refine gK.split_f (fun hb => ?_) (fun hb => ?_)) <;> try simp only [decide_not, ilt_t, ilt_f, ile_t, ile_f, nlt_t, nlt_f, nle_t, nle_f, Bool.not_eq_true', Bool.not_eq_false', Int.ofNat_lt, Int.ofNat_le] at hb)
 | simp only [go_sem, ↓reduceIte, reduceIte, Nat.reduceEqDiff, String.reduceEq, Nat.reduceLT, Nat.reduceLeDiff, Nat.reduceAdd, Nat.reduceMul, Nat.reduceSub, Nat.reduceBEq, reduceCtorEq, *]
 | with_reducible refine fun (bn : Bool) hbn => ?_))
    iterate 4 (focus (all_goals ((repeat clear hK); (repeat clear hA); (repeat clear hB)); clear hs; grind [alike]))
    refine SpecC.loopF [2, 3] (fun m ts' => ∃ (i : Nat), m = a_hosts.length - i ∧ i ≤ a_hosts.length ∧ a_hosts.take i = b_hosts.take i ∧ ts'.tmp 5 = .int .i64 i) a_hosts.length ?_ ?_
    · refine ⟨0, ?_⟩
      simp only [go_sem, ↓reduceIte, reduceIte, Nat.reduceEqDiff, String.reduceEq, Nat.reduceLT, Nat.reduceLeDiff, Nat.reduceAdd, Nat.reduceMul, Nat.reduceSub, Nat.reduceBEq, reduceCtorEq, *]
    · rintro m A hM ts' hk ⟨i, hm, f1, f2, s1⟩
      simp only [go_sem, ↓reduceIte, reduceIte, Nat.reduceEqDiff, String.reduceEq, Nat.reduceLT, Nat.reduceLeDiff, Nat.reduceAdd, Nat.reduceMul, Nat.reduceSub, Nat.reduceBEq, reduceCtorEq, *] at hk
      by_cases hlt : i < a_hosts.length
      · have hlu : i < b_hosts.length := by omega
        have hne := take_ne hlt hlu
        (repeat' (first
 | (with_reducible first | refine callX.by (rules3_c _ _ ?_ ?_) ?_ | assumption | (refine NxK.out hK _ ?_; clear hK K) | refine NxK.out (by assumption) _ ?_ | refine Nx.out (by assumption) ?_ | refine SpecC.seqW fun K hK => ?_ | refine SpecC.regW T fun K hK => ?_ | refine SpecC.drawW (id := 6) T mixed [([48], [50, 52, 53, 54, 55, 56, 57]), ([49], [50, 53, 54, 55, 56, 57]), ([50], [48, 49, 53, 54, 55, 56, 57]), ([51], [53, 54, 55, 56, 57]), ([52], [48, 53, 54, 55, 56, 57]), ([53], [48, 49, 50, 51, 52, 55, 57]), ([54], [48, 49, 50, 51, 52, 55]), ([55], [48, 49, 50, 51, 52, 53, 54]), ([56], [48, 49, 50, 51, 52]), ([57], [48, 49, 50, 51, 52, 53])] (by kernel_rfl) fun K hK => ?_ | refine SpecC.condW fun A B hA hB => ?_ | refine SpecC.block ?_ | refine SpecC.skip ?_ | refine SpecC.label ?_ | refine SpecC.exit ?_ | refine SpecC.goto ?_ | refine SpecC.ret ?_)
 | ((with_reducible first | refine condK.split (fun hb => ?_) (fun hb => ?_) | refine gK.split_t (fun hb => ?_) (fun hb => ?_) | refine gK.split_f (fun hb => ?_) (fun hb => ?_)) <;> try simp only [decide_not, ilt_t, ilt_f, ile_t, ile_f, nlt_t, nlt_f, nle_t, nle_f, Bool.not_eq_true', Bool.not_eq_false', Int.ofNat_lt, Int.ofNat_le] at hb)
 | simp only [go_sem, ↓reduceIte, reduceIte, Nat.reduceEqDiff, String.reduceEq, Nat.reduceLT, Nat.reduceLeDiff, Nat.reduceAdd, Nat.reduceMul, Nat.reduceSub, Nat.reduceBEq, reduceCtorEq, *]
 | with_reducible refine fun (bn : Bool) hbn => ?_))
        all_goals ((repeat clear hK); (repeat clear hA); (repeat clear hB))
        all_goals first
          | (refine hM.on (a_hosts.length - (i + 1)) (by omega) (by simp only [go_sem, ↓reduceIte, reduceIte, Nat.reduceEqDiff, String.reduceEq, Nat.reduceLT, Nat.reduceLeDiff, Nat.reduceAdd, Nat.reduceMul, Nat.reduceSub, Nat.reduceBEq, reduceCtorEq, *, w64_nat hlt hh]) ⟨i + 1, rfl, by omega, by clear hM hs; apply take_get f2 hlt hlu; grind, ?_⟩; simp only [go_sem, ↓reduceIte, reduceIte, Nat.reduceEqDiff, String.reduceEq, Nat.reduceLT, Nat.reduceLeDiff, Nat.reduceAdd, Nat.reduceMul, Nat.reduceSub, Nat.reduceBEq, reduceCtorEq, *, w64_nat hlt hh]; done)
          | (clear hM hs; grind [alike])
      · have := take_all f2 hlt hll
        (repeat' (first
 | (with_reducible first | refine callX.by (rules3_c _ _ ?_ ?_) ?_ | assumption | (refine NxK.out hK _ ?_; clear hK K) | refine NxK.out (by assumption) _ ?_ | refine Nx.out (by assumption) ?_ | refine SpecC.seqW fun K hK => ?_ | refine SpecC.regW T fun K hK => ?_ | refine SpecC.drawW (id := 6) T mixed [([48], [50, 52, 53, 54, 55, 56, 57]), ([49], [50, 53, 54, 55, 56, 57]), ([50], [48, 49, 53, 54, 55, 56, 57]), ([51], [53, 54, 55, 56, 57]), ([52], [48, 53, 54, 55, 56, 57]), ([53], [48, 49, 50, 51, 52, 55, 57]), ([54], [48, 49, 50, 51, 52, 55]), ([55], [48, 49, 50, 51, 52, 53, 54]), ([56], [48, 49, 50, 51, 52]), ([57], [48, 49, 50, 51, 52, 53])] (by kernel_rfl) fun K hK => ?_ | refine SpecC.condW fun A B hA hB => ?_ | refine SpecC.block ?_ | refine SpecC.skip ?_ | refine SpecC.label ?_ | refine SpecC.exit ?_ | refine SpecC.goto ?_ | refine SpecC.ret ?_)
 | ((with_reducible first | refine condK.split (fun hb => ?_) (fun hb => ?_) | refine gK.split_t (fun hb => ?_) (fun hb => ?_) | refine gK.split_f (fun hb => ?_) (fun hb => ?_)) <;> try simp only [decide_not, ilt_t, ilt_f, ile_t, ile_f, nlt_t, nlt_f, nle_t, nle_f, Bool.not_eq_true', Bool.not_eq_false', Int.ofNat_lt, Int.ofNat_le] at hb)
 | simp only [go_sem, ↓reduceIte, reduceIte, Nat.reduceEqDiff, String.reduceEq, Nat.reduceLT, Nat.reduceLeDiff, Nat.reduceAdd, Nat.reduceMul, Nat.reduceSub, Nat.reduceBEq, reduceCtorEq, *]
 | with_reducible refine fun (bn : Bool) hbn => ?_))
        all_goals ((repeat clear hK); (repeat clear hA); (repeat clear hB))
        all_goals (clear hM hs; grind [alike])
  · have : ¬ a_hosts = b_hosts := by rintro rfl; exact hll rfl
    (repeat' (first
 | (with_reducible first | refine callX.by (rules3_c _ _ ?_ ?_) ?_ | assumption | (refine NxK.out hK _ ?_; clear hK K) | refine NxK.out (by assumption) _ ?_ | refine Nx.out (by assumption) ?_ | refine SpecC.seqW fun K hK => ?_ | refine SpecC.regW T fun K hK => ?_ | refine SpecC.drawW (id := 6) T mixed [([48], [50, 52, 53, 54, 55, 56, 57]), ([49], [50, 53, 54, 55, 56, 57]), ([50], [48, 49, 53, 54, 55, 56, 57]), ([51], [53, 54, 55, 56, 57]), ([52], [48, 53, 54, 55, 56, 57]), ([53], [48, 49, 50, 51, 52, 55, 57]), ([54], [48, 49, 50, 51, 52, 55]), ([55], [48, 49, 50, 51, 52, 53, 54]), ([56], [48, 49, 50, 51, 52]), ([57], [48, 49, 50, 51, 52, 53])] (by kernel_rfl) fun K hK => ?_ | refine SpecC.condW fun A B hA hB => ?_ | refine SpecC.block ?_ | refine SpecC.skip ?_ | refine SpecC.label ?_ | refine SpecC.exit ?_ | refine SpecC.goto ?_ | refine SpecC.ret ?_)
 | ((with_reducible first | refine condK.split (fun hb => ?_) (fun hb => ?_) | refine gK.split_t (fun hb => ?_) (fun hb => ?_) | refine gK.split_f (fun hb => ?_) (fun hb => ?_)) <;> try simp only [decide_not, ilt_t, ilt_f, ile_t, ile_f, nlt_t, nlt_f, nle_t, nle_f, Bool.not_eq_true', Bool.not_eq_false', Int.ofNat_lt, Int.ofNat_le] at hb)
 | simp only [go_sem, ↓reduceIte, reduceIte, Nat.reduceEqDiff, String.reduceEq, Nat.reduceLT, Nat.reduceLeDiff, Nat.reduceAdd, Nat.reduceMul, Nat.reduceSub, Nat.reduceBEq, reduceCtorEq, *]
 | with_reducible refine fun (bn : Bool) hbn => ?_))
    all_goals ((repeat clear hK); (repeat clear hA); (repeat clear hB))
    all_goals (clear hs; grind [alike])
set_option maxRecDepth 30000 in
theorem same3_c (a_kind : Int) (a_name : List UInt8) (a_ver : Int) (a_port : Int) (a_to : List UInt8) (a_rules : List Rule) (a_hosts : List Int) (b_kind : Int) (b_name : List UInt8) (b_ver : Int) (b_port : Int) (b_to : List UInt8) (b_rules : List Rule) (b_hosts : List Int) (hh : Small a_hosts.length) (hl : Small a_rules.length) (hs : ∀ x ∈ a_rules, SmRule x) : CallR Tryz.prog 64 [.agg [.int .i64 a_kind, .str a_name, .int .i64 a_ver, .int .i64 a_port, .str a_to, .slice false (avs a_rules), .slice false (avs a_hosts)], .agg [.int .i64 b_kind, .str b_name, .int .i64 b_ver, .int .i64 b_port, .str b_to, .slice false (avs b_rules), .slice false (avs b_hosts)]] (.val (.bool (decide ((⟨a_kind, a_name, a_ver, a_port, a_to, a_rules, a_hosts⟩ : Res) = (⟨b_kind, b_name, b_ver, b_port, b_to, b_rules, b_hosts⟩ : Res))))) := by
  refine CallR.go2 (T := T) Tryz.call64 Tryz.func64 rfl Tryz.ntmps64 (congrArg Array.toList Tryz.results64) (by decide) fun ts hn h0 h1 => ?_
  (repeat' (first
 | (with_reducible first | refine callX.by (alike3_c _ _ _ _ _ _ _ _ _ _ _ _ _ _ ?_ ?_ ?_) ?_ | assumption | (refine NxK.out hK _ ?_; clear hK K) | refine NxK.out (by assumption) _ ?_ | refine Nx.out (by assumption) ?_ | refine SpecC.seqW fun K hK => ?_ | refine SpecC.regW T fun K hK => ?_ | refine SpecC.condW fun A B hA hB => ?_ | refine SpecC.block ?_ | refine SpecC.skip ?_ | refine SpecC.label ?_ | refine SpecC.exit ?_ | refine SpecC.goto ?_ | refine SpecC.ret ?_)
 | ((with_reducible first | refine condK.split (fun hb => ?_) (fun hb => ?_) | refine gK.split_t (fun hb => ?_) (fun hb => ?_) | refine gK.split_f (fun hb => ?_) (fun hb => ?_)) <;> try simp only [decide_not, ilt_t, ilt_f, ile_t, ile_f, nlt_t, nlt_f, nle_t, nle_f, Bool.not_eq_true', Bool.not_eq_false', Int.ofNat_lt, Int.ofNat_le] at hb)
 | simp only [go_sem, ↓reduceIte, reduceIte, Nat.reduceEqDiff, String.reduceEq, Nat.reduceLT, Nat.reduceLeDiff, Nat.reduceAdd, Nat.reduceMul, Nat.reduceSub, Nat.reduceBEq, reduceCtorEq, *]
 | with_reducible refine fun (bn : Bool) hbn => ?_))
  all_goals ((repeat clear hK); (repeat clear hA); (repeat clear hB))
  all_goals (clear hs; grind [alike])
set_option maxRecDepth 30000 in
theorem all4_c (xs ys : List Res) (hl : Small xs.length) (hs : ∀ x ∈ xs, SmRes x) : CallR Tryz.prog 23 [.slice false (avs xs), .slice false (avs ys)] (.val (.bool (decide (xs = ys)))) := by
  refine CallR.go2 (T := T) Tryz.call23 Tryz.func23 rfl Tryz.ntmps23 (congrArg Array.toList Tryz.results23) (by decide) fun ts hn h0 h1 => ?_
  by_cases hll : xs.length = ys.length
  · (repeat' (first
 | (with_reducible first | refine callX.by (same3_c _ _ _ _ _ _ _ _ _ _ _ _ _ _ ?_ ?_ ?_) ?_ | assumption | (refine NxK.out hK _ ?_; clear hK K) | refine NxK.out (by assumption) _ ?_ | refine Nx.out (by assumption) ?_ | refine SpecC.seqW fun K hK => ?_ | refine SpecC.regW T fun K hK => ?_ | refine SpecC.drawW (id := 6) T mixed [([17], [18, 21, 22, 23, 24]), ([18], [17, 21, 22, 23, 24]), ([19], [21, 22, 23, 24]), ([20], [21, 22, 23, 24]), ([21], [17, 18, 19, 20, 22]), ([22], [17, 18, 19, 20, 21]), ([23], [17, 18, 19, 20]), ([24], [17, 18, 19, 20])] (by kernel_rfl) fun K hK => ?_ | refine SpecC.condW fun A B hA hB => ?_ | refine SpecC.block ?_ | refine SpecC.skip ?_ | refine SpecC.label ?_ | refine SpecC.exit ?_ | refine SpecC.goto ?_ | refine SpecC.ret ?_)
 | ((with_reducible first | refine condK.split (fun hb => ?_) (fun hb => ?_) | refine gK.split_t (fun hb => ?_) (fun hb => ?_) | refine gK.split_f (fun hb => ?_) (fun hb => ?_)) <;> try simp only [decide_not, ilt_t, ilt_f, ile_t, ile_f, nlt_t, nlt_f, nle_t, nle_f, Bool.not_eq_true', Bool.not_eq_false', Int.ofNat_lt, Int.ofNat_le] at hb)
 | simp only [go_sem, ↓reduceIte, reduceIte, Nat.reduceEqDiff, String.reduceEq, Nat.reduceLT, Nat.reduceLeDiff, Nat.reduceAdd, Nat.reduceMul, Nat.reduceSub, Nat.reduceBEq, reduceCtorEq, *]
 | with_reducible refine fun (bn : Bool) hbn => ?_))
    refine SpecC.loopF [0, 1] (fun m ts' => ∃ (i : Nat), m = xs.length - i ∧ i ≤ xs.length ∧ xs.take i = ys.take i ∧ ts'.tmp 5 = .int .i64 i) xs.length ?_ ?_
    · refine ⟨0, ?_⟩
      simp only [go_sem, ↓reduceIte, reduceIte, Nat.reduceEqDiff, String.reduceEq, Nat.reduceLT, Nat.reduceLeDiff, Nat.reduceAdd, Nat.reduceMul, Nat.reduceSub, Nat.reduceBEq, reduceCtorEq, *]
    · rintro m A hM ts' hk ⟨i, hm, f1, f2, s1⟩
      simp only [go_sem, ↓reduceIte, reduceIte, Nat.reduceEqDiff, String.reduceEq, Nat.reduceLT, Nat.reduceLeDiff, Nat.reduceAdd, Nat.reduceMul, Nat.reduceSub, Nat.reduceBEq, reduceCtorEq, *] at hk
      by_cases hlt : i < xs.length
      · have hlu : i < ys.length := by omega
        have hne := take_ne hlt hlu
        obtain ⟨hs1, hs2, hs3, hs4, hs5⟩ := hs xs[i] (List.getElem_mem hlt)
        (repeat' (first
 | (with_reducible first | refine callX.by (same3_c _ _ _ _ _ _ _ _ _ _ _ _ _ _ ?_ ?_ ?_) ?_ | assumption | (refine NxK.out hK _ ?_; clear hK K) | refine NxK.out (by assumption) _ ?_ | refine Nx.out (by assumption) ?_ | refine SpecC.seqW fun K hK => ?_ | refine SpecC.regW T fun K hK => ?_ | refine SpecC.drawW (id := 6) T mixed [([17], [18, 21, 22, 23, 24]), ([18], [17, 21, 22, 23, 24]), ([19], [21, 22, 23, 24]), ([20], [21, 22, 23, 24]), ([21], [17, 18, 19, 20, 22]), ([22], [17, 18, 19, 20, 21]), ([23], [17, 18, 19, 20]), ([24], [17, 18, 19, 20])] (by kernel_rfl) fun K hK => ?_ | refine SpecC.condW fun A B hA hB => ?_ | refine SpecC.block ?_ | refine SpecC.skip ?_ | refine SpecC.label ?_ | refine SpecC.exit ?_ | refine SpecC.goto ?_ | refine SpecC.ret ?_)
 | ((with_reducible first | refine condK.split (fun hb => ?_) (fun hb => ?_) | refine gK.split_t (fun hb => ?_) (fun hb => ?_) | refine gK.split_f (fun hb => ?_) (fun hb => ?_)) <;> try simp only [decide_not, ilt_t, ilt_f, ile_t, ile_f, nlt_t, nlt_f, nle_t, nle_f, Bool.not_eq_true', Bool.not_eq_false', Int.ofNat_lt, Int.ofNat_le] at hb)
 | simp only [go_sem, ↓reduceIte, reduceIte, Nat.reduceEqDiff, String.reduceEq, Nat.reduceLT, Nat.reduceLeDiff, Nat.reduceAdd, Nat.reduceMul, Nat.reduceSub, Nat.reduceBEq, reduceCtorEq, *]
 | with_reducible refine fun (bn : Bool) hbn => ?_))
        all_goals ((repeat clear hK); (repeat clear hA); (repeat clear hB))
        all_goals clear hs hs4
        all_goals first
          | (refine hM.on (xs.length - (i + 1)) (by omega) (by simp only [go_sem, ↓reduceIte, reduceIte, Nat.reduceEqDiff, String.reduceEq, Nat.reduceLT, Nat.reduceLeDiff, Nat.reduceAdd, Nat.reduceMul, Nat.reduceSub, Nat.reduceBEq, reduceCtorEq, *, w64_nat hlt hl]) ⟨i + 1, rfl, by omega, by clear hM; apply take_get f2 hlt hlu; grind, ?_⟩; simp only [go_sem, ↓reduceIte, reduceIte, Nat.reduceEqDiff, String.reduceEq, Nat.reduceLT, Nat.reduceLeDiff, Nat.reduceAdd, Nat.reduceMul, Nat.reduceSub, Nat.reduceBEq, reduceCtorEq, *, w64_nat hlt hl]; done)
          | (clear hM; grind)
      · have := take_all f2 hlt hll
        (repeat' (first
 | (with_reducible first | refine callX.by (same3_c _ _ _ _ _ _ _ _ _ _ _ _ _ _ ?_ ?_ ?_) ?_ | assumption | (refine NxK.out hK _ ?_; clear hK K) | refine NxK.out (by assumption) _ ?_ | refine Nx.out (by assumption) ?_ | refine SpecC.seqW fun K hK => ?_ | refine SpecC.regW T fun K hK => ?_ | refine SpecC.drawW (id := 6) T mixed [([17], [18, 21, 22, 23, 24]), ([18], [17, 21, 22, 23, 24]), ([19], [21, 22, 23, 24]), ([20], [21, 22, 23, 24]), ([21], [17, 18, 19, 20, 22]), ([22], [17, 18, 19, 20, 21]), ([23], [17, 18, 19, 20]), ([24], [17, 18, 19, 20])] (by kernel_rfl) fun K hK => ?_ | refine SpecC.condW fun A B hA hB => ?_ | refine SpecC.block ?_ | refine SpecC.skip ?_ | refine SpecC.label ?_ | refine SpecC.exit ?_ | refine SpecC.goto ?_ | refine SpecC.ret ?_)
 | ((with_reducible first | refine condK.split (fun hb => ?_) (fun hb => ?_) | refine gK.split_t (fun hb => ?_) (fun hb => ?_) | refine gK.split_f (fun hb => ?_) (fun hb => ?_)) <;> try simp only [decide_not, ilt_t, ilt_f, ile_t, ile_f, nlt_t, nlt_f, nle_t, nle_f, Bool.not_eq_true', Bool.not_eq_false', Int.ofNat_lt, Int.ofNat_le] at hb)
 | simp only [go_sem, ↓reduceIte, reduceIte, Nat.reduceEqDiff, String.reduceEq, Nat.reduceLT, Nat.reduceLeDiff, Nat.reduceAdd, Nat.reduceMul, Nat.reduceSub, Nat.reduceBEq, reduceCtorEq, *]
 | with_reducible refine fun (bn : Bool) hbn => ?_))
        all_goals ((repeat clear hK); (repeat clear hA); (repeat clear hB))
        all_goals (clear hM hs; grind)
  · have : ¬ xs = ys := by rintro rfl; exact hll rfl
    (repeat' (first
 | (with_reducible first | refine callX.by (same3_c _ _ _ _ _ _ _ _ _ _ _ _ _ _ ?_ ?_ ?_) ?_ | assumption | (refine NxK.out hK _ ?_; clear hK K) | refine NxK.out (by assumption) _ ?_ | refine Nx.out (by assumption) ?_ | refine SpecC.seqW fun K hK => ?_ | refine SpecC.regW T fun K hK => ?_ | refine SpecC.drawW (id := 6) T mixed [([17], [18, 21, 22, 23, 24]), ([18], [17, 21, 22, 23, 24]), ([19], [21, 22, 23, 24]), ([20], [21, 22, 23, 24]), ([21], [17, 18, 19, 20, 22]), ([22], [17, 18, 19, 20, 21]), ([23], [17, 18, 19, 20]), ([24], [17, 18, 19, 20])] (by kernel_rfl) fun K hK => ?_ | refine SpecC.condW fun A B hA hB => ?_ | refine SpecC.block ?_ | refine SpecC.skip ?_ | refine SpecC.label ?_ | refine SpecC.exit ?_ | refine SpecC.goto ?_ | refine SpecC.ret ?_)
 | ((with_reducible first | refine condK.split (fun hb => ?_) (fun hb => ?_) | refine gK.split_t (fun hb => ?_) (fun hb => ?_) | refine gK.split_f (fun hb => ?_) (fun hb => ?_)) <;> try simp only [decide_not, ilt_t, ilt_f, ile_t, ile_f, nlt_t, nlt_f, nle_t, nle_f, Bool.not_eq_true', Bool.not_eq_false', Int.ofNat_lt, Int.ofNat_le] at hb)
 | simp only [go_sem, ↓reduceIte, reduceIte, Nat.reduceEqDiff, String.reduceEq, Nat.reduceLT, Nat.reduceLeDiff, Nat.reduceAdd, Nat.reduceMul, Nat.reduceSub, Nat.reduceBEq, reduceCtorEq, *]
 | with_reducible refine fun (bn : Bool) hbn => ?_))
    all_goals ((repeat clear hK); (repeat clear hA); (repeat clear hB))
    all_goals (clear hs; grind)
def fewAll (xs : List Res) : Bool := xs.all fewRes && decide (xs.length ≤ 80)
set_option maxRecDepth 30000 in
theorem few4_c (xs : List Res) (hl : Small xs.length) (hs : ∀ x ∈ xs, SmRes x) : CallR Tryz.prog 15 [.slice false (avs xs)] (.val (.bool (fewAll xs))) := by
  refine CallR.go1 (T := T) Tryz.call15 Tryz.func15 rfl Tryz.ntmps15 (congrArg Array.toList Tryz.results15) (by decide) fun ts hn h0 => ?_
  (repeat' (first
 | (with_reducible first | refine callX.by (fewRes_c _ _ _ _ _ _ _ ?_) ?_ | assumption | (refine NxK.out hK _ ?_; clear hK K) | refine NxK.out (by assumption) _ ?_ | refine Nx.out (by assumption) ?_ | refine SpecC.seqW fun K hK => ?_ | refine SpecC.regW T fun K hK => ?_ | refine SpecC.condW fun A B hA hB => ?_ | refine SpecC.block ?_ | refine SpecC.skip ?_ | refine SpecC.label ?_ | refine SpecC.exit ?_ | refine SpecC.goto ?_ | refine SpecC.ret ?_)
 | ((with_reducible first | refine condK.split (fun hb => ?_) (fun hb => ?_) | refine gK.split_t (fun hb => ?_) (fun hb => ?_) | refine gK.split_f (fun hb => ?_) (fun hb => ?_)) <;> try simp only [decide_not, ilt_t, ilt_f, ile_t, ile_f, nlt_t, nlt_f, nle_t, nle_f, Bool.not_eq_true', Bool.not_eq_false', Int.ofNat_lt, Int.ofNat_le] at hb)
 | simp only [go_sem, ↓reduceIte, reduceIte, Nat.reduceEqDiff, String.reduceEq, Nat.reduceLT, Nat.reduceLeDiff, Nat.reduceAdd, Nat.reduceMul, Nat.reduceSub, Nat.reduceBEq, reduceCtorEq, *]
 | with_reducible refine fun (bn : Bool) hbn => ?_))
  refine SpecC.loopF [0] (fun m ts' => ∃ (i : Nat), m = xs.length - i ∧ i ≤ xs.length ∧ xs.all fewRes = (xs.drop i).all fewRes ∧ ts'.tmp 3 = .int .i64 i) xs.length ?_ ?_
  · refine ⟨0, ?_⟩
    simp only [go_sem, ↓reduceIte, reduceIte, Nat.reduceEqDiff, String.reduceEq, Nat.reduceLT, Nat.reduceLeDiff, Nat.reduceAdd, Nat.reduceMul, Nat.reduceSub, Nat.reduceBEq, reduceCtorEq, *]
  · rintro m A hM ts' hk ⟨i, hm, f1, f2, s1⟩
    simp only [go_sem, ↓reduceIte, reduceIte, Nat.reduceEqDiff, String.reduceEq, Nat.reduceLT, Nat.reduceLeDiff, Nat.reduceAdd, Nat.reduceMul, Nat.reduceSub, Nat.reduceBEq, reduceCtorEq, *] at hk
    by_cases hlt : i < xs.length
    · rw [List.drop_eq_getElem_cons hlt, List.all_cons] at f2
      obtain ⟨hs1, hs2, hs3, hs4, hs5⟩ := hs xs[i] (List.getElem_mem hlt)
      (repeat' (first
 | (with_reducible first | refine callX.by (fewRes_c _ _ _ _ _ _ _ ?_) ?_ | assumption | (refine NxK.out hK _ ?_; clear hK K) | refine NxK.out (by assumption) _ ?_ | refine Nx.out (by assumption) ?_ | refine SpecC.seqW fun K hK => ?_ | refine SpecC.regW T fun K hK => ?_ | refine SpecC.condW fun A B hA hB => ?_ | refine SpecC.block ?_ | refine SpecC.skip ?_ | refine SpecC.label ?_ | refine SpecC.exit ?_ | refine SpecC.goto ?_ | refine SpecC.ret ?_)
 | ((with_reducible first | refine condK.split (fun hb => ?_) (fun hb => ?_) | refine gK.split_t (fun hb => ?_) (fun hb => ?_) | refine gK.split_f (fun hb => ?_) (fun hb => ?_)) <;> try simp only [decide_not, ilt_t, ilt_f, ile_t, ile_f, nlt_t, nlt_f, nle_t, nle_f, Bool.not_eq_true', Bool.not_eq_false', Int.ofNat_lt, Int.ofNat_le] at hb)
 | simp only [go_sem, ↓reduceIte, reduceIte, Nat.reduceEqDiff, String.reduceEq, Nat.reduceLT, Nat.reduceLeDiff, Nat.reduceAdd, Nat.reduceMul, Nat.reduceSub, Nat.reduceBEq, reduceCtorEq, *]
 | with_reducible refine fun (bn : Bool) hbn => ?_))
      all_goals ((repeat clear hK); (repeat clear hA); (repeat clear hB))
      all_goals clear hs hs4
      all_goals first
        | (refine hM.on (xs.length - (i + 1)) (by omega) (by simp only [go_sem, ↓reduceIte, reduceIte, Nat.reduceEqDiff, String.reduceEq, Nat.reduceLT, Nat.reduceLeDiff, Nat.reduceAdd, Nat.reduceMul, Nat.reduceSub, Nat.reduceBEq, reduceCtorEq, *, w64_nat hlt hl, -f2]) ⟨i + 1, rfl, by omega, by clear hM; grind, ?_⟩; simp only [go_sem, ↓reduceIte, reduceIte, Nat.reduceEqDiff, String.reduceEq, Nat.reduceLT, Nat.reduceLeDiff, Nat.reduceAdd, Nat.reduceMul, Nat.reduceSub, Nat.reduceBEq, reduceCtorEq, *, w64_nat hlt hl, -f2]; done)
        | (clear hM; grind [fewAll])
    · rw [List.drop_eq_nil_of_le (by omega), List.all_nil] at f2
      (repeat' (first
 | (with_reducible first | refine callX.by (fewRes_c _ _ _ _ _ _ _ ?_) ?_ | assumption | (refine NxK.out hK _ ?_; clear hK K) | refine NxK.out (by assumption) _ ?_ | refine Nx.out (by assumption) ?_ | refine SpecC.seqW fun K hK => ?_ | refine SpecC.regW T fun K hK => ?_ | refine SpecC.condW fun A B hA hB => ?_ | refine SpecC.block ?_ | refine SpecC.skip ?_ | refine SpecC.label ?_ | refine SpecC.exit ?_ | refine SpecC.goto ?_ | refine SpecC.ret ?_)
 | ((with_reducible first | refine condK.split (fun hb => ?_) (fun hb => ?_) | refine gK.split_t (fun hb => ?_) (fun hb => ?_) | refine gK.split_f (fun hb => ?_) (fun hb => ?_)) <;> try simp only [decide_not, ilt_t, ilt_f, ile_t, ile_f, nlt_t, nlt_f, nle_t, nle_f, Bool.not_eq_true', Bool.not_eq_false', Int.ofNat_lt, Int.ofNat_le] at hb)
 | simp only [go_sem, ↓reduceIte, reduceIte, Nat.reduceEqDiff, String.reduceEq, Nat.reduceLT, Nat.reduceLeDiff, Nat.reduceAdd, Nat.reduceMul, Nat.reduceSub, Nat.reduceBEq, reduceCtorEq, *]
 | with_reducible refine fun (bn : Bool) hbn => ?_))
      all_goals ((repeat clear hK); (repeat clear hA); (repeat clear hB))
      all_goals (clear hM hs; grind [fewAll])
end Go.Proofs.YtdolbhcmdkcpnaaGreatDoor.Lg

namespace Go.Proofs.YtdolbhcmdkcpnaaGreatDoor.Lg
set_option maxRecDepth 100000
set_option linter.unusedVariables false
set_option linter.unusedSimpArgs false
open Go
end Go.Proofs.YtdolbhcmdkcpnaaGreatDoor.Lg

namespace Go.Proofs.YtdolbhcmdkcpnaaGreatDoor.Lg
set_option maxRecDepth 100000
set_option linter.unusedVariables false
set_option linter.unusedSimpArgs false
open Go
theorem cb_swap : ∀ a b : List UInt8, Lib.compareBytes b a = - Lib.compareBytes a b
  | [], [] => rfl
  | [], _ :: _ => rfl
  | _ :: _, [] => rfl
  | x :: a, y :: b => by
    have h := cb_swap a b
    have hxy : ¬ (x < y ∧ y < x) := fun h => by simp only [UInt8.lt_iff_toNat_lt] at h; omega
    simp only [Lib.compareBytes]
    by_cases h1 : x < y <;> by_cases h2 : y < x <;> simp [h1, h2, h]
    exact absurd ⟨h1, h2⟩ hxy
theorem cb_zero : ∀ a b : List UInt8, Lib.compareBytes a b = 0 → a = b
  | [], [] => fun _ => rfl
  | [], _ :: _ => fun h => by simp [Lib.compareBytes] at h
  | _ :: _, [] => fun h => by simp [Lib.compareBytes] at h
  | x :: a, y :: b => fun h => by
    simp only [Lib.compareBytes] at h
    by_cases h1 : x < y
    · simp [h1] at h
    · by_cases h2 : y < x
      · simp [h1, h2] at h
      · have e : x = y := by
          apply UInt8.toNat_inj.1
          simp only [UInt8.lt_iff_toNat_lt] at h1 h2; omega
        rw [if_neg h1, if_neg h2] at h
        rw [e, cb_zero a b h]
theorem cb_trans : ∀ a b c : List UInt8, Lib.compareBytes a b < 0 → Lib.compareBytes b c < 0 → Lib.compareBytes a c < 0
  | [], [], _, h, _ => by simp [Lib.compareBytes] at h
  | [], _ :: _, [], _, h => by simp [Lib.compareBytes] at h
  | [], _ :: _, _ :: _, _, _ => by simp [Lib.compareBytes]
  | _ :: _, [], _, h, _ => by simp [Lib.compareBytes] at h
  | _ :: _, _ :: _, [], _, h => by simp [Lib.compareBytes] at h
  | x :: a, y :: b, z :: c, h, k => by
    simp only [Lib.compareBytes, UInt8.lt_iff_toNat_lt] at h k ⊢
    by_cases h1 : x.toNat < y.toNat
    · by_cases k1 : y.toNat < z.toNat
      · rw [if_pos (by omega)]; omega
      · rw [if_neg k1] at k
        by_cases k2 : z.toNat < y.toNat
        · rw [if_pos k2] at k; omega
        · rw [if_pos (by omega)]; omega
    · rw [if_neg h1] at h
      by_cases h2 : y.toNat < x.toNat
      · rw [if_pos h2] at h; omega
      · rw [if_neg h2] at h
        by_cases k1 : y.toNat < z.toNat
        · rw [if_pos (by omega)]; omega
        · rw [if_neg k1] at k
          by_cases k2 : z.toNat < y.toNat
          · rw [if_pos k2] at k; omega
          · rw [if_neg k2] at k
            rw [if_neg (by omega), if_neg (by omega)]
            exact cb_trans a b c h k
theorem kcmp_def (a b : Key) : kcmp a b = if a.kind < b.kind then -1 else if b.kind < a.kind then 1 else Lib.compareBytes a.name b.name := by
  unfold kcmp scmp
  generalize Lib.compareBytes a.name b.name = c
  simp only [ior, icmp]
  by_cases h1 : a.kind < b.kind
  · simp [h1]
  · by_cases h2 : b.kind < a.kind
    · simp [h1, h2]
    · by_cases h3 : c = 0
      · simp [h1, h2, h3]
      · simp [h1, h2, h3]
theorem kcmp_swap (a b : Key) : kcmp b a = - kcmp a b := by
  have h := cb_swap a.name b.name
  rw [kcmp_def, kcmp_def, h]
  by_cases h1 : a.kind < b.kind
  · rw [if_neg (by omega), if_pos h1, if_pos h1]; rfl
  · by_cases h2 : b.kind < a.kind
    · rw [if_pos h2, if_neg h1, if_pos h2]
    · rw [if_neg h2, if_neg h1, if_neg h1, if_neg h2]
theorem kcmp_zero (a b : Key) (h : kcmp a b = 0) : a = b := by
  obtain ⟨k1, n1⟩ := a; obtain ⟨k2, n2⟩ := b
  rw [kcmp_def] at h
  simp only at h
  by_cases h1 : k1 < k2
  · rw [if_pos h1] at h; omega
  · by_cases h2 : k2 < k1
    · rw [if_neg h1, if_pos h2] at h; omega
    · rw [if_neg h1, if_neg h2] at h
      have e : k1 = k2 := by omega
      rw [e, cb_zero _ _ h]
theorem kcmp_lt (a b : Key) : kcmp a b < 0 ↔ a.kind < b.kind ∨ (a.kind = b.kind ∧ Lib.compareBytes a.name b.name < 0) := by
  rw [kcmp_def]
  by_cases h1 : a.kind < b.kind
  · rw [if_pos h1]; omega
  · by_cases h2 : b.kind < a.kind
    · rw [if_neg h1, if_pos h2]; omega
    · rw [if_neg h1, if_neg h2]; omega
theorem kcmp_trans (a b c : Key) (h : kcmp a b < 0) (k : kcmp b c < 0) : kcmp a c < 0 := by
  rw [kcmp_lt] at h k ⊢
  rcases h with h | ⟨h, h'⟩ <;> rcases k with k | ⟨k, k'⟩
  · exact .inl (by omega)
  · exact .inl (by omega)
  · exact .inl (by omega)
  · exact .inr ⟨by omega, cb_trans _ _ _ h' k'⟩
theorem kcmp_irrefl (a : Key) : ¬ kcmp a a < 0 := fun h => by have := kcmp_swap a a; omega
def ksort (xs : List Key) : List Key := xs.mergeSort fun x y => !decide (kcmp y x < 0)
theorem ksort_length (xs : List Key) : (ksort xs).length = xs.length := by simp [ksort]
def kcT : List Key → List Key
  | x :: y :: r => if y = x then kcT (y :: r) else y :: kcT (y :: r)
  | _ => []
def kcompact (xs : List Key) : List Key := xs.take 1 ++ kcT xs
end Go.Proofs.YtdolbhcmdkcpnaaGreatDoor.Lg

namespace Go.Proofs
open Go.Shelf
def Tryz.sortKey_ren : Go.Shelf.Ren := ⟨fun | 6 => 72 | 15 => 115 | 14 => 114 | 28 => 155 | 29 => 156 | 20 => 147 | 21 => 148 | 22 => 149 | 23 => 150 | 24 => 151 | 25 => 152 | 26 => 153 | 27 => 154 | 46 => 187 | 47 => 188 | 48 => 189 | 49 => 190 | 50 => 191 | 57 => 206 | n => n, fun | 22 => 25 | 24 => 27 | 25 => 103 | 3 => 3 | 39 => 139 | 0 => 0 | 53 => 168 | 55 => 170 | 4 => 4 | 46 => 161 | 45 => 160 | 50 => 165 | 5 => 5 | 9 => 9 | 66 => 190 | 70 => 194 | 76 => 200 | 77 => 201 | n => n, fun | n => n⟩
theorem Tryz.sortKey : Go.Proofs.SlLaysF0.n6 Tryz.prog Tryz.sortKey_ren := {
  mixed := by kernel_rfl
  f6 := ⟨Tryz.f72.name, by decide, Tryz.func72.trans (congrArg some (by kernel_rfl))⟩
  f14 := ⟨Tryz.f114.name, by decide, Tryz.func114.trans (congrArg some (by kernel_rfl))⟩
  f15 := Tryz.func115.trans (congrArg some (by kernel_rfl))
  f20 := ⟨Tryz.f147.name, by decide, Tryz.func147.trans (congrArg some (by kernel_rfl))⟩
  f21 := ⟨Tryz.f148.name, by decide, Tryz.func148.trans (congrArg some (by kernel_rfl))⟩
  f22 := ⟨Tryz.f149.name, by decide, Tryz.func149.trans (congrArg some (by kernel_rfl))⟩
  f23 := ⟨Tryz.f150.name, by decide, Tryz.func150.trans (congrArg some (by kernel_rfl))⟩
  f24 := ⟨Tryz.f151.name, by decide, Tryz.func151.trans (congrArg some (by kernel_rfl))⟩
  f25 := ⟨Tryz.f152.name, by decide, Tryz.func152.trans (congrArg some (by kernel_rfl))⟩
  f26 := ⟨Tryz.f153.name, by decide, Tryz.func153.trans (congrArg some (by kernel_rfl))⟩
  f27 := ⟨Tryz.f154.name, by decide, Tryz.func154.trans (congrArg some (by kernel_rfl))⟩
  f28 := Tryz.func155.trans (congrArg some (by kernel_rfl))
  f29 := Tryz.func156.trans (congrArg some (by kernel_rfl))
  f46 := ⟨Tryz.f187.name, by decide, Tryz.func187.trans (congrArg some (by kernel_rfl))⟩
  f47 := Tryz.func188.trans (congrArg some (by kernel_rfl))
  f48 := Tryz.func189.trans (congrArg some (by kernel_rfl))
  f49 := ⟨Tryz.f190.name, by decide, Tryz.func190.trans (congrArg some (by kernel_rfl))⟩
  f50 := ⟨Tryz.f191.name, by decide, Tryz.func191.trans (congrArg some (by kernel_rfl))⟩
  f57 := ⟨Tryz.f206.name, by decide, Tryz.func206.trans (congrArg some (by kernel_rfl))⟩
  t0 := Tryz.underlying0
  a0 := Tryz.isAgg0
  z0 := Tryz.sizeOf0
  v0 := Tryz.zeroValue0
  t3 := Tryz.underlying3
  a3 := Tryz.isAgg3
  z3 := Tryz.sizeOf3
  v3 := Tryz.zeroValue3
  t4 := Tryz.underlying4
  a4 := Tryz.isAgg4
  z4 := Tryz.sizeOf4
  v4 := Tryz.zeroValue4
  t5 := Tryz.underlying5
  a5 := Tryz.isAgg5
  z5 := Tryz.sizeOf5
  v5 := Tryz.zeroValue5
  t9 := Tryz.underlying9
  a9 := Tryz.isAgg9
  z9 := Tryz.sizeOf9
  v9 := Tryz.zeroValue9
  t22 := Tryz.underlying25
  a22 := Tryz.isAgg25
  z22 := Tryz.sizeOf25
  v22 := Tryz.zeroValue25
  t25 := Tryz.underlying103
  a25 := Tryz.isAgg103
  z25 := Tryz.sizeOf103
  v25 := Tryz.zeroValue103
  t39 := Tryz.underlying139
  a39 := Tryz.isAgg139
  z39 := Tryz.sizeOf139
  v39 := Tryz.zeroValue139
  t45 := Tryz.underlying160
  a45 := Tryz.isAgg160
  z45 := Tryz.sizeOf160
  v45 := Tryz.zeroValue160
  t46 := Tryz.underlying161
  a46 := Tryz.isAgg161
  z46 := Tryz.sizeOf161
  v46 := Tryz.zeroValue161
  t50 := Tryz.underlying165
  a50 := Tryz.isAgg165
  z50 := Tryz.sizeOf165
  v50 := Tryz.zeroValue165
  t53 := Tryz.underlying168
  a53 := Tryz.isAgg168
  z53 := Tryz.sizeOf168
  v53 := Tryz.zeroValue168
  t55 := Tryz.underlying170
  a55 := Tryz.isAgg170
  z55 := Tryz.sizeOf170
  v55 := Tryz.zeroValue170
  t66 := Tryz.underlying190
  a66 := Tryz.isAgg190
  z66 := Tryz.sizeOf190
  v66 := Tryz.zeroValue190
  t70 := Tryz.underlying194
  a70 := Tryz.isAgg194
  z70 := Tryz.sizeOf194
  v70 := Tryz.zeroValue194
  t76 := Tryz.underlying200
  a76 := Tryz.isAgg200
  z76 := Tryz.sizeOf200
  v76 := Tryz.zeroValue200
  t77 := Tryz.underlying201
  a77 := Tryz.isAgg201
  z77 := Tryz.sizeOf201
  v77 := Tryz.zeroValue201 }
end Go.Proofs

namespace Go.Proofs.YtdolbhcmdkcpnaaGreatDoor.Lg
set_option maxRecDepth 100000
set_option linter.unusedVariables false
set_option linter.unusedSimpArgs false
open Go
theorem kswo : Go.Sort.SWO (ltOf kcmp) where
  irrefl x := by simp only [ltOf, decide_eq_false_iff_not]; exact kcmp_irrefl x
  trans x y z h k := by
    simp only [ltOf, decide_eq_true_eq] at h k ⊢
    exact kcmp_trans x y z h k
  ntrans x y z h k := by
    simp only [ltOf, decide_eq_false_iff_not] at h k ⊢
    intro h3
    by_cases h4 : kcmp y z = 0
    · have := kcmp_zero _ _ h4; subst this; exact h h3
    · have h5 : kcmp z y < 0 := by have := kcmp_swap y z; omega
      exact h (kcmp_trans _ _ _ h3 h5)
theorem ktot (x y : Key) (h : ltOf kcmp x y = false) (k : ltOf kcmp y x = false) : x = y := by
  simp only [ltOf, decide_eq_false_iff_not] at h k
  have := kcmp_swap x y
  exact kcmp_zero _ _ (by omega)
def kenc (k : Key) : List Value := [.int .i64 k.kind, .string ⟨k.name.toArray⟩]
theorem kenc_rep {c : Ctx} {v : Value} {k : Key} {j : Nat} (hj : j < 2) (h : Rep c v ((Dat.av k).cells.getD j .any)) : v = (kenc k)[j]! := by
  match j, hj with
  | 0, _ =>
    change Rep c v (.int .i64 k.kind) at h
    cases h; rfl
  | 1, _ =>
    change Rep c v (.str k.name) at h
    cases h with
    | str s _ h =>
      obtain ⟨a⟩ := s
      have e : a = k.name.toArray := by rw [← h]
      subst e; rfl
theorem rep_kenc (c : Ctx) (k : Key) {j : Nat} (hj : j < 2) : Rep c ((kenc k)[j]!) ((Dat.av k).cells.getD j .any) := by
  match j, hj with
  | 0, _ => exact .int _ _
  | 1, _ => exact .str _ _ rfl
theorem kcmp_top (x y : Key) (W : World) : Calls Tryz.prog 73 #[.agg (kenc x).toArray, .agg (kenc y).toArray] W fun e w' => e = .returned (.int .i64 (kcmp x y)) ∧ ∃ q os', w' = Go.Sort.grow (W.drewN q) os' := by
  have eg : ∀ args w, (callFunc 73 args).run Tryz.prog w = .ok (.enter 73 args) w := enters_of Tryz.func73 (by kernel_rfl) rfl
  have hx : ∀ (z : Key) (j : Nat), Rep (ctx0 W) ((kenc z).toArray.getD j undef) (([.int .i64 z.kind, .str z.name] : List AV).getD j .any) := fun z j => by
    match j with
    | 0 => exact .int _ _
    | 1 => exact .str _ _ rfl
    | j + 2 => exact .any _
  have h := (kcmp_c x.kind y.kind x.name y.name).top #[.agg (kenc x).toArray, .agg (kenc y).toArray] W rfl fun i => by
    match i with
    | 0 => exact .agg _ _ rfl (hx x)
    | 1 => exact .agg _ _ rfl (hx y)
    | i + 2 => exact .any _
  rw [eg] at h
  refine Calls.mono h ?_
  rintro e w' ⟨v, rfl, hv, hg⟩
  cases hv
  exact ⟨rfl, hg.grown⟩
open Go.Sort in
theorem sortKey_c (xs : List Key) (hl : Small xs.length) : CallA Tryz.prog 72 73 2 (avs xs) (avs (ksort xs)) := by
  intro E ts G a w d v0 hrel hob hos
  have L := Tryz.sortKey
  have e6 : ∀ args w, (callFunc 72 args).run Tryz.prog w = .ok (.enter 72 args) w := enters_of Tryz.func72 (by kernel_rfl) rfl
  have eg : ∀ args w, (callFunc 73 args).run Tryz.prog w = .ok (.enter 73 args) w := enters_of Tryz.func73 (by kernel_rfl) rfl
  rw [e6]
  show Calls _ _ _ _ _
  have hobk := hrel.obj d
  rw [hob] at hobk
  obtain ⟨_, hcl, hobk⟩ := hobk
  unfold OsIs at hos
  have hcl' : ∀ x ∈ avs (ksort xs), x.cells.length = 2 := fun x hx => by
    simp only [avs, List.mem_map] at hx
    obtain ⟨k, _, rfl⟩ := hx
    rfl
  cases hκ : G.κ d with
  | none =>
    have hκ' : (ctxOf E G ts w).κ d = none := hκ
    rw [hκ'] at hos hobk
    obtain ⟨hlen, ad, rfl⟩ := hos
    have hx : xs = [] := List.eq_nil_of_length_eq_zero (by simpa [avs] using hlen)
    subst hx
    have h := AnyF.slices_SortFunc_none L ad 0 (.func (.func 73) #[] #[]) w
    change Calls _ 72 _ _ _ at h
    refine h.mono ?_
    rintro e w' ⟨rfl, rfl⟩
    refine ⟨rfl, ⟨rfl, rfl, rfl, Nat.le_refl _, Nat.le_refl _, fun _ _ _ => rfl⟩, by decide, hcl', ?_⟩
    have hκ2 : (ctxOf E G (ts.setObj d (.arr 2 (avs (ksort [])))) w').κ d = none := hκ
    rw [hκ2]
    show avs (ksort []) = []
    simp [ksort, avs]
  | some cap =>
    have hκ' : (ctxOf E G ts w).κ d = some cap := hκ
    rw [hκ'] at hos hobk
    obtain ⟨rfl, hle⟩ := hos
    obtain ⟨vs, T, hh, hsz, hlc, hcells⟩ := hobk
    have hlen : (avs xs).length = xs.length := by simp [avs]
    rw [hlen] at hlc hle hcells ⊢
    have hval : ∀ t, t < xs.length * 2 → vs[t]? = some ((flatK kenc 2 xs.toArray)[t]!) := fun t ht => by
      have h2 : t < vs.size := by omega
      rw [get_flatK _ _ _ _ (by simpa using ht)]
      have hq : t / 2 < xs.length := by omega
      have h := hcells (t / 2) (t % 2) hq (by omega)
      have e : t / 2 * 2 + t % 2 = t := by omega
      rw [e] at h
      have e2 : (avs xs).getD (t / 2) .any = Dat.av xs[t / 2] := by simp [avs, hq]
      rw [e2] at h
      have := kenc_rep (by omega) h
      rw [Array.getElem?_eq_getElem h2]
      have e3 : vs.getD t undef = vs[t] := by simp [Array.getD, h2]
      rw [e3] at this
      rw [this]
      congr 2
      simp [hq]
    have hblk : G.β d < w.heap.size := by
      have : w.heap[G.β d]? = _ := hh
      by_cases hb : G.β d < w.heap.size
      · exact hb
      · rw [Array.getElem?_eq_none (by omega)] at this; cases this
    have hH : HoldsK kenc 2 w (G.β d) 0 xs.toArray := fun j hj => by
      rw [size_flatK] at hj
      have hj' : j < xs.length * 2 := by simpa using hj
      have hh' : w.heap[G.β d]? = some (.cells vs T (0, 0)) := hh
      constructor
      · simp only [World.cell?, hh', Nat.zero_add]
        exact hval j hj'
      · simp only [World.frozen?, hh']
        simp
    have hcmp : CmpLays Tryz.prog 73 #[] kenc 2 kcmp (G.β d) 0 xs.toArray.size w := fun m os dk hdk x y => by
      have h := kcmp_top x y (sortWorldK kenc 2 w (G.β d) 0 m dk os)
      simpa using h
    have h := AnyQ.slices_SortFunc_total L 2 Tryz.isAgg27 Tryz.sizeOf27 kenc (fun _ => rfl) (fun x v hv => by
      simp only [kenc, List.mem_cons, List.not_mem_nil, or_false] at hv
      rcases hv with rfl | rfl <;> rfl) kcmp kswo 73 #[] (G.β d) 0 cap xs.toArray w eg hcmp hH hblk (by unfold Small at hl; simp; omega) ktot
    change Calls _ 72 _ _ _ at h
    have hsa : xs.toArray.size = xs.length := by simp
    rw [hsa] at h
    refine h.mono ?_
    rintro e w' ⟨rfl, n, os, rfl⟩
    have hks : (xs.toArray.toList.mergeSort fun x y => !(ltOf kcmp) y x) = ksort xs := rfl
    rw [hks]
    have hh' : w.heap[G.β d]? = some (.cells vs T (0, 0)) := hh
    have hnew : (sortWorldK kenc 2 w (G.β d) 0 n (ksort xs).toArray os).heap[G.β d]? = some (.cells (putCells id 0 (flatK kenc 2 (ksort xs).toArray) vs) T (0, 0)) := by
      simp only [sortWorldK, grow, putRowK, putRow, mapBlock, Go.Sort.ahead]
      rw [Array.getElem?_append_left (by simpa using hblk), Array.getElem?_modify, if_pos rfl, hh']
      rfl
    refine ⟨rfl, ⟨rfl, rfl, rfl, ?_, ?_, fun i hi hne => ?_⟩, by decide, hcl', ?_⟩
    · simp only [sortWorldK, grow, putRowK, putRow, mapBlock, Go.Sort.ahead]; simp
    · simp only [sortWorldK, grow, putRowK, putRow, mapBlock, Go.Sort.ahead]; omega
    · have hlive : liveR ts G d := ⟨by simp [hob, Ob.kind], by rw [hκ]; simp⟩
      have hne := hne hlive
      simp only [sortWorldK, grow, putRowK, putRow, mapBlock, Go.Sort.ahead]
      rw [Array.getElem?_append_left (by simpa using hi), Array.getElem?_modify, if_neg (fun h => hne h.symm)]
    · have hκ2 : (ctxOf E G (ts.setObj d (.arr 2 (avs (ksort xs)))) (sortWorldK kenc 2 w (G.β d) 0 n (ksort xs).toArray os)).κ d = some cap := hκ
      rw [hκ2]
      have hlen2 : (avs (ksort xs)).length = xs.length := by simp [avs, ksort_length]
      refine ⟨_, T, hnew, by simp [putCells, hsz], by rw [hlen2]; exact hlc, fun i j hi hj => ?_⟩
      rw [hlen2] at hi
      have hi2 : i < (ksort xs).length := by rw [ksort_length]; exact hi
      have ht : i * 2 + j < vs.size := by omega
      have e2 : (avs (ksort xs)).getD i .any = Dat.av (ksort xs)[i] := by simp [avs, hi2]
      rw [e2]
      have e3 : (putCells id 0 (flatK kenc 2 (ksort xs).toArray) vs).getD (i * 2 + j) undef = (kenc (ksort xs)[i])[j]! := by
        have hf : i * 2 + j < (ksort xs).toArray.size * 2 := by simp [ksort_length]; omega
        simp only [putCells, Array.getD, Array.size_mapIdx, ht, dite_true, Array.getInternal_eq_getElem, Array.getElem_mapIdx]
        rw [if_pos ⟨Nat.zero_le _, by rw [size_flatK]; omega⟩]
        simp only [Nat.sub_zero, id]
        rw [get_flatK _ _ _ _ hf]
        have e4 : (i * 2 + j) / 2 = i := by omega
        have e5 : (i * 2 + j) % 2 = j := by omega
        rw [e4, e5]
        congr 2
        simp [hi2]
      rw [e3]
      exact rep_kenc _ _ hj
end Go.Proofs.YtdolbhcmdkcpnaaGreatDoor.Lg
