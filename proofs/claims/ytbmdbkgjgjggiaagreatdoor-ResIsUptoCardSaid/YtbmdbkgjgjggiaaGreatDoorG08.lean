/- Parts of the proof, one behind the other. -/
import Derived.Test.YtbmdbkgjgjggiaaGreatDoorG07
namespace Go.Proofs.YtbmdbkgjgjggiaaGreatDoor.Lg
set_option linter.unusedVariables false
set_option linter.unusedSimpArgs false
open Go
def ncmp : List UInt8 → List UInt8 → Int
  | [], [] => 0
  | [], _ :: _ => -1
  | _ :: _, [] => 1
  | x :: a, y :: b => if x.toNat < y.toNat then -1 else if y.toNat < x.toNat then 1 else ncmp a b
theorem ncmp_short (a b : List UInt8) (h : a = [] ∨ b = []) : ncmp a b = if a.length < b.length then -1 else if b.length < a.length then 1 else 0 := by
  cases a <;> cases b <;> simp_all [ncmp]
set_option maxRecDepth 30000 in
theorem ncmp_c (a b : List UInt8) (ha : Small a.length) (hb : Small b.length) : CallR Tryz.prog 67 [.str a, .str b] (.val (.int .i64 (ncmp a b))) := by
  have hb' := hb
  clear hb
  refine CallR.go2 (T := T) Tryz.call67 Tryz.func67 rfl Tryz.ntmps67 (congrArg Array.toList Tryz.results67) (by decide) fun ts hn h0 h1 => ?_
  (repeat' (first
 | with_reducible assumption
 | (with_reducible refine NxK.out hK _ ?_; clear hK K)
 | with_reducible refine NxK.out (by assumption) _ ?_
 | with_reducible refine Nx.out (by assumption) ?_
 | with_reducible refine SpecC.seqW fun K hK => ?_
 | with_reducible refine SpecC.regW T fun K hK => ?_
 | with_reducible refine SpecC.drawW (id := 4) T mixed [([18], [19, 21, 22, 23]), ([19], [18, 21, 22, 23]), ([20], [21, 22, 23]), ([21], [18, 19, 20, 22]), ([22], [18, 19, 20, 21]), ([23], [18, 19, 20])] (by kernel_rfl) fun K hK => ?_
 | with_reducible refine SpecC.drawW (id := 6) T mixed [([25], [26, 28, 29, 30]), ([26], [25, 28, 29, 30]), ([27], [28, 29, 30]), ([28], [25, 26, 27, 29]), ([29], [25, 26, 27, 28]), ([30], [25, 26, 27])] (by kernel_rfl) fun K hK => ?_
 | with_reducible refine SpecC.condW fun A B hA hB => ?_
 | with_reducible refine SpecC.block ?_
 | with_reducible refine SpecC.skip ?_
 | with_reducible refine SpecC.label ?_
 | with_reducible refine SpecC.exit ?_
 | with_reducible refine SpecC.goto ?_
 | with_reducible refine SpecC.ret ?_
 | ((with_reducible first | refine condK.split (fun hb => ?_) (fun hb => ?_) | refine gK.split_t (fun hb => ?_) (fun hb => ?_) | refine gK.split_f (fun hb => ?_) (fun hb => ?_)) <;> try simp only [decide_not, ilt_t, ilt_f, ile_t, ile_f, nlt_t, nlt_f, nle_t, nle_f, Bool.not_eq_true', Bool.not_eq_false', Int.ofNat_lt, Int.ofNat_le] at hb)
 | simp only [go_sem, ↓reduceIte, reduceIte, Nat.reduceEqDiff, String.reduceEq, Nat.reduceLT, Nat.reduceLeDiff, Nat.reduceAdd, Nat.reduceMul, Nat.reduceSub, Nat.reduceBEq, reduceCtorEq, *]
 | with_reducible refine fun (bn : Bool) hbn => ?_))
  refine SpecC.loopF [0, 1] (fun m ts' => ∃ (i : Nat), m = a.length - i ∧ i ≤ a.length ∧ i ≤ b.length ∧ ncmp a b = ncmp (a.drop i) (b.drop i) ∧ ts'.tmp 5 = .int .i64 i) a.length ?_ ?_
  · refine ⟨0, ?_⟩
    simp only [go_sem, ↓reduceIte, reduceIte, Nat.reduceEqDiff, String.reduceEq, Nat.reduceLT, Nat.reduceLeDiff, Nat.reduceAdd, Nat.reduceMul, Nat.reduceSub, Nat.reduceBEq, reduceCtorEq, *]
  · rintro m A hM ts' hk ⟨i, hm, f1, f2, f3, s1⟩
    simp only [go_sem, ↓reduceIte, reduceIte, Nat.reduceEqDiff, String.reduceEq, Nat.reduceLT, Nat.reduceLeDiff, Nat.reduceAdd, Nat.reduceMul, Nat.reduceSub, Nat.reduceBEq, reduceCtorEq, *] at hk
    by_cases h1 : i < a.length
    · by_cases h2 : i < b.length
      · have e1 : a.getD i 0 = a[i] := by simp [h1]
        have e2 : b.getD i 0 = b[i] := by simp [h2]
        rw [List.drop_eq_getElem_cons h1, List.drop_eq_getElem_cons h2, ncmp] at f3
        (repeat' (first
 | with_reducible assumption
 | (with_reducible refine NxK.out hK _ ?_; clear hK K)
 | with_reducible refine NxK.out (by assumption) _ ?_
 | with_reducible refine Nx.out (by assumption) ?_
 | with_reducible refine SpecC.seqW fun K hK => ?_
 | with_reducible refine SpecC.regW T fun K hK => ?_
 | with_reducible refine SpecC.drawW (id := 4) T mixed [([18], [19, 21, 22, 23]), ([19], [18, 21, 22, 23]), ([20], [21, 22, 23]), ([21], [18, 19, 20, 22]), ([22], [18, 19, 20, 21]), ([23], [18, 19, 20])] (by kernel_rfl) fun K hK => ?_
 | with_reducible refine SpecC.drawW (id := 6) T mixed [([25], [26, 28, 29, 30]), ([26], [25, 28, 29, 30]), ([27], [28, 29, 30]), ([28], [25, 26, 27, 29]), ([29], [25, 26, 27, 28]), ([30], [25, 26, 27])] (by kernel_rfl) fun K hK => ?_
 | with_reducible refine SpecC.condW fun A B hA hB => ?_
 | with_reducible refine SpecC.block ?_
 | with_reducible refine SpecC.skip ?_
 | with_reducible refine SpecC.label ?_
 | with_reducible refine SpecC.exit ?_
 | with_reducible refine SpecC.goto ?_
 | with_reducible refine SpecC.ret ?_
 | ((with_reducible first | refine condK.split (fun hb => ?_) (fun hb => ?_) | refine gK.split_t (fun hb => ?_) (fun hb => ?_) | refine gK.split_f (fun hb => ?_) (fun hb => ?_)) <;> try simp only [decide_not, ilt_t, ilt_f, ile_t, ile_f, nlt_t, nlt_f, nle_t, nle_f, Bool.not_eq_true', Bool.not_eq_false', Int.ofNat_lt, Int.ofNat_le] at hb)
 | simp only [go_sem, ↓reduceIte, reduceIte, Nat.reduceEqDiff, String.reduceEq, Nat.reduceLT, Nat.reduceLeDiff, Nat.reduceAdd, Nat.reduceMul, Nat.reduceSub, Nat.reduceBEq, reduceCtorEq, *]
 | with_reducible refine fun (bn : Bool) hbn => ?_))
        all_goals ((repeat clear hK); (repeat clear hA); (repeat clear hB))
        rw [if_neg (by assumption), if_neg (by assumption)] at f3
        (refine hM.on (a.length - (i + 1)) (by omega) (by simp only [go_sem, ↓reduceIte, reduceIte, Nat.reduceEqDiff, String.reduceEq, Nat.reduceLT, Nat.reduceLeDiff, Nat.reduceAdd, Nat.reduceMul, Nat.reduceSub, Nat.reduceBEq, reduceCtorEq, *, w64_nat h1 ha, -f3]) ⟨i + 1, rfl, by omega, by omega, f3, ?_⟩; simp only [go_sem, ↓reduceIte, reduceIte, Nat.reduceEqDiff, String.reduceEq, Nat.reduceLT, Nat.reduceLeDiff, Nat.reduceAdd, Nat.reduceMul, Nat.reduceSub, Nat.reduceBEq, reduceCtorEq, *, w64_nat h1 ha, -f3]; done)
      · (repeat' (first
 | with_reducible assumption
 | (with_reducible refine NxK.out hK _ ?_; clear hK K)
 | with_reducible refine NxK.out (by assumption) _ ?_
 | with_reducible refine Nx.out (by assumption) ?_
 | with_reducible refine SpecC.seqW fun K hK => ?_
 | with_reducible refine SpecC.regW T fun K hK => ?_
 | with_reducible refine SpecC.drawW (id := 4) T mixed [([18], [19, 21, 22, 23]), ([19], [18, 21, 22, 23]), ([20], [21, 22, 23]), ([21], [18, 19, 20, 22]), ([22], [18, 19, 20, 21]), ([23], [18, 19, 20])] (by kernel_rfl) fun K hK => ?_
 | with_reducible refine SpecC.drawW (id := 6) T mixed [([25], [26, 28, 29, 30]), ([26], [25, 28, 29, 30]), ([27], [28, 29, 30]), ([28], [25, 26, 27, 29]), ([29], [25, 26, 27, 28]), ([30], [25, 26, 27])] (by kernel_rfl) fun K hK => ?_
 | with_reducible refine SpecC.condW fun A B hA hB => ?_
 | with_reducible refine SpecC.block ?_
 | with_reducible refine SpecC.skip ?_
 | with_reducible refine SpecC.label ?_
 | with_reducible refine SpecC.exit ?_
 | with_reducible refine SpecC.goto ?_
 | with_reducible refine SpecC.ret ?_
 | ((with_reducible first | refine condK.split (fun hb => ?_) (fun hb => ?_) | refine gK.split_t (fun hb => ?_) (fun hb => ?_) | refine gK.split_f (fun hb => ?_) (fun hb => ?_)) <;> try simp only [decide_not, ilt_t, ilt_f, ile_t, ile_f, nlt_t, nlt_f, nle_t, nle_f, Bool.not_eq_true', Bool.not_eq_false', Int.ofNat_lt, Int.ofNat_le] at hb)
 | simp only [go_sem, ↓reduceIte, reduceIte, Nat.reduceEqDiff, String.reduceEq, Nat.reduceLT, Nat.reduceLeDiff, Nat.reduceAdd, Nat.reduceMul, Nat.reduceSub, Nat.reduceBEq, reduceCtorEq, *]
 | with_reducible refine fun (bn : Bool) hbn => ?_))
        all_goals ((repeat clear hK); (repeat clear hA); (repeat clear hB))
        all_goals (rw [ncmp_short _ _ (.inr (List.drop_eq_nil_of_le (by omega)))]; simp only [List.length_drop]; split <;> (try split) <;> omega)
    · (repeat' (first
 | with_reducible assumption
 | (with_reducible refine NxK.out hK _ ?_; clear hK K)
 | with_reducible refine NxK.out (by assumption) _ ?_
 | with_reducible refine Nx.out (by assumption) ?_
 | with_reducible refine SpecC.seqW fun K hK => ?_
 | with_reducible refine SpecC.regW T fun K hK => ?_
 | with_reducible refine SpecC.drawW (id := 4) T mixed [([18], [19, 21, 22, 23]), ([19], [18, 21, 22, 23]), ([20], [21, 22, 23]), ([21], [18, 19, 20, 22]), ([22], [18, 19, 20, 21]), ([23], [18, 19, 20])] (by kernel_rfl) fun K hK => ?_
 | with_reducible refine SpecC.drawW (id := 6) T mixed [([25], [26, 28, 29, 30]), ([26], [25, 28, 29, 30]), ([27], [28, 29, 30]), ([28], [25, 26, 27, 29]), ([29], [25, 26, 27, 28]), ([30], [25, 26, 27])] (by kernel_rfl) fun K hK => ?_
 | with_reducible refine SpecC.condW fun A B hA hB => ?_
 | with_reducible refine SpecC.block ?_
 | with_reducible refine SpecC.skip ?_
 | with_reducible refine SpecC.label ?_
 | with_reducible refine SpecC.exit ?_
 | with_reducible refine SpecC.goto ?_
 | with_reducible refine SpecC.ret ?_
 | ((with_reducible first | refine condK.split (fun hb => ?_) (fun hb => ?_) | refine gK.split_t (fun hb => ?_) (fun hb => ?_) | refine gK.split_f (fun hb => ?_) (fun hb => ?_)) <;> try simp only [decide_not, ilt_t, ilt_f, ile_t, ile_f, nlt_t, nlt_f, nle_t, nle_f, Bool.not_eq_true', Bool.not_eq_false', Int.ofNat_lt, Int.ofNat_le] at hb)
 | simp only [go_sem, ↓reduceIte, reduceIte, Nat.reduceEqDiff, String.reduceEq, Nat.reduceLT, Nat.reduceLeDiff, Nat.reduceAdd, Nat.reduceMul, Nat.reduceSub, Nat.reduceBEq, reduceCtorEq, *]
 | with_reducible refine fun (bn : Bool) hbn => ?_))
      all_goals ((repeat clear hK); (repeat clear hA); (repeat clear hB))
      all_goals (rw [ncmp_short _ _ (.inl (List.drop_eq_nil_of_le (by omega)))]; simp only [List.length_drop]; split <;> (try split) <;> omega)
def kcmp3 (a b : Key) : Int := if a.kind < b.kind then -1 else if b.kind < a.kind then 1 else ncmp a.name b.name
set_option maxRecDepth 30000 in
theorem kcmp3_c (k1 k2 : Int) (n1 n2 : List UInt8) (hl1 : Small n1.length) (hl2 : Small n2.length) : CallR Tryz.prog 24 [.agg [.int .i64 k1, .str n1], .agg [.int .i64 k2, .str n2]] (.val (.int .i64 (kcmp3 ⟨k1, n1⟩ ⟨k2, n2⟩))) := by
  refine CallR.go2 (T := T) Tryz.call24 Tryz.func24 rfl Tryz.ntmps24 (congrArg Array.toList Tryz.results24) (by decide) fun ts hn h0 h1 => ?_
  (repeat' (first
 | with_reducible refine callX.by (ncmp_c _ _ ?_ ?_) ?_
 | with_reducible assumption
 | (with_reducible refine NxK.out hK _ ?_; clear hK K)
 | with_reducible refine NxK.out (by assumption) _ ?_
 | with_reducible refine Nx.out (by assumption) ?_
 | with_reducible refine SpecC.seqW fun K hK => ?_
 | with_reducible refine SpecC.regW T fun K hK => ?_
 | with_reducible refine SpecC.condW fun A B hA hB => ?_
 | with_reducible refine SpecC.block ?_
 | with_reducible refine SpecC.skip ?_
 | with_reducible refine SpecC.label ?_
 | with_reducible refine SpecC.exit ?_
 | with_reducible refine SpecC.goto ?_
 | with_reducible refine SpecC.ret ?_
 | ((with_reducible first | refine condK.split (fun hb => ?_) (fun hb => ?_) | refine gK.split_t (fun hb => ?_) (fun hb => ?_) | refine gK.split_f (fun hb => ?_) (fun hb => ?_)) <;> try simp only [decide_not, ilt_t, ilt_f, ile_t, ile_f, nlt_t, nlt_f, nle_t, nle_f, Bool.not_eq_true', Bool.not_eq_false', Int.ofNat_lt, Int.ofNat_le] at hb)
 | simp only [go_sem, ↓reduceIte, reduceIte, Nat.reduceEqDiff, String.reduceEq, Nat.reduceLT, Nat.reduceLeDiff, Nat.reduceAdd, Nat.reduceMul, Nat.reduceSub, Nat.reduceBEq, reduceCtorEq, *]
 | with_reducible refine fun (bn : Bool) hbn => ?_))
  all_goals simp [kcmp3, *]
def putL (k : Key) : List Key → Bool → List Key
  | [], done => if done then [] else [k]
  | x :: r, done => (if decide (0 ≤ kcmp3 x k) && !done then [k] else []) ++ (if kcmp3 x k = 0 then [] else [x]) ++ putL k r (done || decide (0 ≤ kcmp3 x k))
def kput (l : List Key) (k : Key) : List Key := putL k l false
set_option maxRecDepth 30000 in
theorem kput_c (xs : List Key) (kind : Int) (name : List UInt8) (hl : Small xs.length) (hn : Small name.length) (hx : ∀ x ∈ xs, Small x.name.length) : CallR Tryz.prog 58 [.slice false (avs xs), .agg [.int .i64 kind, .str name]] (.own 2 (avs (kput xs ⟨kind, name⟩))) := by
  refine CallR.go2 (T := T) Tryz.call58 Tryz.func58 rfl Tryz.ntmps58 (congrArg Array.toList Tryz.results58) (by decide) fun ts hn h0 h1 => ?_
  (repeat' (first
 | with_reducible refine callX.by (kcmp3_c _ _ _ _ ?_ ?_) ?_
 | with_reducible assumption
 | (with_reducible refine NxK.out hK _ ?_; clear hK K)
 | with_reducible refine NxK.out (by assumption) _ ?_
 | with_reducible refine Nx.out (by assumption) ?_
 | with_reducible refine SpecC.seqW fun K hK => ?_
 | with_reducible refine SpecC.regW T fun K hK => ?_
 | with_reducible refine SpecC.drawW (id := 6) T mixed [([15], [16, 19]), ([16], [15, 19]), ([17], [19]), ([18], [19]), ([19], [15, 16, 17, 18])] (by kernel_rfl) fun K hK => ?_
 | with_reducible refine SpecC.condW fun A B hA hB => ?_
 | with_reducible refine SpecC.block ?_
 | with_reducible refine SpecC.skip ?_
 | with_reducible refine SpecC.label ?_
 | with_reducible refine SpecC.exit ?_
 | with_reducible refine SpecC.goto ?_
 | with_reducible refine SpecC.ret ?_
 | ((with_reducible first | refine condK.split (fun hb => ?_) (fun hb => ?_) | refine gK.split_t (fun hb => ?_) (fun hb => ?_) | refine gK.split_f (fun hb => ?_) (fun hb => ?_)) <;> try simp only [decide_not, ilt_t, ilt_f, ile_t, ile_f, nlt_t, nlt_f, nle_t, nle_f, Bool.not_eq_true', Bool.not_eq_false', Int.ofNat_lt, Int.ofNat_le] at hb)
 | simp only [go_sem, ↓reduceIte, reduceIte, Nat.reduceEqDiff, String.reduceEq, Nat.reduceLT, Nat.reduceLeDiff, Nat.reduceAdd, Nat.reduceMul, Nat.reduceSub, Nat.reduceBEq, reduceCtorEq, *]
 | with_reducible refine fun (bn : Bool) hbn => ?_))
  refine SpecC.ent (Ent.virt 5 2 (by simp only [go_sem, ↓reduceIte, reduceIte, Nat.reduceEqDiff, String.reduceEq, Nat.reduceLT, Nat.reduceLeDiff, Nat.reduceAdd, Nat.reduceMul, Nat.reduceSub, Nat.reduceBEq, reduceCtorEq, *]) (by decide)) ?_
  refine SpecC.loopF [0, 3] (fun m ts' => ∃ (i : Nat), ∃ (g : Nat), ∃ (ys : List Key), ∃ (d : Bool), m = xs.length - i ∧ i ≤ xs.length ∧ ys.length ≤ 2 * i ∧ kput xs ⟨kind, name⟩ = ys ++ putL ⟨kind, name⟩ (xs.drop i) d ∧ ts'.tmp 5 = .os 5 g ys.length ∧ ts'.gen 5 = g ∧ ts'.obj 5 = .arr 2 (avs ys) ∧ ts'.tmp 6 = .bool d ∧ ts'.tmp 7 = .int .i64 i) xs.length ?_ ?_
  · refine ⟨0, ts.gen 5 + 1, [], false, rfl, Nat.zero_le _, Nat.le_refl _, rfl, ?_⟩
    simp only [go_sem, ↓reduceIte, reduceIte, Nat.reduceEqDiff, String.reduceEq, Nat.reduceLT, Nat.reduceLeDiff, Nat.reduceAdd, Nat.reduceMul, Nat.reduceSub, Nat.reduceBEq, reduceCtorEq, *, avs_nil]
  · rintro m A hM ts' hk ⟨i, g, ys, d, hm, f1, f2, f3, s1, s2, s3, s4, s5⟩
    simp only [go_sem, ↓reduceIte, reduceIte, Nat.reduceEqDiff, String.reduceEq, Nat.reduceLT, Nat.reduceLeDiff, Nat.reduceAdd, Nat.reduceMul, Nat.reduceSub, Nat.reduceBEq, reduceCtorEq, *] at hk
    by_cases hlt : i < xs.length
    · have hxi := hx xs[i] (List.getElem_mem hlt)
      have hr1 : Room (ys.length + 1) 24 := room_big (by unfold Small at hl; omega) (by decide)
      have hr2 : Room (ys.length + 1 + 1) 24 := room_big (by unfold Small at hl; omega) (by decide)
      rw [List.drop_eq_getElem_cons hlt, putL] at f3
      (repeat' (first
 | with_reducible refine callX.by (kcmp3_c _ _ _ _ ?_ ?_) ?_
 | with_reducible assumption
 | (with_reducible refine NxK.out hK _ ?_; clear hK K)
 | with_reducible refine NxK.out (by assumption) _ ?_
 | with_reducible refine Nx.out (by assumption) ?_
 | with_reducible refine SpecC.seqW fun K hK => ?_
 | with_reducible refine SpecC.regW T fun K hK => ?_
 | with_reducible refine SpecC.drawW (id := 6) T mixed [([15], [16, 19]), ([16], [15, 19]), ([17], [19]), ([18], [19]), ([19], [15, 16, 17, 18])] (by kernel_rfl) fun K hK => ?_
 | with_reducible refine SpecC.condW fun A B hA hB => ?_
 | with_reducible refine SpecC.block ?_
 | with_reducible refine SpecC.skip ?_
 | with_reducible refine SpecC.label ?_
 | with_reducible refine SpecC.exit ?_
 | with_reducible refine SpecC.goto ?_
 | with_reducible refine SpecC.ret ?_
 | ((with_reducible first | refine condK.split (fun hb => ?_) (fun hb => ?_) | refine gK.split_t (fun hb => ?_) (fun hb => ?_) | refine gK.split_f (fun hb => ?_) (fun hb => ?_)) <;> try simp only [decide_not, ilt_t, ilt_f, ile_t, ile_f, nlt_t, nlt_f, nle_t, nle_f, Bool.not_eq_true', Bool.not_eq_false', Int.ofNat_lt, Int.ofNat_le] at hb)
 | simp only [go_sem, ↓reduceIte, reduceIte, Nat.reduceEqDiff, String.reduceEq, Nat.reduceLT, Nat.reduceLeDiff, Nat.reduceAdd, Nat.reduceMul, Nat.reduceSub, Nat.reduceBEq, reduceCtorEq, *]
 | with_reducible refine fun (bn : Bool) hbn => ?_))
      all_goals ((repeat clear hK); (repeat clear hA); (repeat clear hB))
      · (refine hM.onE (xs.length - (i + 1)) (Ent.ren 5 39 ?_ ?_) ?_ ?_ ?_; (focus (simp only [go_sem, ↓reduceIte, reduceIte, Nat.reduceEqDiff, String.reduceEq, Nat.reduceLT, Nat.reduceLeDiff, Nat.reduceAdd, Nat.reduceMul, Nat.reduceSub, Nat.reduceBEq, reduceCtorEq, *]; first | done | rfl)); (focus (simp only [go_sem, ↓reduceIte, reduceIte, Nat.reduceEqDiff, String.reduceEq, Nat.reduceLT, Nat.reduceLeDiff, Nat.reduceAdd, Nat.reduceMul, Nat.reduceSub, Nat.reduceBEq, reduceCtorEq, *]; first | done | rfl)); omega; (focus (simp only [go_sem, ↓reduceIte, reduceIte, Nat.reduceEqDiff, String.reduceEq, Nat.reduceLT, Nat.reduceLeDiff, Nat.reduceAdd, Nat.reduceMul, Nat.reduceSub, Nat.reduceBEq, reduceCtorEq, *, w64_nat hlt hl, -f3]; done)); refine ⟨i + 1, g + 1, ys ++ [⟨kind, name⟩] ++ [xs[i]], true, rfl, by omega, by first | omega | (simp; omega), by simp_all, ?_⟩; simp only [go_sem, ↓reduceIte, reduceIte, Nat.reduceEqDiff, String.reduceEq, Nat.reduceLT, Nat.reduceLeDiff, Nat.reduceAdd, Nat.reduceMul, Nat.reduceSub, Nat.reduceBEq, reduceCtorEq, *, w64_nat hlt hl, -f3]; done)
      · (refine hM.onE (xs.length - (i + 1)) (Ent.ren 5 30 ?_ ?_) ?_ ?_ ?_; (focus (simp only [go_sem, ↓reduceIte, reduceIte, Nat.reduceEqDiff, String.reduceEq, Nat.reduceLT, Nat.reduceLeDiff, Nat.reduceAdd, Nat.reduceMul, Nat.reduceSub, Nat.reduceBEq, reduceCtorEq, *]; first | done | rfl)); (focus (simp only [go_sem, ↓reduceIte, reduceIte, Nat.reduceEqDiff, String.reduceEq, Nat.reduceLT, Nat.reduceLeDiff, Nat.reduceAdd, Nat.reduceMul, Nat.reduceSub, Nat.reduceBEq, reduceCtorEq, *]; first | done | rfl)); omega; (focus (simp only [go_sem, ↓reduceIte, reduceIte, Nat.reduceEqDiff, String.reduceEq, Nat.reduceLT, Nat.reduceLeDiff, Nat.reduceAdd, Nat.reduceMul, Nat.reduceSub, Nat.reduceBEq, reduceCtorEq, *, w64_nat hlt hl, -f3]; done)); refine ⟨i + 1, g + 1, ys ++ [⟨kind, name⟩], true, rfl, by omega, by first | omega | (simp; omega), by simp_all, ?_⟩; simp only [go_sem, ↓reduceIte, reduceIte, Nat.reduceEqDiff, String.reduceEq, Nat.reduceLT, Nat.reduceLeDiff, Nat.reduceAdd, Nat.reduceMul, Nat.reduceSub, Nat.reduceBEq, reduceCtorEq, *, w64_nat hlt hl, -f3]; done)
      · (refine hM.onE (xs.length - (i + 1)) (Ent.ren 5 39 ?_ ?_) ?_ ?_ ?_; (focus (simp only [go_sem, ↓reduceIte, reduceIte, Nat.reduceEqDiff, String.reduceEq, Nat.reduceLT, Nat.reduceLeDiff, Nat.reduceAdd, Nat.reduceMul, Nat.reduceSub, Nat.reduceBEq, reduceCtorEq, *]; first | done | rfl)); (focus (simp only [go_sem, ↓reduceIte, reduceIte, Nat.reduceEqDiff, String.reduceEq, Nat.reduceLT, Nat.reduceLeDiff, Nat.reduceAdd, Nat.reduceMul, Nat.reduceSub, Nat.reduceBEq, reduceCtorEq, *]; first | done | rfl)); omega; (focus (simp only [go_sem, ↓reduceIte, reduceIte, Nat.reduceEqDiff, String.reduceEq, Nat.reduceLT, Nat.reduceLeDiff, Nat.reduceAdd, Nat.reduceMul, Nat.reduceSub, Nat.reduceBEq, reduceCtorEq, *, w64_nat hlt hl, -f3]; done)); refine ⟨i + 1, g + 1, ys ++ [xs[i]], true, rfl, by omega, by first | omega | (simp; omega), by simp_all, ?_⟩; simp only [go_sem, ↓reduceIte, reduceIte, Nat.reduceEqDiff, String.reduceEq, Nat.reduceLT, Nat.reduceLeDiff, Nat.reduceAdd, Nat.reduceMul, Nat.reduceSub, Nat.reduceBEq, reduceCtorEq, *, w64_nat hlt hl, -f3]; done)
      · (refine hM.on (xs.length - (i + 1)) (by omega) (by simp only [go_sem, ↓reduceIte, reduceIte, Nat.reduceEqDiff, String.reduceEq, Nat.reduceLT, Nat.reduceLeDiff, Nat.reduceAdd, Nat.reduceMul, Nat.reduceSub, Nat.reduceBEq, reduceCtorEq, *, w64_nat hlt hl, -f3]) ⟨i + 1, g, ys, true, rfl, by omega, by first | omega | (simp; omega), by simp_all, ?_⟩; simp only [go_sem, ↓reduceIte, reduceIte, Nat.reduceEqDiff, String.reduceEq, Nat.reduceLT, Nat.reduceLeDiff, Nat.reduceAdd, Nat.reduceMul, Nat.reduceSub, Nat.reduceBEq, reduceCtorEq, *, w64_nat hlt hl, -f3]; done)
      · (refine hM.onE (xs.length - (i + 1)) (Ent.ren 5 39 ?_ ?_) ?_ ?_ ?_; (focus (simp only [go_sem, ↓reduceIte, reduceIte, Nat.reduceEqDiff, String.reduceEq, Nat.reduceLT, Nat.reduceLeDiff, Nat.reduceAdd, Nat.reduceMul, Nat.reduceSub, Nat.reduceBEq, reduceCtorEq, *]; first | done | rfl)); (focus (simp only [go_sem, ↓reduceIte, reduceIte, Nat.reduceEqDiff, String.reduceEq, Nat.reduceLT, Nat.reduceLeDiff, Nat.reduceAdd, Nat.reduceMul, Nat.reduceSub, Nat.reduceBEq, reduceCtorEq, *]; first | done | rfl)); omega; (focus (simp only [go_sem, ↓reduceIte, reduceIte, Nat.reduceEqDiff, String.reduceEq, Nat.reduceLT, Nat.reduceLeDiff, Nat.reduceAdd, Nat.reduceMul, Nat.reduceSub, Nat.reduceBEq, reduceCtorEq, *, w64_nat hlt hl, -f3]; done)); refine ⟨i + 1, g + 1, ys ++ [xs[i]], d, rfl, by omega, by first | omega | (simp; omega), by simp_all, ?_⟩; simp only [go_sem, ↓reduceIte, reduceIte, Nat.reduceEqDiff, String.reduceEq, Nat.reduceLT, Nat.reduceLeDiff, Nat.reduceAdd, Nat.reduceMul, Nat.reduceSub, Nat.reduceBEq, reduceCtorEq, *, w64_nat hlt hl, -f3]; done)
      · (refine hM.on (xs.length - (i + 1)) (by omega) (by simp only [go_sem, ↓reduceIte, reduceIte, Nat.reduceEqDiff, String.reduceEq, Nat.reduceLT, Nat.reduceLeDiff, Nat.reduceAdd, Nat.reduceMul, Nat.reduceSub, Nat.reduceBEq, reduceCtorEq, *, w64_nat hlt hl, -f3]) ⟨i + 1, g, ys, d, rfl, by omega, by first | omega | (simp; omega), by simp_all, ?_⟩; simp only [go_sem, ↓reduceIte, reduceIte, Nat.reduceEqDiff, String.reduceEq, Nat.reduceLT, Nat.reduceLeDiff, Nat.reduceAdd, Nat.reduceMul, Nat.reduceSub, Nat.reduceBEq, reduceCtorEq, *, w64_nat hlt hl, -f3]; done)
    · rw [List.drop_eq_nil_of_le (by omega), putL] at f3
      have hr1 : Room (ys.length + 1) 24 := room_big (by unfold Small at hl; omega) (by decide)
      (repeat' (first
 | with_reducible refine callX.by (kcmp3_c _ _ _ _ ?_ ?_) ?_
 | with_reducible assumption
 | (with_reducible refine NxK.out hK _ ?_; clear hK K)
 | with_reducible refine NxK.out (by assumption) _ ?_
 | with_reducible refine Nx.out (by assumption) ?_
 | with_reducible refine SpecC.seqW fun K hK => ?_
 | with_reducible refine SpecC.regW T fun K hK => ?_
 | with_reducible refine SpecC.drawW (id := 6) T mixed [([15], [16, 19]), ([16], [15, 19]), ([17], [19]), ([18], [19]), ([19], [15, 16, 17, 18])] (by kernel_rfl) fun K hK => ?_
 | with_reducible refine SpecC.condW fun A B hA hB => ?_
 | with_reducible refine SpecC.block ?_
 | with_reducible refine SpecC.skip ?_
 | with_reducible refine SpecC.label ?_
 | with_reducible refine SpecC.exit ?_
 | with_reducible refine SpecC.goto ?_
 | with_reducible refine SpecC.ret ?_
 | ((with_reducible first | refine condK.split (fun hb => ?_) (fun hb => ?_) | refine gK.split_t (fun hb => ?_) (fun hb => ?_) | refine gK.split_f (fun hb => ?_) (fun hb => ?_)) <;> try simp only [decide_not, ilt_t, ilt_f, ile_t, ile_f, nlt_t, nlt_f, nle_t, nle_f, Bool.not_eq_true', Bool.not_eq_false', Int.ofNat_lt, Int.ofNat_le] at hb)
 | simp only [go_sem, ↓reduceIte, reduceIte, Nat.reduceEqDiff, String.reduceEq, Nat.reduceLT, Nat.reduceLeDiff, Nat.reduceAdd, Nat.reduceMul, Nat.reduceSub, Nat.reduceBEq, reduceCtorEq, *]
 | with_reducible refine fun (bn : Bool) hbn => ?_))
      all_goals ((repeat clear hK); (repeat clear hA); (repeat clear hB))
end Go.Proofs.YtbmdbkgjgjggiaaGreatDoor.Lg
