/- Parts of the proof, one behind the other. -/
import Derived.Test.YtndnkbekhmndhaaGreatDoorG21
namespace Go.Proofs.YtndnkbekhmndhaaGreatDoor.Lg
set_option maxRecDepth 100000
set_option linter.unusedVariables false
set_option linter.unusedSimpArgs false
open Go
def withR (l : List Res) (r : Res) : List Res := sideR l (keyOf r) (-1) ++ [r] ++ sideR l (keyOf r) 1
instance : Dat (List Res) where
  av x := .slice false (avs x)
  sz := 1
  len _ := rfl
  pure x := by simp only [go_sem, Bool.and_self]
  nrm x := by simp only [go_sem]
  one x := by simp only [go_sem, List.all_cons, List.all_nil, Bool.and_self]
  known _ := rfl
@[go_sem] theorem av_LRes (x : List Res) : Dat.av x = .slice false (avs x) := rfl
@[go_sem] theorem sz_LRes : Dat.sz (List Res) = 1 := rfl
theorem w64_sub0 {n : Nat} (hn : Small n) : IntKind.i64.wrap ((n : Int) - IntKind.i64.wrap ((0 : Int) - 0)) = n := by
  have e : IntKind.i64.wrap ((0 : Int) - 0) = 0 := by decide
  rw [e]
  unfold Small at hn
  simp only [IntKind.wrap, IntKind.signed, IntKind.bits]
  simp
  omega
theorem w64_addN {a b n : Nat} (h : a + b ≤ n) (hn : Small n) : IntKind.i64.wrap ((a : Int) + (b : Int)) = ((a + b : Nat) : Int) := by
  unfold Small at hn
  simp only [IntKind.wrap, IntKind.signed, IntKind.bits]
  simp
  omega
set_option maxRecDepth 30000 in
theorem tgrow_c (n : Nat) (hn : Small n) : CallR Tryz.prog 129 [.slice true [], .int .i64 n] (.own 7 []) := by
  have hr : Room n 104 := room_small (by unfold Small at hn; omega) (by decide)
  have hr1 : n * 104 ≤ 140737488355328 := hr.1
  have hr2 : n ≤ 9223372036854775807 := hr.2
  have hw := w64_sub0 hn
  refine CallR.go2 (T := T) Tryz.call129 Tryz.func129 rfl Tryz.ntmps129 (congrArg Array.toList Tryz.results129) (by decide) fun ts hn h0 h1 => ?_
  have hz0 : IntKind.i64.wrap ((0 : Int) - IntKind.i64.wrap ((0 : Int) - 0)) = 0 := by decide
  by_cases h00 : n = 0
  · subst h00
    (repeat' (first
 | (with_reducible first | assumption | (refine NxK.out hK _ ?_; clear hK K) | refine NxK.out (by assumption) _ ?_ | refine Nx.out (by assumption) ?_ | refine SpecC.seqW fun K hK => ?_ | refine SpecC.regW T fun K hK => ?_ | refine SpecC.condW fun A B hA hB => ?_ | refine SpecC.block ?_ | refine SpecC.skip ?_ | refine SpecC.label ?_ | refine SpecC.exit ?_ | refine SpecC.goto ?_ | refine SpecC.ret ?_)
 | ((with_reducible first | refine condK.split (fun hb => ?_) (fun hb => ?_) | refine gK.split_t (fun hb => ?_) (fun hb => ?_) | refine gK.split_f (fun hb => ?_) (fun hb => ?_)) <;> try simp only [decide_not, ilt_t, ilt_f, ile_t, ile_f, nlt_t, nlt_f, nle_t, nle_f, Bool.not_eq_true', Bool.not_eq_false', Int.ofNat_lt, Int.ofNat_le] at hb)
 | simp only [go_sem, ↓reduceIte, reduceIte, Nat.reduceEqDiff, String.reduceEq, Nat.reduceLT, Nat.reduceLeDiff, Nat.reduceAdd, Nat.reduceMul, Nat.reduceSub, Nat.reduceBEq, reduceCtorEq, *, -hr, List.length_nil, Int.lt_irrefl, decide_false, Int.le_refl]
 | with_reducible refine fun (bn : Bool) hbn => ?_))
    all_goals first | (exfalso; simp_all; done) | trace_state
  · have hd : (0 : Int) < (n : Int) := by omega
    have hz : List.take 0 (List.replicate n (AV.agg (List.replicate 7 AV.any))) = [] := rfl
    (repeat' (first
 | (with_reducible first | assumption | (refine NxK.out hK _ ?_; clear hK K) | refine NxK.out (by assumption) _ ?_ | refine Nx.out (by assumption) ?_ | refine SpecC.seqW fun K hK => ?_ | refine SpecC.regW T fun K hK => ?_ | refine SpecC.condW fun A B hA hB => ?_ | refine SpecC.block ?_ | refine SpecC.skip ?_ | refine SpecC.label ?_ | refine SpecC.exit ?_ | refine SpecC.goto ?_ | refine SpecC.ret ?_)
 | ((with_reducible first | refine condK.split (fun hb => ?_) (fun hb => ?_) | refine gK.split_t (fun hb => ?_) (fun hb => ?_) | refine gK.split_f (fun hb => ?_) (fun hb => ?_)) <;> try simp only [decide_not, ilt_t, ilt_f, ile_t, ile_f, nlt_t, nlt_f, nle_t, nle_f, Bool.not_eq_true', Bool.not_eq_false', Int.ofNat_lt, Int.ofNat_le] at hb)
 | simp only [go_sem, ↓reduceIte, reduceIte, Nat.reduceEqDiff, String.reduceEq, Nat.reduceLT, Nat.reduceLeDiff, Nat.reduceAdd, Nat.reduceMul, Nat.reduceSub, Nat.reduceBEq, reduceCtorEq, *, -hr, List.length_nil, Int.le_refl, Int.toNat_zero, List.drop_zero]
 | with_reducible refine fun (bn : Bool) hbn => ?_))
    all_goals trace_state
def flatN (xss : List (List Res)) (i : Nat) : Nat := (xss.drop i).flatten.length
theorem flatN_step {xss : List (List Res)} {i : Nat} (h : i < xss.length) : flatN xss i = xss[i].length + flatN xss (i + 1) := by
  unfold flatN
  rw [List.drop_eq_getElem_cons h, List.flatten_cons, List.length_append]
set_option maxRecDepth 30000 in
theorem concat_c (xss : List (List Res)) (hx : Small xss.length) (hl : Small xss.flatten.length) : CallR Tryz.prog 94 [.slice false (avs xss)] (.own 7 (avs xss.flatten)) := by
  have hg := tgrow_c xss.flatten.length hl
  refine CallR.go1 (T := T) Tryz.call94 Tryz.func94 rfl Tryz.ntmps94 (congrArg Array.toList Tryz.results94) (by decide) fun ts hn h0 => ?_
  (repeat' (first
 | (with_reducible first | refine callX.by (tgrow_c _ ?_) ?_ | assumption | (refine NxK.out hK _ ?_; clear hK K) | refine NxK.out (by assumption) _ ?_ | refine Nx.out (by assumption) ?_ | refine SpecC.seqW fun K hK => ?_ | refine SpecC.regW T fun K hK => ?_ | refine SpecC.condW fun A B hA hB => ?_ | refine SpecC.block ?_ | refine SpecC.skip ?_ | refine SpecC.label ?_ | refine SpecC.exit ?_ | refine SpecC.goto ?_ | refine SpecC.ret ?_)
 | ((with_reducible first | refine condK.split (fun hb => ?_) (fun hb => ?_) | refine gK.split_t (fun hb => ?_) (fun hb => ?_) | refine gK.split_f (fun hb => ?_) (fun hb => ?_)) <;> try simp only [decide_not, ilt_t, ilt_f, ile_t, ile_f, nlt_t, nlt_f, nle_t, nle_f, Bool.not_eq_true', Bool.not_eq_false', Int.ofNat_lt, Int.ofNat_le] at hb)
 | simp only [go_sem, ↓reduceIte, reduceIte, Nat.reduceEqDiff, String.reduceEq, Nat.reduceLT, Nat.reduceLeDiff, Nat.reduceAdd, Nat.reduceMul, Nat.reduceSub, Nat.reduceBEq, reduceCtorEq, *, -hg]
 | with_reducible refine fun (bn : Bool) hbn => ?_))
  refine SpecC.loopF [0, 9, 10] (fun m ts' => ∃ (i : Nat), ∃ (n : Nat), m = xss.length - i ∧ i ≤ xss.length ∧ n + flatN xss i = xss.flatten.length ∧ ts'.tmp 3 = .int .i64 n ∧ ts'.tmp 11 = .int .i64 i) xss.length ?_ ?_
  · refine ⟨0, 0, rfl, Nat.zero_le _, by simp [flatN], ?_⟩
    simp only [go_sem, ↓reduceIte, reduceIte, Nat.reduceEqDiff, String.reduceEq, Nat.reduceLT, Nat.reduceLeDiff, Nat.reduceAdd, Nat.reduceMul, Nat.reduceSub, Nat.reduceBEq, reduceCtorEq, *, -hg]
  · rintro m A hM ts' hk ⟨i, n, hm, f1, f2, s1, s2⟩
    simp only [go_sem, ↓reduceIte, reduceIte, Nat.reduceEqDiff, String.reduceEq, Nat.reduceLT, Nat.reduceLeDiff, Nat.reduceAdd, Nat.reduceMul, Nat.reduceSub, Nat.reduceBEq, reduceCtorEq, *] at hk
    by_cases hlt : i < xss.length
    · rw [flatN_step hlt] at f2
      have hw := w64_addN (a := n) (b := xss[i].length) (n := xss.flatten.length) (by omega) hl
      (repeat' (first
 | (with_reducible first | refine callX.by (tgrow_c _ ?_) ?_ | assumption | (refine NxK.out hK _ ?_; clear hK K) | refine NxK.out (by assumption) _ ?_ | refine Nx.out (by assumption) ?_ | refine SpecC.seqW fun K hK => ?_ | refine SpecC.regW T fun K hK => ?_ | refine SpecC.condW fun A B hA hB => ?_ | refine SpecC.block ?_ | refine SpecC.skip ?_ | refine SpecC.label ?_ | refine SpecC.exit ?_ | refine SpecC.goto ?_ | refine SpecC.ret ?_)
 | ((with_reducible first | refine condK.split (fun hb => ?_) (fun hb => ?_) | refine gK.split_t (fun hb => ?_) (fun hb => ?_) | refine gK.split_f (fun hb => ?_) (fun hb => ?_)) <;> try simp only [decide_not, ilt_t, ilt_f, ile_t, ile_f, nlt_t, nlt_f, nle_t, nle_f, Bool.not_eq_true', Bool.not_eq_false', Int.ofNat_lt, Int.ofNat_le] at hb)
 | simp only [go_sem, ↓reduceIte, reduceIte, Nat.reduceEqDiff, String.reduceEq, Nat.reduceLT, Nat.reduceLeDiff, Nat.reduceAdd, Nat.reduceMul, Nat.reduceSub, Nat.reduceBEq, reduceCtorEq, *, -hg, -f2]
 | with_reducible refine fun (bn : Bool) hbn => ?_))
      all_goals ((repeat clear hK); (repeat clear hA); (repeat clear hB))
      all_goals (refine hM.on (xss.length - (i + 1)) (by omega) (by simp only [go_sem, ↓reduceIte, reduceIte, Nat.reduceEqDiff, String.reduceEq, Nat.reduceLT, Nat.reduceLeDiff, Nat.reduceAdd, Nat.reduceMul, Nat.reduceSub, Nat.reduceBEq, reduceCtorEq, *, w64_nat hlt hx, -hg, -f2]) ⟨i + 1, n + xss[i].length, rfl, by omega, by omega, ?_⟩; simp only [go_sem, ↓reduceIte, reduceIte, Nat.reduceEqDiff, String.reduceEq, Nat.reduceLT, Nat.reduceLeDiff, Nat.reduceAdd, Nat.reduceMul, Nat.reduceSub, Nat.reduceBEq, reduceCtorEq, *, w64_nat hlt hx, -hg, -f2]; done)
    · have hn : n = xss.flatten.length := by
        have e : flatN xss i = 0 := by unfold flatN; rw [List.drop_eq_nil_of_le (by omega)]; rfl
        omega
      clear f2
      subst hn
      (repeat' (first
 | (with_reducible first | refine callX.raw (hg) ?_ | refine callX.by (tgrow_c _ ?_) ?_ | assumption | (refine NxK.out hK _ ?_; clear hK K) | refine NxK.out (by assumption) _ ?_ | refine Nx.out (by assumption) ?_ | refine SpecC.seqW fun K hK => ?_ | refine SpecC.regW T fun K hK => ?_ | refine SpecC.condW fun A B hA hB => ?_ | refine SpecC.block ?_ | refine SpecC.skip ?_ | refine SpecC.label ?_ | refine SpecC.exit ?_ | refine SpecC.goto ?_ | refine SpecC.ret ?_)
 | ((with_reducible first | refine condK.split (fun hb => ?_) (fun hb => ?_) | refine gK.split_t (fun hb => ?_) (fun hb => ?_) | refine gK.split_f (fun hb => ?_) (fun hb => ?_)) <;> try simp only [decide_not, ilt_t, ilt_f, ile_t, ile_f, nlt_t, nlt_f, nle_t, nle_f, Bool.not_eq_true', Bool.not_eq_false', Int.ofNat_lt, Int.ofNat_le] at hb)
 | simp only [go_sem, ↓reduceIte, reduceIte, Nat.reduceEqDiff, String.reduceEq, Nat.reduceLT, Nat.reduceLeDiff, Nat.reduceAdd, Nat.reduceMul, Nat.reduceSub, Nat.reduceBEq, reduceCtorEq, *, -hg]
 | with_reducible refine fun (bn : Bool) hbn => ?_))
      refine SpecC.ent (Ent.ren 6 24 (by simp only [go_sem, ↓reduceIte, reduceIte, Nat.reduceEqDiff, String.reduceEq, Nat.reduceLT, Nat.reduceLeDiff, Nat.reduceAdd, Nat.reduceMul, Nat.reduceSub, Nat.reduceBEq, reduceCtorEq, *, -hg]) (by simp only [go_sem, ↓reduceIte, reduceIte, Nat.reduceEqDiff, String.reduceEq, Nat.reduceLT, Nat.reduceLeDiff, Nat.reduceAdd, Nat.reduceMul, Nat.reduceSub, Nat.reduceBEq, reduceCtorEq, *, -hg])) ?_
      refine SpecC.loopF [25, 26] (fun m ts' => ∃ (j : Nat), ∃ (g : Nat), ∃ (ys : List Res), m = xss.length - j ∧ j ≤ xss.length ∧ ys ++ (xss.drop j).flatten = xss.flatten ∧ ts'.tmp 6 = .os 6 g ys.length ∧ ts'.gen 6 = g ∧ ts'.obj 6 = .arr 7 (avs ys) ∧ ts'.tmp 27 = .int .i64 j) xss.length ?_ ?_
      · refine ⟨0, ts'.gen 6 + 1, [], rfl, Nat.zero_le _, by simp, ?_⟩
        simp only [go_sem, ↓reduceIte, reduceIte, Nat.reduceEqDiff, String.reduceEq, Nat.reduceLT, Nat.reduceLeDiff, Nat.reduceAdd, Nat.reduceMul, Nat.reduceSub, Nat.reduceBEq, reduceCtorEq, *, -hg]
        rfl
      · clear hM hm
        rintro m A hM ts' hk ⟨j, g, ys, hm, f1, f2, s1, s2, s3, s4⟩
        simp only [go_sem, ↓reduceIte, reduceIte, Nat.reduceEqDiff, String.reduceEq, Nat.reduceLT, Nat.reduceLeDiff, Nat.reduceAdd, Nat.reduceMul, Nat.reduceSub, Nat.reduceBEq, reduceCtorEq, *] at hk
        by_cases hlt2 : j < xss.length
        · rw [List.drop_eq_getElem_cons hlt2, List.flatten_cons, ← List.append_assoc] at f2
          have hle : ys.length + xss[j].length ≤ xss.flatten.length := by rw [← f2]; simp
          have hr : Room (ys.length + xss[j].length) 104 := room_small (by unfold Small at hl; omega) (by decide)
          (repeat' (first
 | (with_reducible first | refine callX.by (tgrow_c _ ?_) ?_ | assumption | (refine NxK.out hK _ ?_; clear hK K) | refine NxK.out (by assumption) _ ?_ | refine Nx.out (by assumption) ?_ | refine SpecC.seqW fun K hK => ?_ | refine SpecC.regW T fun K hK => ?_ | refine SpecC.condW fun A B hA hB => ?_ | refine SpecC.block ?_ | refine SpecC.skip ?_ | refine SpecC.label ?_ | refine SpecC.exit ?_ | refine SpecC.goto ?_ | refine SpecC.ret ?_)
 | ((with_reducible first | refine condK.split (fun hb => ?_) (fun hb => ?_) | refine gK.split_t (fun hb => ?_) (fun hb => ?_) | refine gK.split_f (fun hb => ?_) (fun hb => ?_)) <;> try simp only [decide_not, ilt_t, ilt_f, ile_t, ile_f, nlt_t, nlt_f, nle_t, nle_f, Bool.not_eq_true', Bool.not_eq_false', Int.ofNat_lt, Int.ofNat_le] at hb)
 | simp only [go_sem, ↓reduceIte, reduceIte, Nat.reduceEqDiff, String.reduceEq, Nat.reduceLT, Nat.reduceLeDiff, Nat.reduceAdd, Nat.reduceMul, Nat.reduceSub, Nat.reduceBEq, reduceCtorEq, *, -hg, -f2]
 | with_reducible refine fun (bn : Bool) hbn => ?_))
          all_goals ((repeat clear hK); (repeat clear hA); (repeat clear hB))
          all_goals (refine hM.onE (xss.length - (j + 1)) (Ent.ren 6 33 ?_ ?_) ?_ ?_ ?_; (focus (simp only [go_sem, ↓reduceIte, reduceIte, Nat.reduceEqDiff, String.reduceEq, Nat.reduceLT, Nat.reduceLeDiff, Nat.reduceAdd, Nat.reduceMul, Nat.reduceSub, Nat.reduceBEq, reduceCtorEq, *, w64_nat hlt2 hx, List.length_append, -hg, -f2]; first | done | rfl)); (focus (simp only [go_sem, ↓reduceIte, reduceIte, Nat.reduceEqDiff, String.reduceEq, Nat.reduceLT, Nat.reduceLeDiff, Nat.reduceAdd, Nat.reduceMul, Nat.reduceSub, Nat.reduceBEq, reduceCtorEq, *, w64_nat hlt2 hx, List.length_append, -hg, -f2]; first | done | rfl)); omega; (focus (simp only [go_sem, ↓reduceIte, reduceIte, Nat.reduceEqDiff, String.reduceEq, Nat.reduceLT, Nat.reduceLeDiff, Nat.reduceAdd, Nat.reduceMul, Nat.reduceSub, Nat.reduceBEq, reduceCtorEq, *, w64_nat hlt2 hx, List.length_append, -hg, -f2]; done)); refine ⟨j + 1, ts'.gen 6 + 1, ys ++ xss[j], rfl, by omega, f2, ?_⟩; simp only [go_sem, ↓reduceIte, reduceIte, Nat.reduceEqDiff, String.reduceEq, Nat.reduceLT, Nat.reduceLeDiff, Nat.reduceAdd, Nat.reduceMul, Nat.reduceSub, Nat.reduceBEq, reduceCtorEq, *, w64_nat hlt2 hx, List.length_append, -hg, -f2]; done)
        · rw [List.drop_eq_nil_of_le (by omega), List.flatten_nil, List.append_nil] at f2
          subst f2
          (repeat' (first
 | (with_reducible first | refine callX.by (tgrow_c _ ?_) ?_ | assumption | (refine NxK.out hK _ ?_; clear hK K) | refine NxK.out (by assumption) _ ?_ | refine Nx.out (by assumption) ?_ | refine SpecC.seqW fun K hK => ?_ | refine SpecC.regW T fun K hK => ?_ | refine SpecC.condW fun A B hA hB => ?_ | refine SpecC.block ?_ | refine SpecC.skip ?_ | refine SpecC.label ?_ | refine SpecC.exit ?_ | refine SpecC.goto ?_ | refine SpecC.ret ?_)
 | ((with_reducible first | refine condK.split (fun hb => ?_) (fun hb => ?_) | refine gK.split_t (fun hb => ?_) (fun hb => ?_) | refine gK.split_f (fun hb => ?_) (fun hb => ?_)) <;> try simp only [decide_not, ilt_t, ilt_f, ile_t, ile_f, nlt_t, nlt_f, nle_t, nle_f, Bool.not_eq_true', Bool.not_eq_false', Int.ofNat_lt, Int.ofNat_le] at hb)
 | simp only [go_sem, ↓reduceIte, reduceIte, Nat.reduceEqDiff, String.reduceEq, Nat.reduceLT, Nat.reduceLeDiff, Nat.reduceAdd, Nat.reduceMul, Nat.reduceSub, Nat.reduceBEq, reduceCtorEq, *, -hg]
 | with_reducible refine fun (bn : Bool) hbn => ?_))
set_option maxRecDepth 30000 in
theorem with_c (xs : List Res) (r : Res) (hl : Small xs.length) (hl2 : Small (withR xs r).length) : CallR Tryz.prog 41 [.slice false (avs xs), .agg [.int .i64 r.kind, .str r.name, .int .i64 r.ver, .int .i64 r.port, .str r.to', .slice false (avs r.rules'), .slice false (avs r.hosts)]] (.own 7 (avs (withR xs r))) := by
  have w1 := (with1_c xs r.kind r.name (-1) hl).frz
  have w2 := (with1_c xs r.kind r.name 1 hl).frz
  have hcc : CallR Tryz.prog 94 [.slice false [.slice false (avs (sideR xs ⟨r.kind, r.name⟩ (-1))), .slice false [.agg [.int .i64 r.kind, .str r.name, .int .i64 r.ver, .int .i64 r.port, .str r.to', .slice false (avs r.rules'), .slice false (avs r.hosts)]], .slice false (avs (sideR xs ⟨r.kind, r.name⟩ 1))]] (.own 7 (avs (withR xs r))) := by
    have h := concat_c [sideR xs (keyOf r) (-1), [r], sideR xs (keyOf r) 1] (by unfold Small; simp) (by simpa [withR] using hl2)
    have e : [sideR xs (keyOf r) (-1), [r], sideR xs (keyOf r) 1].flatten = withR xs r := by simp [withR]
    rw [e] at h
    exact h
  refine CallR.go2 (T := T.withF [13, 16]) Tryz.call41 Tryz.func41 rfl Tryz.ntmps41 (congrArg Array.toList Tryz.results41) (by decide) fun ts hn h0 h1 => ?_
  (repeat' (first
 | (with_reducible first | refine callX.by (w1) ?_ | refine callX.by (w2) ?_ | refine callX.by (hcc) ?_ | refine callX.by (rkey_c _ _ _ _ _ _ _) ?_ | refine callX.by (concat_c _ ?_ ?_) ?_ | assumption | (refine NxK.out hK _ ?_; clear hK K) | refine NxK.out (by assumption) _ ?_ | refine Nx.out (by assumption) ?_ | refine SpecC.seqW fun K hK => ?_ | refine SpecC.regW (T.withF [13, 16]) fun K hK => ?_ | refine SpecC.drawW (id := 3) (T.withF [13, 16]) mixed [([10], [12, 13, 14]), ([11], [12, 13, 14]), ([12], [10, 11, 14, 15]), ([13], [10, 11, 14, 15]), ([14], [10, 11, 12, 13]), ([15], [12, 13])] (by kernel_rfl) fun K hK => ?_ | refine SpecC.condW fun A B hA hB => ?_ | refine SpecC.block ?_ | refine SpecC.skip ?_ | refine SpecC.label ?_ | refine SpecC.exit ?_ | refine SpecC.goto ?_ | refine SpecC.ret ?_)
 | ((with_reducible first | refine condK.split (fun hb => ?_) (fun hb => ?_) | refine gK.split_t (fun hb => ?_) (fun hb => ?_) | refine gK.split_f (fun hb => ?_) (fun hb => ?_)) <;> try simp only [decide_not, ilt_t, ilt_f, ile_t, ile_f, nlt_t, nlt_f, nle_t, nle_f, Bool.not_eq_true', Bool.not_eq_false', Int.ofNat_lt, Int.ofNat_le] at hb)
 | simp only [go_sem, ↓reduceIte, reduceIte, Nat.reduceEqDiff, String.reduceEq, Nat.reduceLT, Nat.reduceLeDiff, Nat.reduceAdd, Nat.reduceMul, Nat.reduceSub, Nat.reduceBEq, reduceCtorEq, *, -w1, -w2, -hcc]
 | with_reducible refine fun (bn : Bool) hbn => ?_))
  all_goals trace_state
end Go.Proofs.YtndnkbekhmndhaaGreatDoor.Lg

namespace Go.Proofs.YtndnkbekhmndhaaGreatDoor.Lg
set_option maxRecDepth 100000
set_option linter.unusedVariables false
set_option linter.unusedSimpArgs false
open Go
theorem kcmp_rng (a b : Key) : -1 ≤ kcmp a b ∧ kcmp a b ≤ 1 := by
  have := cb_rng a.name b.name
  rw [kcmp_def]; repeat' split
  all_goals omega
theorem side_split : ∀ {l : List Res} {k : Key}, Up (l.map keyOf) → ¬ k ∈ l.map keyOf → sideR l k (-1) ++ sideR l k 1 = l
  | [], _, _, _ => rfl
  | x :: l, k, hup, hk => by
    obtain ⟨h1, h2⟩ := List.pairwise_cons.1 (show (keyOf x :: l.map keyOf).Pairwise _ from hup)
    rw [List.map_cons, List.mem_cons, not_or] at hk
    have ih := side_split h2 hk.2
    have hr := kcmp_rng (keyOf x) k
    have hne : ¬ kcmp (keyOf x) k = 0 := fun h => hk.1 (kcmp_zero _ _ h).symm
    unfold sideR at *
    by_cases hx : kcmp (keyOf x) k = -1
    · rw [List.filter_cons_of_pos (by simpa using hx), List.filter_cons_of_neg (by simp; omega), List.cons_append, ih]
    · have hx1 : kcmp (keyOf x) k = 1 := by omega
      have hall : ∀ y ∈ l, kcmp (keyOf y) k = 1 := fun y hy => by
        have a1 := h1 (keyOf y) (List.mem_map_of_mem hy)
        have a2 : kcmp k (keyOf x) < 0 := by have := kcmp_swap (keyOf x) k; omega
        have a3 := kcmp_trans _ _ _ a2 a1
        have a4 := kcmp_swap k (keyOf y)
        have a5 := kcmp_rng (keyOf y) k
        omega
      have e1 : l.filter (fun r => decide (kcmp (keyOf r) k = -1)) = [] := by
        rw [List.filter_eq_nil_iff]
        intro y hy
        have := hall y hy
        simp; omega
      have e2 : l.filter (fun r => decide (kcmp (keyOf r) k = 1)) = l := List.filter_eq_self.2 fun y hy => by simpa using hall y hy
      rw [List.filter_cons_of_neg (by simp; omega), List.filter_cons_of_pos (by simpa using hx1), e1, e2, List.nil_append]
theorem with_find {l : List Res} {r : Res} (hup : Up (l.map keyOf)) (hk : ¬ keyOf r ∈ l.map keyOf) (p : Res → Bool) (hp : p r = false) : (withR l r).find? p = l.find? p := by
  have hs := side_split hup hk
  unfold withR
  generalize sideR l (keyOf r) (-1) = A1 at *
  generalize sideR l (keyOf r) 1 = A2 at *
  subst hs
  simp [List.find?_append, hp]
theorem with_ans {l : List Res} (hc : Conf l) (hv : served l = 0) {r : Res} (hr : ¬ r.kind = 0) (hk : ¬ keyOf r ∈ l.map keyOf) (hn : ¬ 0 < (referrers l (keyOf r)).length) (a : Ask) : ansE (withR l r) a = ansE l a := by
  refine (ans_same hc hv _ a ?_ fun q hq k hkq => ?_).1
  · exact with_find hc.up hk _ (by simp [hr])
  · refine with_find hc.up hk _ ?_
    rw [decide_eq_false_iff_not]
    intro e
    exact hn ((ref_pos l _).2 ⟨q, (reachR_sub l).subset hq, by rw [e]; exact hkq⟩)
end Go.Proofs.YtndnkbekhmndhaaGreatDoor.Lg

namespace Go.Proofs.YtndnkbekhmndhaaGreatDoor.Lg
set_option maxRecDepth 100000
set_option linter.unusedVariables false
set_option linter.unusedSimpArgs false
open Go
theorem withR_len8 (l : List Res) (r : Res) : (withR l r).length ≤ 2 * l.length + 1 := by
  have h1 : (sideR l (keyOf r) (-1)).length ≤ l.length := List.length_filter_le _ _
  have h2 : (sideR l (keyOf r) 1).length ≤ l.length := List.length_filter_le _ _
  simp only [withR, List.length_append, List.length_singleton]
  omega
theorem withR_mem8 {l : List Res} {r x : Res} (h : x ∈ withR l r) : x = r ∨ x ∈ l := by
  simp only [withR, sideR, List.mem_append, List.mem_filter, List.mem_singleton] at h
  rcases h with (h | h) | h
  · exact .inr h.1
  · exact .inl h
  · exact .inr h.1
set_option maxRecDepth 30000 in
set_option maxHeartbeats 8000000 in
theorem evalOrphans_c (xs : List Res) (r_kind : Int) (r_name : List UInt8) (r_ver : Int) (r_port : Int) (r_to : List UInt8) (r_rules : List Rule) (r_hosts : List Int) (a_port : Int) (a_host : List UInt8) (a_path : List UInt8) (a_first : Int) (a_other : Int) (hl : Small xs.length) (hs : ∀ r ∈ xs, SmRes r) (hr : SmRes (⟨r_kind, r_name, r_ver, r_port, r_to, r_rules, r_hosts⟩ : Res)) (hh : Small a_host.length) : CallR Tryz.prog 7 [.slice false (avs xs), .agg [.int .i64 r_kind, .str r_name, .int .i64 r_ver, .int .i64 r_port, .str r_to, .slice false (avs r_rules), .slice false (avs r_hosts)], .agg [.int .i64 a_port, .str a_host, .str a_path, .int .i64 a_first, .int .i64 a_other]] (.val (.bool true)) := by
  have w0 : CallR Tryz.prog 10 [.slice false [.agg [.int .i64 r_kind, .str r_name, .int .i64 r_ver, .int .i64 r_port, .str r_to, .slice false (avs r_rules), .slice false (avs r_hosts)]]] (.val (.bool (fewAll [(⟨r_kind, r_name, r_ver, r_port, r_to, r_rules, r_hosts⟩ : Res)]))) := few4_c [(⟨r_kind, r_name, r_ver, r_port, r_to, r_rules, r_hosts⟩ : Res)] (by simp [Small]) (by intro x hx; rw [List.mem_singleton] at hx; subst hx; exact hr)
  by_cases hfa : fewAll xs = true
  rotate_left
  · have hfa : fewAll xs = false := by simpa using hfa
    clear w0 hr
    refine CallR.go3 (T := T) Tryz.call7 Tryz.func7 rfl Tryz.ntmps7 (congrArg Array.toList Tryz.results7) (by decide) fun ts hn h0 h1 h2 => ?_
    (repeat' (first
 | (with_reducible first | refine callX.by awake8_c ?_ | refine callX.by (few4_c _ ?_ ?_) ?_ | refine callX.by (goodN_c _ ?_ ?_ ?_) ?_ | refine callX.by (goodS_c _ ?_ ?_ ?_ ?_) ?_ | refine callX.by (goodE_c _ ?_ ?_ ?_) ?_ | refine callX.by sm8gc ?_ | refine callX.by (tget_c _ _ _ ?_) ?_ | refine callX.by (with_c _ _ ?_ ?_) ?_ | refine callX.by (referrers_c _ _ _ ?_ ?_) ?_ | refine callX.by (ansF_c _ _ _ _ _ _) ?_ | refine callX.by (ansE_c _ _ _ _ _ _ ?_ ?_ ?_) ?_ | refine callX.by sm8ac ?_ | refine callX.by sm8nc ?_ | assumption | (refine NxK.out hK _ ?_; clear hK K) | refine NxK.out (by assumption) _ ?_ | refine Nx.out (by assumption) ?_ | refine SpecC.seqW fun K hK => ?_ | refine SpecC.regW T fun K hK => ?_ | refine SpecC.drawW (id := 9) T mixed [([73], []), ([74], []), ([75], [76, 78, 79]), ([76], [75, 78, 79]), ([77], [78, 79]), ([78], [75, 76, 77, 79]), ([79], [75, 76, 77, 78])] (by kernel_rfl) fun K hK => ?_ | refine SpecC.condW fun A B hA hB => ?_ | refine SpecC.block ?_ | refine SpecC.skip ?_ | refine SpecC.label ?_ | refine SpecC.exit ?_ | refine SpecC.goto ?_ | refine SpecC.ret ?_)
 | ((with_reducible first | refine condK.split (fun hb => ?_) (fun hb => ?_) | refine gK.split_t (fun hb => ?_) (fun hb => ?_) | refine gK.split_f (fun hb => ?_) (fun hb => ?_)) <;> try simp only [decide_not, ilt_t, ilt_f, ile_t, ile_f, nlt_t, nlt_f, nle_t, nle_f, Bool.not_eq_true', Bool.not_eq_false', Int.ofNat_lt, Int.ofNat_le] at hb)
 | simp only [go_sem, ↓reduceIte, reduceIte, Nat.reduceEqDiff, String.reduceEq, Nat.reduceLT, Nat.reduceLeDiff, Nat.reduceAdd, Nat.reduceMul, Nat.reduceSub, Nat.reduceBEq, reduceCtorEq, *, -hs]
 | with_reducible refine fun (bn : Bool) hbn => ?_))
  generalize fewAll [(⟨r_kind, r_name, r_ver, r_port, r_to, r_rules, r_hosts⟩ : Res)] = fr at w0
  cases fr
  · refine CallR.go3 (T := T) Tryz.call7 Tryz.func7 rfl Tryz.ntmps7 (congrArg Array.toList Tryz.results7) (by decide) fun ts hn h0 h1 h2 => ?_
    (repeat' (first
 | (with_reducible first | refine callX.by (w0) ?_ | refine callX.by awake8_c ?_ | refine callX.by (few4_c _ ?_ ?_) ?_ | refine callX.by (goodN_c _ ?_ ?_ ?_) ?_ | refine callX.by (goodS_c _ ?_ ?_ ?_ ?_) ?_ | refine callX.by (goodE_c _ ?_ ?_ ?_) ?_ | refine callX.by sm8gc ?_ | refine callX.by (tget_c _ _ _ ?_) ?_ | refine callX.by (with_c _ _ ?_ ?_) ?_ | refine callX.by (referrers_c _ _ _ ?_ ?_) ?_ | refine callX.by (ansF_c _ _ _ _ _ _) ?_ | refine callX.by (ansE_c _ _ _ _ _ _ ?_ ?_ ?_) ?_ | refine callX.by sm8ac ?_ | refine callX.by sm8nc ?_ | assumption | (refine NxK.out hK _ ?_; clear hK K) | refine NxK.out (by assumption) _ ?_ | refine Nx.out (by assumption) ?_ | refine SpecC.seqW fun K hK => ?_ | refine SpecC.regW T fun K hK => ?_ | refine SpecC.drawW (id := 9) T mixed [([73], []), ([74], []), ([75], [76, 78, 79]), ([76], [75, 78, 79]), ([77], [78, 79]), ([78], [75, 76, 77, 79]), ([79], [75, 76, 77, 78])] (by kernel_rfl) fun K hK => ?_ | refine SpecC.condW fun A B hA hB => ?_ | refine SpecC.block ?_ | refine SpecC.skip ?_ | refine SpecC.label ?_ | refine SpecC.exit ?_ | refine SpecC.goto ?_ | refine SpecC.ret ?_)
 | ((with_reducible first | refine condK.split (fun hb => ?_) (fun hb => ?_) | refine gK.split_t (fun hb => ?_) (fun hb => ?_) | refine gK.split_f (fun hb => ?_) (fun hb => ?_)) <;> try simp only [decide_not, ilt_t, ilt_f, ile_t, ile_f, nlt_t, nlt_f, nle_t, nle_f, Bool.not_eq_true', Bool.not_eq_false', Int.ofNat_lt, Int.ofNat_le] at hb)
 | simp only [go_sem, ↓reduceIte, reduceIte, Nat.reduceEqDiff, String.reduceEq, Nat.reduceLT, Nat.reduceLeDiff, Nat.reduceAdd, Nat.reduceMul, Nat.reduceSub, Nat.reduceBEq, reduceCtorEq, *, -hs, -w0, -hr]
 | with_reducible refine fun (bn : Bool) hbn => ?_))
  have hl2 := few_len hfa
  have w1 := goodE_c xs hl2 hs fun h => (conf_of h).nodup
  by_cases hg : goodE xs = true
  rotate_left
  · have hg : goodE xs = false := by simpa using hg
    rw [hg] at w1
    refine CallR.go3 (T := T) Tryz.call7 Tryz.func7 rfl Tryz.ntmps7 (congrArg Array.toList Tryz.results7) (by decide) fun ts hn h0 h1 h2 => ?_
    (repeat' (first
 | (with_reducible first | refine callX.by (w0) ?_ | refine callX.by (w1) ?_ | refine callX.by awake8_c ?_ | refine callX.by (few4_c _ ?_ ?_) ?_ | refine callX.by (goodN_c _ ?_ ?_ ?_) ?_ | refine callX.by (goodS_c _ ?_ ?_ ?_ ?_) ?_ | refine callX.by (goodE_c _ ?_ ?_ ?_) ?_ | refine callX.by sm8gc ?_ | refine callX.by (tget_c _ _ _ ?_) ?_ | refine callX.by (with_c _ _ ?_ ?_) ?_ | refine callX.by (referrers_c _ _ _ ?_ ?_) ?_ | refine callX.by (ansF_c _ _ _ _ _ _) ?_ | refine callX.by (ansE_c _ _ _ _ _ _ ?_ ?_ ?_) ?_ | refine callX.by sm8ac ?_ | refine callX.by sm8nc ?_ | assumption | (refine NxK.out hK _ ?_; clear hK K) | refine NxK.out (by assumption) _ ?_ | refine Nx.out (by assumption) ?_ | refine SpecC.seqW fun K hK => ?_ | refine SpecC.regW T fun K hK => ?_ | refine SpecC.drawW (id := 9) T mixed [([73], []), ([74], []), ([75], [76, 78, 79]), ([76], [75, 78, 79]), ([77], [78, 79]), ([78], [75, 76, 77, 79]), ([79], [75, 76, 77, 78])] (by kernel_rfl) fun K hK => ?_ | refine SpecC.condW fun A B hA hB => ?_ | refine SpecC.block ?_ | refine SpecC.skip ?_ | refine SpecC.label ?_ | refine SpecC.exit ?_ | refine SpecC.goto ?_ | refine SpecC.ret ?_)
 | ((with_reducible first | refine condK.split (fun hb => ?_) (fun hb => ?_) | refine gK.split_t (fun hb => ?_) (fun hb => ?_) | refine gK.split_f (fun hb => ?_) (fun hb => ?_)) <;> try simp only [decide_not, ilt_t, ilt_f, ile_t, ile_f, nlt_t, nlt_f, nle_t, nle_f, Bool.not_eq_true', Bool.not_eq_false', Int.ofNat_lt, Int.ofNat_le] at hb)
 | simp only [go_sem, ↓reduceIte, reduceIte, Nat.reduceEqDiff, String.reduceEq, Nat.reduceLT, Nat.reduceLeDiff, Nat.reduceAdd, Nat.reduceMul, Nat.reduceSub, Nat.reduceBEq, reduceCtorEq, *, -hs, -w0, -w1, -hr]
 | with_reducible refine fun (bn : Bool) hbn => ?_))
  rw [hg] at w1
  by_cases hk : r_kind = 0
  · subst hk
    refine CallR.go3 (T := T) Tryz.call7 Tryz.func7 rfl Tryz.ntmps7 (congrArg Array.toList Tryz.results7) (by decide) fun ts hn h0 h1 h2 => ?_
    (repeat' (first
 | (with_reducible first | refine callX.by (w0) ?_ | refine callX.by (w1) ?_ | refine callX.by awake8_c ?_ | refine callX.by (few4_c _ ?_ ?_) ?_ | refine callX.by (goodN_c _ ?_ ?_ ?_) ?_ | refine callX.by (goodS_c _ ?_ ?_ ?_ ?_) ?_ | refine callX.by (goodE_c _ ?_ ?_ ?_) ?_ | refine callX.by sm8gc ?_ | refine callX.by (tget_c _ _ _ ?_) ?_ | refine callX.by (with_c _ _ ?_ ?_) ?_ | refine callX.by (referrers_c _ _ _ ?_ ?_) ?_ | refine callX.by (ansF_c _ _ _ _ _ _) ?_ | refine callX.by (ansE_c _ _ _ _ _ _ ?_ ?_ ?_) ?_ | refine callX.by sm8ac ?_ | refine callX.by sm8nc ?_ | assumption | (refine NxK.out hK _ ?_; clear hK K) | refine NxK.out (by assumption) _ ?_ | refine Nx.out (by assumption) ?_ | refine SpecC.seqW fun K hK => ?_ | refine SpecC.regW T fun K hK => ?_ | refine SpecC.drawW (id := 9) T mixed [([73], []), ([74], []), ([75], [76, 78, 79]), ([76], [75, 78, 79]), ([77], [78, 79]), ([78], [75, 76, 77, 79]), ([79], [75, 76, 77, 78])] (by kernel_rfl) fun K hK => ?_ | refine SpecC.condW fun A B hA hB => ?_ | refine SpecC.block ?_ | refine SpecC.skip ?_ | refine SpecC.label ?_ | refine SpecC.exit ?_ | refine SpecC.goto ?_ | refine SpecC.ret ?_)
 | ((with_reducible first | refine condK.split (fun hb => ?_) (fun hb => ?_) | refine gK.split_t (fun hb => ?_) (fun hb => ?_) | refine gK.split_f (fun hb => ?_) (fun hb => ?_)) <;> try simp only [decide_not, ilt_t, ilt_f, ile_t, ile_f, nlt_t, nlt_f, nle_t, nle_f, Bool.not_eq_true', Bool.not_eq_false', Int.ofNat_lt, Int.ofNat_le] at hb)
 | simp only [go_sem, ↓reduceIte, reduceIte, Nat.reduceEqDiff, String.reduceEq, Nat.reduceLT, Nat.reduceLeDiff, Nat.reduceAdd, Nat.reduceMul, Nat.reduceSub, Nat.reduceBEq, reduceCtorEq, *, -hs, -w0, -w1, -hr]
 | with_reducible refine fun (bn : Bool) hbn => ?_))
  simp only [goodE, Bool.and_eq_true, decide_eq_true_eq] at hg
  have hc := conf_of hg.1
  have w2 := tget_c xs r_kind r_name hl
  have w3 := referrers_c xs r_kind r_name hl2 hs
  have hml := withR_len8 xs (⟨r_kind, r_name, r_ver, r_port, r_to, r_rules, r_hosts⟩ : Res)
  have hlen80 : xs.length ≤ 80 := by
    simp only [fewAll, Bool.and_eq_true, decide_eq_true_eq] at hfa
    omega
  have hms : ∀ x ∈ withR xs (⟨r_kind, r_name, r_ver, r_port, r_to, r_rules, r_hosts⟩ : Res), SmRes x := fun x hx => (withR_mem8 hx).elim (fun e => e ▸ hr) (hs x)
  have hmS : Small (withR xs (⟨r_kind, r_name, r_ver, r_port, r_to, r_rules, r_hosts⟩ : Res)).length := by unfold Small; omega
  have w4 := (with_c xs (⟨r_kind, r_name, r_ver, r_port, r_to, r_rules, r_hosts⟩ : Res) hl hmS).frz
  have w5 := goodE_c (withR xs (⟨r_kind, r_name, r_ver, r_port, r_to, r_rules, r_hosts⟩ : Res)) (by omega) hms fun h => (conf_of h).nodup
  have w6 := ansE_c xs a_port a_host a_path a_first a_other hl hs hh
  have w7 := ansE_c (withR xs (⟨r_kind, r_name, r_ver, r_port, r_to, r_rules, r_hosts⟩ : Res)) a_port a_host a_path a_first a_other hmS hms hh
  have key : (tget xs ⟨r_kind, r_name⟩).isSome = false → ¬ 0 < (referrers xs ⟨r_kind, r_name⟩).length → ansE (withR xs (⟨r_kind, r_name, r_ver, r_port, r_to, r_rules, r_hosts⟩ : Res)) ⟨a_port, a_host, a_path, a_first, a_other⟩ = ansE xs ⟨a_port, a_host, a_path, a_first, a_other⟩ := fun h1 h2 => by
    refine with_ans (r := (⟨r_kind, r_name, r_ver, r_port, r_to, r_rules, r_hosts⟩ : Res)) hc hg.2 hk ?_ h2 _
    intro hm
    obtain ⟨x, hx, he⟩ := List.mem_map.1 hm
    have : (tget xs ⟨r_kind, r_name⟩).isSome = true := by
      unfold tget
      rw [List.find?_isSome]
      exact ⟨x, hx, by rw [he]; simp [keyOf]⟩
    rw [h1] at this
    cases this
  generalize (tget xs ⟨r_kind, r_name⟩).getD zRes = z at *
  rw [av_Res] at w2
  generalize (tget xs ⟨r_kind, r_name⟩).isSome = b at *
  generalize referrers xs ⟨r_kind, r_name⟩ = F at *
  generalize withR xs (⟨r_kind, r_name, r_ver, r_port, r_to, r_rules, r_hosts⟩ : Res) = M at *
  generalize ansE M ⟨a_port, a_host, a_path, a_first, a_other⟩ = x at *
  generalize ansE xs ⟨a_port, a_host, a_path, a_first, a_other⟩ = y at *
  generalize goodE M = gm at *
  have hk0 : ¬ (r_kind = 0) := hk
  clear hg hc hml hms hmS
  cases b
  rotate_left
  · refine CallR.go3 (T := T) Tryz.call7 Tryz.func7 rfl Tryz.ntmps7 (congrArg Array.toList Tryz.results7) (by decide) fun ts hn h0 h1 h2 => ?_
    (repeat' (first
 | (with_reducible first | refine callX.by (w0) ?_ | refine callX.by (w1) ?_ | refine callX.by (w2) ?_ | refine callX.by (w4) ?_ | refine callX.by awake8_c ?_ | refine callX.by (few4_c _ ?_ ?_) ?_ | refine callX.by (goodN_c _ ?_ ?_ ?_) ?_ | refine callX.by (goodS_c _ ?_ ?_ ?_ ?_) ?_ | refine callX.by (goodE_c _ ?_ ?_ ?_) ?_ | refine callX.by sm8gc ?_ | refine callX.by (tget_c _ _ _ ?_) ?_ | refine callX.by (with_c _ _ ?_ ?_) ?_ | refine callX.by (referrers_c _ _ _ ?_ ?_) ?_ | refine callX.by (ansF_c _ _ _ _ _ _) ?_ | refine callX.by (ansE_c _ _ _ _ _ _ ?_ ?_ ?_) ?_ | refine callX.by sm8ac ?_ | refine callX.by sm8nc ?_ | assumption | (refine NxK.out hK _ ?_; clear hK K) | refine NxK.out (by assumption) _ ?_ | refine Nx.out (by assumption) ?_ | refine SpecC.seqW fun K hK => ?_ | refine SpecC.regW T fun K hK => ?_ | refine SpecC.drawW (id := 9) T mixed [([73], []), ([74], []), ([75], [76, 78, 79]), ([76], [75, 78, 79]), ([77], [78, 79]), ([78], [75, 76, 77, 79]), ([79], [75, 76, 77, 78])] (by kernel_rfl) fun K hK => ?_ | refine SpecC.condW fun A B hA hB => ?_ | refine SpecC.block ?_ | refine SpecC.skip ?_ | refine SpecC.label ?_ | refine SpecC.exit ?_ | refine SpecC.goto ?_ | refine SpecC.ret ?_)
 | ((with_reducible first | refine condK.split (fun hb => ?_) (fun hb => ?_) | refine gK.split_t (fun hb => ?_) (fun hb => ?_) | refine gK.split_f (fun hb => ?_) (fun hb => ?_)) <;> try simp only [decide_not, ilt_t, ilt_f, ile_t, ile_f, nlt_t, nlt_f, nle_t, nle_f, Bool.not_eq_true', Bool.not_eq_false', Int.ofNat_lt, Int.ofNat_le] at hb)
 | simp only [go_sem, ↓reduceIte, reduceIte, Nat.reduceEqDiff, String.reduceEq, Nat.reduceLT, Nat.reduceLeDiff, Nat.reduceAdd, Nat.reduceMul, Nat.reduceSub, Nat.reduceBEq, reduceCtorEq, *, -hs, -hr, -w0, -w1, -w2, -w3, -w4, -w5, -w6, -w7, -key]
 | with_reducible refine fun (bn : Bool) hbn => ?_))
  by_cases hF : 0 < F.length
  · have hFi : (0 : Int) < (F.length : Int) := by omega
    refine CallR.go3 (T := T) Tryz.call7 Tryz.func7 rfl Tryz.ntmps7 (congrArg Array.toList Tryz.results7) (by decide) fun ts hn h0 h1 h2 => ?_
    (repeat' (first
 | (with_reducible first | refine callX.by (w0) ?_ | refine callX.by (w1) ?_ | refine callX.by (w2) ?_ | refine callX.by (w3) ?_ | refine callX.by (w4) ?_ | refine callX.by awake8_c ?_ | refine callX.by (few4_c _ ?_ ?_) ?_ | refine callX.by (goodN_c _ ?_ ?_ ?_) ?_ | refine callX.by (goodS_c _ ?_ ?_ ?_ ?_) ?_ | refine callX.by (goodE_c _ ?_ ?_ ?_) ?_ | refine callX.by sm8gc ?_ | refine callX.by (tget_c _ _ _ ?_) ?_ | refine callX.by (with_c _ _ ?_ ?_) ?_ | refine callX.by (referrers_c _ _ _ ?_ ?_) ?_ | refine callX.by (ansF_c _ _ _ _ _ _) ?_ | refine callX.by (ansE_c _ _ _ _ _ _ ?_ ?_ ?_) ?_ | refine callX.by sm8ac ?_ | refine callX.by sm8nc ?_ | assumption | (refine NxK.out hK _ ?_; clear hK K) | refine NxK.out (by assumption) _ ?_ | refine Nx.out (by assumption) ?_ | refine SpecC.seqW fun K hK => ?_ | refine SpecC.regW T fun K hK => ?_ | refine SpecC.drawW (id := 9) T mixed [([73], []), ([74], []), ([75], [76, 78, 79]), ([76], [75, 78, 79]), ([77], [78, 79]), ([78], [75, 76, 77, 79]), ([79], [75, 76, 77, 78])] (by kernel_rfl) fun K hK => ?_ | refine SpecC.condW fun A B hA hB => ?_ | refine SpecC.block ?_ | refine SpecC.skip ?_ | refine SpecC.label ?_ | refine SpecC.exit ?_ | refine SpecC.goto ?_ | refine SpecC.ret ?_)
 | ((with_reducible first | refine condK.split (fun hb => ?_) (fun hb => ?_) | refine gK.split_t (fun hb => ?_) (fun hb => ?_) | refine gK.split_f (fun hb => ?_) (fun hb => ?_)) <;> try simp only [decide_not, ilt_t, ilt_f, ile_t, ile_f, nlt_t, nlt_f, nle_t, nle_f, Bool.not_eq_true', Bool.not_eq_false', Int.ofNat_lt, Int.ofNat_le] at hb)
 | simp only [go_sem, ↓reduceIte, reduceIte, Nat.reduceEqDiff, String.reduceEq, Nat.reduceLT, Nat.reduceLeDiff, Nat.reduceAdd, Nat.reduceMul, Nat.reduceSub, Nat.reduceBEq, reduceCtorEq, *, -hs, -hr, -w0, -w1, -w2, -w3, -w4, -w5, -w6, -w7, -key]
 | with_reducible refine fun (bn : Bool) hbn => ?_))
  have hFi : ¬ (0 : Int) < (F.length : Int) := by omega
  have hxy := key rfl hF
  subst hxy
  clear key
  cases gm
  · refine CallR.go3 (T := T) Tryz.call7 Tryz.func7 rfl Tryz.ntmps7 (congrArg Array.toList Tryz.results7) (by decide) fun ts hn h0 h1 h2 => ?_
    (repeat' (first
 | (with_reducible first | refine callX.by (w0) ?_ | refine callX.by (w1) ?_ | refine callX.by (w2) ?_ | refine callX.by (w3) ?_ | refine callX.by (w4) ?_ | refine callX.by (w5) ?_ | refine callX.by awake8_c ?_ | refine callX.by (few4_c _ ?_ ?_) ?_ | refine callX.by (goodN_c _ ?_ ?_ ?_) ?_ | refine callX.by (goodS_c _ ?_ ?_ ?_ ?_) ?_ | refine callX.by (goodE_c _ ?_ ?_ ?_) ?_ | refine callX.by sm8gc ?_ | refine callX.by (tget_c _ _ _ ?_) ?_ | refine callX.by (with_c _ _ ?_ ?_) ?_ | refine callX.by (referrers_c _ _ _ ?_ ?_) ?_ | refine callX.by (ansF_c _ _ _ _ _ _) ?_ | refine callX.by (ansE_c _ _ _ _ _ _ ?_ ?_ ?_) ?_ | refine callX.by sm8ac ?_ | refine callX.by sm8nc ?_ | assumption | (refine NxK.out hK _ ?_; clear hK K) | refine NxK.out (by assumption) _ ?_ | refine Nx.out (by assumption) ?_ | refine SpecC.seqW fun K hK => ?_ | refine SpecC.regW T fun K hK => ?_ | refine SpecC.drawW (id := 9) T mixed [([73], []), ([74], []), ([75], [76, 78, 79]), ([76], [75, 78, 79]), ([77], [78, 79]), ([78], [75, 76, 77, 79]), ([79], [75, 76, 77, 78])] (by kernel_rfl) fun K hK => ?_ | refine SpecC.condW fun A B hA hB => ?_ | refine SpecC.block ?_ | refine SpecC.skip ?_ | refine SpecC.label ?_ | refine SpecC.exit ?_ | refine SpecC.goto ?_ | refine SpecC.ret ?_)
 | ((with_reducible first | refine condK.split (fun hb => ?_) (fun hb => ?_) | refine gK.split_t (fun hb => ?_) (fun hb => ?_) | refine gK.split_f (fun hb => ?_) (fun hb => ?_)) <;> try simp only [decide_not, ilt_t, ilt_f, ile_t, ile_f, nlt_t, nlt_f, nle_t, nle_f, Bool.not_eq_true', Bool.not_eq_false', Int.ofNat_lt, Int.ofNat_le] at hb)
 | simp only [go_sem, ↓reduceIte, reduceIte, Nat.reduceEqDiff, String.reduceEq, Nat.reduceLT, Nat.reduceLeDiff, Nat.reduceAdd, Nat.reduceMul, Nat.reduceSub, Nat.reduceBEq, reduceCtorEq, *, -hs, -hr, -w0, -w1, -w2, -w3, -w4, -w5, -w6, -w7]
 | with_reducible refine fun (bn : Bool) hbn => ?_))
  · refine CallR.go3 (T := T) Tryz.call7 Tryz.func7 rfl Tryz.ntmps7 (congrArg Array.toList Tryz.results7) (by decide) fun ts hn h0 h1 h2 => ?_
    (repeat' (first
 | (with_reducible first | refine callX.by (w0) ?_ | refine callX.by (w1) ?_ | refine callX.by (w2) ?_ | refine callX.by (w3) ?_ | refine callX.by (w4) ?_ | refine callX.by (w5) ?_ | refine callX.by (w6) ?_ | refine callX.by (w7) ?_ | refine callX.by awake8_c ?_ | refine callX.by (few4_c _ ?_ ?_) ?_ | refine callX.by (goodN_c _ ?_ ?_ ?_) ?_ | refine callX.by (goodS_c _ ?_ ?_ ?_ ?_) ?_ | refine callX.by (goodE_c _ ?_ ?_ ?_) ?_ | refine callX.by sm8gc ?_ | refine callX.by (tget_c _ _ _ ?_) ?_ | refine callX.by (with_c _ _ ?_ ?_) ?_ | refine callX.by (referrers_c _ _ _ ?_ ?_) ?_ | refine callX.by (ansF_c _ _ _ _ _ _) ?_ | refine callX.by (ansE_c _ _ _ _ _ _ ?_ ?_ ?_) ?_ | refine callX.by sm8ac ?_ | refine callX.by sm8nc ?_ | assumption | (refine NxK.out hK _ ?_; clear hK K) | refine NxK.out (by assumption) _ ?_ | refine Nx.out (by assumption) ?_ | refine SpecC.seqW fun K hK => ?_ | refine SpecC.regW T fun K hK => ?_ | refine SpecC.drawW (id := 9) T mixed [([73], []), ([74], []), ([75], [76, 78, 79]), ([76], [75, 78, 79]), ([77], [78, 79]), ([78], [75, 76, 77, 79]), ([79], [75, 76, 77, 78])] (by kernel_rfl) fun K hK => ?_ | refine SpecC.condW fun A B hA hB => ?_ | refine SpecC.block ?_ | refine SpecC.skip ?_ | refine SpecC.label ?_ | refine SpecC.exit ?_ | refine SpecC.goto ?_ | refine SpecC.ret ?_)
 | ((with_reducible first | refine condK.split (fun hb => ?_) (fun hb => ?_) | refine gK.split_t (fun hb => ?_) (fun hb => ?_) | refine gK.split_f (fun hb => ?_) (fun hb => ?_)) <;> try simp only [decide_not, ilt_t, ilt_f, ile_t, ile_f, nlt_t, nlt_f, nle_t, nle_f, Bool.not_eq_true', Bool.not_eq_false', Int.ofNat_lt, Int.ofNat_le] at hb)
 | simp only [go_sem, ↓reduceIte, reduceIte, Nat.reduceEqDiff, String.reduceEq, Nat.reduceLT, Nat.reduceLeDiff, Nat.reduceAdd, Nat.reduceMul, Nat.reduceSub, Nat.reduceBEq, reduceCtorEq, *, -hs, -hr, -w0, -w1, -w2, -w3, -w4, -w5, -w6, -w7]
 | with_reducible refine fun (bn : Bool) hbn => ?_))
    all_goals trace_state
end Go.Proofs.YtndnkbekhmndhaaGreatDoor.Lg
