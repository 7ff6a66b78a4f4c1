/- Parts of the proof, one behind the other. -/
import Derived.Test.YtbmdbkgjgjggiaaGreatDoorG17
namespace Go.Proofs.YtbmdbkgjgjggiaaGreatDoor.Lg
set_option maxRecDepth 100000
set_option linter.unusedVariables false
set_option linter.unusedSimpArgs false
open Go
def keysW (l : List Weight) : List Key := (l.filter fun w => decide (0 < w.w)).map fun w => ⟨2, w.cluster⟩
def keysR (l : List Rule) : List Key := l.flatMap fun x => keysW x.split
def baseR (r : Res) : List Key := if r.to' = [] then [] else [⟨IntKind.i64.wrap (r.kind + 1), r.to'⟩]
def refsR (r : Res) : List Key := if saneR r = 0 then kcompact (ksort (baseR r ++ keysR r.rules')) else []
theorem keysR_cons (x : Rule) (l : List Rule) : keysR (x :: l) = keysW x.split ++ keysR l := rfl
theorem keysW_cons (w : Weight) (l : List Weight) : keysW (w :: l) = (if 0 < w.w then [⟨2, w.cluster⟩] else []) ++ keysW l := by
  unfold keysW
  by_cases h : 0 < w.w <;> simp [h]
theorem sane_small {r : Res} (h : saneR r = 0) : smallR r = true := by
  unfold saneR at h
  cases hs : smallR r with
  | true => rfl
  | false =>
    rw [hs] at h
    split at h
    · cases h
    · split at h
      · cases h
      · simp at h
theorem small_bounds {r : Res} (h : smallR r = true) : r.rules'.length ≤ 8 ∧ r.hosts.length ≤ 8 ∧ ∀ x ∈ r.rules', x.split.length ≤ 4 := by
  simp only [smallR, Bool.and_eq_true, decide_eq_true_eq, List.all_eq_true] at h
  refine ⟨h.2.2.1, h.2.2.2.1, fun x hx => ?_⟩
  have := h.2.2.2.2.2 x hx
  simp only [smallRule, Bool.and_eq_true, decide_eq_true_eq] at this
  exact this.1
theorem keysW_len (l : List Weight) : (keysW l).length ≤ l.length := by
  unfold keysW
  rw [List.length_map]
  exact List.length_filter_le _ _
set_option maxRecDepth 30000 in
set_option maxHeartbeats 4000000 in
theorem refsR_c (r_kind : Int) (r_name : List UInt8) (r_ver : Int) (r_port : Int) (r_to : List UInt8) (r_rules : List Rule) (r_hosts : List Int) (hl : Small r_rules.length) (hh : Small r_hosts.length) (hs : ∀ x ∈ r_rules, SmRule x) : CallR Tryz.prog 17 [.agg [.int .i64 r_kind, .str r_name, .int .i64 r_ver, .int .i64 r_port, .str r_to, .slice false (avs r_rules), .slice false (avs r_hosts)]] (.own 2 (avs (refsR (⟨r_kind, r_name, r_ver, r_port, r_to, r_rules, r_hosts⟩ : Res)))) := by
  by_cases hsn : saneR (⟨r_kind, r_name, r_ver, r_port, r_to, r_rules, r_hosts⟩ : Res) = 0
  rotate_left
  · have hr : refsR (⟨r_kind, r_name, r_ver, r_port, r_to, r_rules, r_hosts⟩ : Res) = [] := if_neg hsn
    rw [hr]
    refine CallR.go1 (T := T) Tryz.call17 Tryz.func17 rfl Tryz.ntmps17 (congrArg Array.toList Tryz.results17) (by decide) fun ts hn h0 => ?_
    (repeat' (first
 | with_reducible refine callX.by (saneR_c _ _ _ _ _ _ _ ?_ ?_ ?_) ?_
 | with_reducible refine callX.by awqs ?_
 | (with_reducible refine callX.ar ?_ ?_ (sortKey_c ?_ ?_); (focus (simp only [go_sem, ↓reduceIte, reduceIte, Nat.reduceEqDiff, String.reduceEq, Nat.reduceLT, Nat.reduceLeDiff, Nat.reduceAdd, Nat.reduceMul, Nat.reduceSub, Nat.reduceBEq, reduceCtorEq, *, -hs]; first | done | rfl)))
 | with_reducible refine callX.by (kcmp_c _ _ _ _) ?_
 | (with_reducible refine callX.mv ?_ ?_ ?_ (compactKey_c ?_ ?_); (focus (simp only [go_sem, ↓reduceIte, reduceIte, Nat.reduceEqDiff, String.reduceEq, Nat.reduceLT, Nat.reduceLeDiff, Nat.reduceAdd, Nat.reduceMul, Nat.reduceSub, Nat.reduceBEq, reduceCtorEq, *, -hs]; first | done | rfl)); (focus (simp only [go_sem, ↓reduceIte, reduceIte, Nat.reduceEqDiff, String.reduceEq, Nat.reduceLT, Nat.reduceLeDiff, Nat.reduceAdd, Nat.reduceMul, Nat.reduceSub, Nat.reduceBEq, reduceCtorEq, *, -hs]; first | done | rfl)))
 | with_reducible assumption
 | (with_reducible refine NxK.out hK _ ?_; clear hK K)
 | with_reducible refine NxK.out (by assumption) _ ?_
 | with_reducible refine Nx.out (by assumption) ?_
 | with_reducible refine SpecC.seqW fun K hK => ?_
 | with_reducible refine SpecC.regW T fun K hK => ?_
 | with_reducible refine SpecC.condW fun A B hA hB => ?_
 | with_reducible refine SpecC.block ?_
 | with_reducible refine SpecC.skip ?_
 | with_reducible refine SpecC.label ?_
 | with_reducible refine SpecC.exit ?_
 | with_reducible refine SpecC.goto ?_
 | with_reducible refine SpecC.ret ?_
 | ((with_reducible first | refine condK.split (fun hb => ?_) (fun hb => ?_) | refine gK.split_t (fun hb => ?_) (fun hb => ?_) | refine gK.split_f (fun hb => ?_) (fun hb => ?_)) <;> try simp only [decide_not, ilt_t, ilt_f, ile_t, ile_f, nlt_t, nlt_f, nle_t, nle_f, Bool.not_eq_true', Bool.not_eq_false', Int.ofNat_lt, Int.ofNat_le] at hb)
 | simp only [go_sem, ↓reduceIte, reduceIte, Nat.reduceEqDiff, String.reduceEq, Nat.reduceLT, Nat.reduceLeDiff, Nat.reduceAdd, Nat.reduceMul, Nat.reduceSub, Nat.reduceBEq, reduceCtorEq, *, -hs]
 | with_reducible refine fun (bn : Bool) hbn => ?_))
    all_goals rfl
  obtain ⟨hb1, hb2, hb3⟩ := small_bounds (sane_small hsn)
  simp only at hb1 hb2 hb3
  have hr : refsR (⟨r_kind, r_name, r_ver, r_port, r_to, r_rules, r_hosts⟩ : Res) = kcompact (ksort (baseR (⟨r_kind, r_name, r_ver, r_port, r_to, r_rules, r_hosts⟩ : Res) ++ keysR r_rules)) := if_pos hsn
  rw [hr]
  obtain ⟨bs, hbs⟩ : ∃ bs, baseR (⟨r_kind, r_name, r_ver, r_port, r_to, r_rules, r_hosts⟩ : Res) = bs := ⟨_, rfl⟩
  rw [hbs]
  have hbl : bs.length ≤ 1 := by
    rw [← hbs]; unfold baseR; split <;> simp
  clear hr
  have hr0 : Room 1 24 := room_big (by decide) (by decide)
  have hsk : ∀ x ∈ r_rules, Small x.split.length := fun x hx => (hs x hx).2.2.1
  refine CallR.go1 (T := T) Tryz.call17 Tryz.func17 rfl Tryz.ntmps17 (congrArg Array.toList Tryz.results17) (by decide) fun ts hn h0 => ?_
  (repeat' (first
 | with_reducible refine SpecC.cutAtS 6 [1] (fun ts' => ∃ (g : Nat), ts'.tmp 3 = .os 3 g bs.length ∧ ts'.gen 3 = g ∧ ts'.obj 3 = .arr 2 (avs bs)) ?_ ?_
 | with_reducible refine callX.by (saneR_c _ _ _ _ _ _ _ ?_ ?_ ?_) ?_
 | with_reducible refine callX.by awqs ?_
 | (with_reducible refine callX.ar ?_ ?_ (sortKey_c ?_ ?_); (focus (simp only [go_sem, ↓reduceIte, reduceIte, Nat.reduceEqDiff, String.reduceEq, Nat.reduceLT, Nat.reduceLeDiff, Nat.reduceAdd, Nat.reduceMul, Nat.reduceSub, Nat.reduceBEq, reduceCtorEq, *, -hs, -hsk, -hb3]; first | done | rfl)))
 | with_reducible refine callX.by (kcmp_c _ _ _ _) ?_
 | (with_reducible refine callX.mv ?_ ?_ ?_ (compactKey_c ?_ ?_); (focus (simp only [go_sem, ↓reduceIte, reduceIte, Nat.reduceEqDiff, String.reduceEq, Nat.reduceLT, Nat.reduceLeDiff, Nat.reduceAdd, Nat.reduceMul, Nat.reduceSub, Nat.reduceBEq, reduceCtorEq, *, -hs, -hsk, -hb3]; first | done | rfl)); (focus (simp only [go_sem, ↓reduceIte, reduceIte, Nat.reduceEqDiff, String.reduceEq, Nat.reduceLT, Nat.reduceLeDiff, Nat.reduceAdd, Nat.reduceMul, Nat.reduceSub, Nat.reduceBEq, reduceCtorEq, *, -hs, -hsk, -hb3]; first | done | rfl)))
 | with_reducible assumption
 | (with_reducible refine NxK.out hK _ ?_; clear hK K)
 | with_reducible refine NxK.out (by assumption) _ ?_
 | with_reducible refine Nx.out (by assumption) ?_
 | with_reducible refine SpecC.seqW fun K hK => ?_
 | with_reducible refine SpecC.regW T fun K hK => ?_
 | with_reducible refine SpecC.condW fun A B hA hB => ?_
 | with_reducible refine SpecC.block ?_
 | with_reducible refine SpecC.skip ?_
 | with_reducible refine SpecC.label ?_
 | with_reducible refine SpecC.exit ?_
 | with_reducible refine SpecC.goto ?_
 | with_reducible refine SpecC.ret ?_
 | ((with_reducible first | refine condK.split (fun hb => ?_) (fun hb => ?_) | refine gK.split_t (fun hb => ?_) (fun hb => ?_) | refine gK.split_f (fun hb => ?_) (fun hb => ?_)) <;> try simp only [decide_not, ilt_t, ilt_f, ile_t, ile_f, nlt_t, nlt_f, nle_t, nle_f, Bool.not_eq_true', Bool.not_eq_false', Int.ofNat_lt, Int.ofNat_le] at hb)
 | simp only [go_sem, ↓reduceIte, reduceIte, Nat.reduceEqDiff, String.reduceEq, Nat.reduceLT, Nat.reduceLeDiff, Nat.reduceAdd, Nat.reduceMul, Nat.reduceSub, Nat.reduceBEq, reduceCtorEq, *, -hs, -hsk, -hb3]
 | with_reducible refine fun (bn : Bool) hbn => ?_))
  · have e : bs = [⟨IntKind.i64.wrap (r_kind + 1), r_to⟩] := by rw [← hbs]; unfold baseR; rw [if_neg (of_decide_eq_false hb)]
    subst e
    have ea : avs [(⟨IntKind.i64.wrap (r_kind + 1), r_to⟩ : Key)] = [AV.agg [AV.int IntKind.i64 (IntKind.i64.wrap (r_kind + 1)), AV.str r_to]] := rfl
    (repeat clear hK); (repeat clear hA); (repeat clear hB)
    (refine ⟨_, (Ent.ren 3 22 (by simp only [go_sem, ↓reduceIte, reduceIte, Nat.reduceEqDiff, String.reduceEq, Nat.reduceLT, Nat.reduceLeDiff, Nat.reduceAdd, Nat.reduceMul, Nat.reduceSub, Nat.reduceBEq, reduceCtorEq, *, -hs, -hsk, -hb3]; done) (by simp only [go_sem, ↓reduceIte, reduceIte, Nat.reduceEqDiff, String.reduceEq, Nat.reduceLT, Nat.reduceLeDiff, Nat.reduceAdd, Nat.reduceMul, Nat.reduceSub, Nat.reduceBEq, reduceCtorEq, *, -hs, -hsk, -hb3]; done)), by simp only [go_sem, ↓reduceIte, reduceIte, Nat.reduceEqDiff, String.reduceEq, Nat.reduceLT, Nat.reduceLeDiff, Nat.reduceAdd, Nat.reduceMul, Nat.reduceSub, Nat.reduceBEq, reduceCtorEq, *, -hs, -hsk, -hb3]; done, ⟨ts.gen 3 + 1, ?_⟩⟩; simp only [go_sem, ↓reduceIte, reduceIte, Nat.reduceEqDiff, String.reduceEq, Nat.reduceLT, Nat.reduceLeDiff, Nat.reduceAdd, Nat.reduceMul, Nat.reduceSub, Nat.reduceBEq, reduceCtorEq, *, -hs, -hsk, -hb3]; done)
  · have e : bs = [] := by rw [← hbs]; unfold baseR; rw [if_pos (of_decide_eq_true hb)]
    subst e
    (repeat clear hK); (repeat clear hA); (repeat clear hB)
    (refine ⟨_, (Ent.virt 3 2 (by simp only [go_sem, ↓reduceIte, reduceIte, Nat.reduceEqDiff, String.reduceEq, Nat.reduceLT, Nat.reduceLeDiff, Nat.reduceAdd, Nat.reduceMul, Nat.reduceSub, Nat.reduceBEq, reduceCtorEq, *, -hs, -hsk, -hb3, avs_nil]; done) (by decide)), by simp only [go_sem, ↓reduceIte, reduceIte, Nat.reduceEqDiff, String.reduceEq, Nat.reduceLT, Nat.reduceLeDiff, Nat.reduceAdd, Nat.reduceMul, Nat.reduceSub, Nat.reduceBEq, reduceCtorEq, *, -hs, -hsk, -hb3, avs_nil]; done, ⟨ts.gen 3 + 1, ?_⟩⟩; simp only [go_sem, ↓reduceIte, reduceIte, Nat.reduceEqDiff, String.reduceEq, Nat.reduceLT, Nat.reduceLeDiff, Nat.reduceAdd, Nat.reduceMul, Nat.reduceSub, Nat.reduceBEq, reduceCtorEq, *, -hs, -hsk, -hb3, avs_nil]; done)
  · intro ts2 hk3
    rintro ⟨g2, v1, v2, v3⟩
    simp only [go_sem, ↓reduceIte, reduceIte, Nat.reduceEqDiff, String.reduceEq, Nat.reduceLT, Nat.reduceLeDiff, Nat.reduceAdd, Nat.reduceMul, Nat.reduceSub, Nat.reduceBEq, reduceCtorEq, *] at hk3
    (repeat' (first
 | with_reducible refine callX.by (saneR_c _ _ _ _ _ _ _ ?_ ?_ ?_) ?_
 | with_reducible refine callX.by awqs ?_
 | (with_reducible refine callX.ar ?_ ?_ (sortKey_c ?_ ?_); (focus (simp only [go_sem, ↓reduceIte, reduceIte, Nat.reduceEqDiff, String.reduceEq, Nat.reduceLT, Nat.reduceLeDiff, Nat.reduceAdd, Nat.reduceMul, Nat.reduceSub, Nat.reduceBEq, reduceCtorEq, *, -hs, -hsk, -hb3]; first | done | rfl)))
 | with_reducible refine callX.by (kcmp_c _ _ _ _) ?_
 | (with_reducible refine callX.mv ?_ ?_ ?_ (compactKey_c ?_ ?_); (focus (simp only [go_sem, ↓reduceIte, reduceIte, Nat.reduceEqDiff, String.reduceEq, Nat.reduceLT, Nat.reduceLeDiff, Nat.reduceAdd, Nat.reduceMul, Nat.reduceSub, Nat.reduceBEq, reduceCtorEq, *, -hs, -hsk, -hb3]; first | done | rfl)); (focus (simp only [go_sem, ↓reduceIte, reduceIte, Nat.reduceEqDiff, String.reduceEq, Nat.reduceLT, Nat.reduceLeDiff, Nat.reduceAdd, Nat.reduceMul, Nat.reduceSub, Nat.reduceBEq, reduceCtorEq, *, -hs, -hsk, -hb3]; first | done | rfl)))
 | with_reducible assumption
 | (with_reducible refine NxK.out hK _ ?_; clear hK K)
 | with_reducible refine NxK.out (by assumption) _ ?_
 | with_reducible refine Nx.out (by assumption) ?_
 | with_reducible refine SpecC.seqW fun K hK => ?_
 | with_reducible refine SpecC.regW T fun K hK => ?_
 | with_reducible refine SpecC.condW fun A B hA hB => ?_
 | with_reducible refine SpecC.block ?_
 | with_reducible refine SpecC.skip ?_
 | with_reducible refine SpecC.label ?_
 | with_reducible refine SpecC.exit ?_
 | with_reducible refine SpecC.goto ?_
 | with_reducible refine SpecC.ret ?_
 | ((with_reducible first | refine condK.split (fun hb => ?_) (fun hb => ?_) | refine gK.split_t (fun hb => ?_) (fun hb => ?_) | refine gK.split_f (fun hb => ?_) (fun hb => ?_)) <;> try simp only [decide_not, ilt_t, ilt_f, ile_t, ile_f, nlt_t, nlt_f, nle_t, nle_f, Bool.not_eq_true', Bool.not_eq_false', Int.ofNat_lt, Int.ofNat_le] at hb)
 | simp only [go_sem, ↓reduceIte, reduceIte, Nat.reduceEqDiff, String.reduceEq, Nat.reduceLT, Nat.reduceLeDiff, Nat.reduceAdd, Nat.reduceMul, Nat.reduceSub, Nat.reduceBEq, reduceCtorEq, *, -hs, -hsk, -hb3]
 | with_reducible refine fun (bn : Bool) hbn => ?_))
    refine SpecC.loopF [24, 25] (fun m ts' => ∃ (i : Nat), ∃ (g : Nat), ∃ (ys : List Key), m = r_rules.length - i ∧ i ≤ r_rules.length ∧ ys.length ≤ 1 + 4 * i ∧ bs ++ keysR r_rules = ys ++ keysR (r_rules.drop i) ∧ ts'.tmp 3 = .os 3 g ys.length ∧ ts'.gen 3 = g ∧ ts'.obj 3 = .arr 2 (avs ys) ∧ ts'.tmp 26 = .int .i64 i) r_rules.length ?_ ?_
    · refine ⟨0, g2, bs, rfl, Nat.zero_le _, by omega, rfl, ?_⟩
      simp only [go_sem, ↓reduceIte, reduceIte, Nat.reduceEqDiff, String.reduceEq, Nat.reduceLT, Nat.reduceLeDiff, Nat.reduceAdd, Nat.reduceMul, Nat.reduceSub, Nat.reduceBEq, reduceCtorEq, *, -hs, -hsk, -hb3]
    · rintro m A hM ts' hk ⟨i, g, ys, hm, f1, f2, f3, s1, s2, s3, s4⟩
      simp only [go_sem, ↓reduceIte, reduceIte, Nat.reduceEqDiff, String.reduceEq, Nat.reduceLT, Nat.reduceLeDiff, Nat.reduceAdd, Nat.reduceMul, Nat.reduceSub, Nat.reduceBEq, reduceCtorEq, *] at hk
      by_cases hlt : i < r_rules.length
      · rw [List.drop_eq_getElem_cons hlt, keysR_cons] at f3
        have hx4 := hb3 _ (List.getElem_mem hlt)
        have hxs := hsk _ (List.getElem_mem hlt)
        (repeat' (first
 | with_reducible refine callX.by (saneR_c _ _ _ _ _ _ _ ?_ ?_ ?_) ?_
 | with_reducible refine callX.by awqs ?_
 | (with_reducible refine callX.ar ?_ ?_ (sortKey_c ?_ ?_); (focus (simp only [go_sem, ↓reduceIte, reduceIte, Nat.reduceEqDiff, String.reduceEq, Nat.reduceLT, Nat.reduceLeDiff, Nat.reduceAdd, Nat.reduceMul, Nat.reduceSub, Nat.reduceBEq, reduceCtorEq, *, -hs, -hsk, -hb3, -f3]; first | done | rfl)))
 | with_reducible refine callX.by (kcmp_c _ _ _ _) ?_
 | (with_reducible refine callX.mv ?_ ?_ ?_ (compactKey_c ?_ ?_); (focus (simp only [go_sem, ↓reduceIte, reduceIte, Nat.reduceEqDiff, String.reduceEq, Nat.reduceLT, Nat.reduceLeDiff, Nat.reduceAdd, Nat.reduceMul, Nat.reduceSub, Nat.reduceBEq, reduceCtorEq, *, -hs, -hsk, -hb3, -f3]; first | done | rfl)); (focus (simp only [go_sem, ↓reduceIte, reduceIte, Nat.reduceEqDiff, String.reduceEq, Nat.reduceLT, Nat.reduceLeDiff, Nat.reduceAdd, Nat.reduceMul, Nat.reduceSub, Nat.reduceBEq, reduceCtorEq, *, -hs, -hsk, -hb3, -f3]; first | done | rfl)))
 | with_reducible assumption
 | (with_reducible refine NxK.out hK _ ?_; clear hK K)
 | with_reducible refine NxK.out (by assumption) _ ?_
 | with_reducible refine Nx.out (by assumption) ?_
 | with_reducible refine SpecC.seqW fun K hK => ?_
 | with_reducible refine SpecC.regW T fun K hK => ?_
 | with_reducible refine SpecC.condW fun A B hA hB => ?_
 | with_reducible refine SpecC.block ?_
 | with_reducible refine SpecC.skip ?_
 | with_reducible refine SpecC.label ?_
 | with_reducible refine SpecC.exit ?_
 | with_reducible refine SpecC.goto ?_
 | with_reducible refine SpecC.ret ?_
 | ((with_reducible first | refine condK.split (fun hb => ?_) (fun hb => ?_) | refine gK.split_t (fun hb => ?_) (fun hb => ?_) | refine gK.split_f (fun hb => ?_) (fun hb => ?_)) <;> try simp only [decide_not, ilt_t, ilt_f, ile_t, ile_f, nlt_t, nlt_f, nle_t, nle_f, Bool.not_eq_true', Bool.not_eq_false', Int.ofNat_lt, Int.ofNat_le] at hb)
 | simp only [go_sem, ↓reduceIte, reduceIte, Nat.reduceEqDiff, String.reduceEq, Nat.reduceLT, Nat.reduceLeDiff, Nat.reduceAdd, Nat.reduceMul, Nat.reduceSub, Nat.reduceBEq, reduceCtorEq, *, -hs, -hsk, -hb3, -f3]
 | with_reducible refine fun (bn : Bool) hbn => ?_))
        refine SpecC.loopF [24, 25, 26, 31, 32] (fun m ts' => ∃ (j : Nat), ∃ (g' : Nat), ∃ (zs : List Key), m = r_rules[i].split.length - j ∧ j ≤ r_rules[i].split.length ∧ zs.length ≤ 1 + 4 * i + j ∧ ys ++ keysW r_rules[i].split = zs ++ keysW (r_rules[i].split.drop j) ∧ ts'.tmp 3 = .os 3 g' zs.length ∧ ts'.gen 3 = g' ∧ ts'.obj 3 = .arr 2 (avs zs) ∧ ts'.tmp 33 = .int .i64 j) r_rules[i].split.length ?_ ?_
        · refine ⟨0, g, ys, rfl, Nat.zero_le _, by omega, rfl, ?_⟩
          simp only [go_sem, ↓reduceIte, reduceIte, Nat.reduceEqDiff, String.reduceEq, Nat.reduceLT, Nat.reduceLeDiff, Nat.reduceAdd, Nat.reduceMul, Nat.reduceSub, Nat.reduceBEq, reduceCtorEq, *, -hs, -hsk, -hb3, -f3]
        · revert hM f3
          intro hM0 f30
          rintro m A hM ts' hk ⟨j, g', zs, hm, f1, f2, f3, s1, s2, s3, s4⟩
          simp only [go_sem, ↓reduceIte, reduceIte, Nat.reduceEqDiff, String.reduceEq, Nat.reduceLT, Nat.reduceLeDiff, Nat.reduceAdd, Nat.reduceMul, Nat.reduceSub, Nat.reduceBEq, reduceCtorEq, *] at hk
          by_cases hjt : j < r_rules[i].split.length
          · rw [List.drop_eq_getElem_cons hjt, keysW_cons] at f3
            have hr1 : Room (zs.length + 1) 24 := room_big (by omega) (by decide)
            (repeat' (first
 | with_reducible refine callX.by (saneR_c _ _ _ _ _ _ _ ?_ ?_ ?_) ?_
 | with_reducible refine callX.by awqs ?_
 | (with_reducible refine callX.ar ?_ ?_ (sortKey_c ?_ ?_); (focus (simp only [go_sem, ↓reduceIte, reduceIte, Nat.reduceEqDiff, String.reduceEq, Nat.reduceLT, Nat.reduceLeDiff, Nat.reduceAdd, Nat.reduceMul, Nat.reduceSub, Nat.reduceBEq, reduceCtorEq, *, -hs, -hsk, -hb3, -f3, -f30]; first | done | rfl)))
 | with_reducible refine callX.by (kcmp_c _ _ _ _) ?_
 | (with_reducible refine callX.mv ?_ ?_ ?_ (compactKey_c ?_ ?_); (focus (simp only [go_sem, ↓reduceIte, reduceIte, Nat.reduceEqDiff, String.reduceEq, Nat.reduceLT, Nat.reduceLeDiff, Nat.reduceAdd, Nat.reduceMul, Nat.reduceSub, Nat.reduceBEq, reduceCtorEq, *, -hs, -hsk, -hb3, -f3, -f30]; first | done | rfl)); (focus (simp only [go_sem, ↓reduceIte, reduceIte, Nat.reduceEqDiff, String.reduceEq, Nat.reduceLT, Nat.reduceLeDiff, Nat.reduceAdd, Nat.reduceMul, Nat.reduceSub, Nat.reduceBEq, reduceCtorEq, *, -hs, -hsk, -hb3, -f3, -f30]; first | done | rfl)))
 | with_reducible assumption
 | (with_reducible refine NxK.out hK _ ?_; clear hK K)
 | with_reducible refine NxK.out (by assumption) _ ?_
 | with_reducible refine Nx.out (by assumption) ?_
 | with_reducible refine SpecC.seqW fun K hK => ?_
 | with_reducible refine SpecC.regW T fun K hK => ?_
 | with_reducible refine SpecC.condW fun A B hA hB => ?_
 | with_reducible refine SpecC.block ?_
 | with_reducible refine SpecC.skip ?_
 | with_reducible refine SpecC.label ?_
 | with_reducible refine SpecC.exit ?_
 | with_reducible refine SpecC.goto ?_
 | with_reducible refine SpecC.ret ?_
 | ((with_reducible first | refine condK.split (fun hb => ?_) (fun hb => ?_) | refine gK.split_t (fun hb => ?_) (fun hb => ?_) | refine gK.split_f (fun hb => ?_) (fun hb => ?_)) <;> try simp only [decide_not, ilt_t, ilt_f, ile_t, ile_f, nlt_t, nlt_f, nle_t, nle_f, Bool.not_eq_true', Bool.not_eq_false', Int.ofNat_lt, Int.ofNat_le] at hb)
 | simp only [go_sem, ↓reduceIte, reduceIte, Nat.reduceEqDiff, String.reduceEq, Nat.reduceLT, Nat.reduceLeDiff, Nat.reduceAdd, Nat.reduceMul, Nat.reduceSub, Nat.reduceBEq, reduceCtorEq, *, -hs, -hsk, -hb3, -f3, -f30]
 | with_reducible refine fun (bn : Bool) hbn => ?_))
            all_goals ((repeat clear hK); (repeat clear hA); (repeat clear hB))
            · (refine hM.onE (r_rules[i].split.length - (j + 1)) (Ent.ren 3 45 ?_ ?_) ?_ ?_ ?_; (focus (simp only [go_sem, ↓reduceIte, reduceIte, Nat.reduceEqDiff, String.reduceEq, Nat.reduceLT, Nat.reduceLeDiff, Nat.reduceAdd, Nat.reduceMul, Nat.reduceSub, Nat.reduceBEq, reduceCtorEq, *]; first | done | rfl)); (focus (simp only [go_sem, ↓reduceIte, reduceIte, Nat.reduceEqDiff, String.reduceEq, Nat.reduceLT, Nat.reduceLeDiff, Nat.reduceAdd, Nat.reduceMul, Nat.reduceSub, Nat.reduceBEq, reduceCtorEq, *]; first | done | rfl)); omega; (focus (simp only [go_sem, ↓reduceIte, reduceIte, Nat.reduceEqDiff, String.reduceEq, Nat.reduceLT, Nat.reduceLeDiff, Nat.reduceAdd, Nat.reduceMul, Nat.reduceSub, Nat.reduceBEq, reduceCtorEq, *, w64_nat hjt hxs, List.length_append, -f3, -f30, -hM0]; done)); refine ⟨j + 1, g' + 1, zs ++ [⟨2, r_rules[i].split[j].cluster⟩], rfl, by omega, by simp; omega, by rw [f3, if_pos hb, List.append_assoc], ?_⟩; simp only [go_sem, ↓reduceIte, reduceIte, Nat.reduceEqDiff, String.reduceEq, Nat.reduceLT, Nat.reduceLeDiff, Nat.reduceAdd, Nat.reduceMul, Nat.reduceSub, Nat.reduceBEq, reduceCtorEq, *, w64_nat hjt hxs, List.length_append, -f3, -f30, -hM0]; done)
            · rw [if_neg (by omega), List.nil_append] at f3
              (refine hM.on (r_rules[i].split.length - (j + 1)) (by omega) (by simp only [go_sem, ↓reduceIte, reduceIte, Nat.reduceEqDiff, String.reduceEq, Nat.reduceLT, Nat.reduceLeDiff, Nat.reduceAdd, Nat.reduceMul, Nat.reduceSub, Nat.reduceBEq, reduceCtorEq, *, w64_nat hjt hxs, -f3, -f30, -hM0]) ⟨j + 1, g', zs, rfl, by omega, by omega, f3, ?_⟩; simp only [go_sem, ↓reduceIte, reduceIte, Nat.reduceEqDiff, String.reduceEq, Nat.reduceLT, Nat.reduceLeDiff, Nat.reduceAdd, Nat.reduceMul, Nat.reduceSub, Nat.reduceBEq, reduceCtorEq, *, w64_nat hjt hxs, -f3, -f30, -hM0]; done)
          · rw [List.drop_eq_nil_of_le (by omega)] at f3
            (repeat' (first
 | with_reducible refine callX.by (saneR_c _ _ _ _ _ _ _ ?_ ?_ ?_) ?_
 | with_reducible refine callX.by awqs ?_
 | (with_reducible refine callX.ar ?_ ?_ (sortKey_c ?_ ?_); (focus (simp only [go_sem, ↓reduceIte, reduceIte, Nat.reduceEqDiff, String.reduceEq, Nat.reduceLT, Nat.reduceLeDiff, Nat.reduceAdd, Nat.reduceMul, Nat.reduceSub, Nat.reduceBEq, reduceCtorEq, *, -hs, -hsk, -hb3, -f3, -f30]; first | done | rfl)))
 | with_reducible refine callX.by (kcmp_c _ _ _ _) ?_
 | (with_reducible refine callX.mv ?_ ?_ ?_ (compactKey_c ?_ ?_); (focus (simp only [go_sem, ↓reduceIte, reduceIte, Nat.reduceEqDiff, String.reduceEq, Nat.reduceLT, Nat.reduceLeDiff, Nat.reduceAdd, Nat.reduceMul, Nat.reduceSub, Nat.reduceBEq, reduceCtorEq, *, -hs, -hsk, -hb3, -f3, -f30]; first | done | rfl)); (focus (simp only [go_sem, ↓reduceIte, reduceIte, Nat.reduceEqDiff, String.reduceEq, Nat.reduceLT, Nat.reduceLeDiff, Nat.reduceAdd, Nat.reduceMul, Nat.reduceSub, Nat.reduceBEq, reduceCtorEq, *, -hs, -hsk, -hb3, -f3, -f30]; first | done | rfl)))
 | with_reducible assumption
 | (with_reducible refine NxK.out hK _ ?_; clear hK K)
 | with_reducible refine NxK.out (by assumption) _ ?_
 | with_reducible refine Nx.out (by assumption) ?_
 | with_reducible refine SpecC.seqW fun K hK => ?_
 | with_reducible refine SpecC.regW T fun K hK => ?_
 | with_reducible refine SpecC.condW fun A B hA hB => ?_
 | with_reducible refine SpecC.block ?_
 | with_reducible refine SpecC.skip ?_
 | with_reducible refine SpecC.label ?_
 | with_reducible refine SpecC.exit ?_
 | with_reducible refine SpecC.goto ?_
 | with_reducible refine SpecC.ret ?_
 | ((with_reducible first | refine condK.split (fun hb => ?_) (fun hb => ?_) | refine gK.split_t (fun hb => ?_) (fun hb => ?_) | refine gK.split_f (fun hb => ?_) (fun hb => ?_)) <;> try simp only [decide_not, ilt_t, ilt_f, ile_t, ile_f, nlt_t, nlt_f, nle_t, nle_f, Bool.not_eq_true', Bool.not_eq_false', Int.ofNat_lt, Int.ofNat_le] at hb)
 | simp only [go_sem, ↓reduceIte, reduceIte, Nat.reduceEqDiff, String.reduceEq, Nat.reduceLT, Nat.reduceLeDiff, Nat.reduceAdd, Nat.reduceMul, Nat.reduceSub, Nat.reduceBEq, reduceCtorEq, *, -hs, -hsk, -hb3, -f3, -f30]
 | with_reducible refine fun (bn : Bool) hbn => ?_))
            all_goals ((repeat clear hK); (repeat clear hA); (repeat clear hB))
            all_goals (clear hM; revert hM0; intro hM)
            (refine hM.on (r_rules.length - (i + 1)) (by omega) (by simp only [go_sem, ↓reduceIte, reduceIte, Nat.reduceEqDiff, String.reduceEq, Nat.reduceLT, Nat.reduceLeDiff, Nat.reduceAdd, Nat.reduceMul, Nat.reduceSub, Nat.reduceBEq, reduceCtorEq, *, w64_nat hlt hl, -f3, -f30, -hs, -hsk, -hb3]) ⟨i + 1, g', zs, rfl, by omega, by omega, by rw [f30, ← List.append_assoc, f3]; simp [keysW], ?_⟩; simp only [go_sem, ↓reduceIte, reduceIte, Nat.reduceEqDiff, String.reduceEq, Nat.reduceLT, Nat.reduceLeDiff, Nat.reduceAdd, Nat.reduceMul, Nat.reduceSub, Nat.reduceBEq, reduceCtorEq, *, w64_nat hlt hl, -f3, -f30, -hs, -hsk, -hb3]; done)
      · rw [List.drop_eq_nil_of_le (by omega)] at f3
        have e : ys = bs ++ keysR r_rules := by rw [f3]; simp [keysR]
        subst e
        clear f3
        have hk1 := ksort_length (bs ++ keysR r_rules)
        have htk : (ksort (bs ++ keysR r_rules)).take (bs ++ keysR r_rules).length = ksort (bs ++ keysR r_rules) := List.take_of_length_le (by omega)
        have htk2 : (ksort (bs ++ keysR r_rules)).take (bs.length + (keysR r_rules).length) = ksort (bs ++ keysR r_rules) := List.take_of_length_le (by rw [hk1, List.length_append]; exact Nat.le_refl _)
        have hsm1 : Small (bs ++ keysR r_rules).length := by unfold Small; omega
        have hsm2 : Small (ksort (bs ++ keysR r_rules)).length := by rw [hk1]; exact hsm1
        (repeat' (first
 | with_reducible refine callX.by (saneR_c _ _ _ _ _ _ _ ?_ ?_ ?_) ?_
 | with_reducible refine callX.by awqs ?_
 | (with_reducible refine callX.ar ?_ ?_ (sortKey_c ?_ ?_); (focus (simp only [go_sem, ↓reduceIte, reduceIte, Nat.reduceEqDiff, String.reduceEq, Nat.reduceLT, Nat.reduceLeDiff, Nat.reduceAdd, Nat.reduceMul, Nat.reduceSub, Nat.reduceBEq, reduceCtorEq, *, Nat.le_refl, -hs, -hsk, -hb3]; first | done | rfl)))
 | with_reducible refine callX.by (kcmp_c _ _ _ _) ?_
 | (with_reducible refine callX.mv ?_ ?_ ?_ (compactKey_c ?_ ?_); (focus (simp only [go_sem, ↓reduceIte, reduceIte, Nat.reduceEqDiff, String.reduceEq, Nat.reduceLT, Nat.reduceLeDiff, Nat.reduceAdd, Nat.reduceMul, Nat.reduceSub, Nat.reduceBEq, reduceCtorEq, *, Nat.le_refl, -hs, -hsk, -hb3]; first | done | rfl)); (focus (simp only [go_sem, ↓reduceIte, reduceIte, Nat.reduceEqDiff, String.reduceEq, Nat.reduceLT, Nat.reduceLeDiff, Nat.reduceAdd, Nat.reduceMul, Nat.reduceSub, Nat.reduceBEq, reduceCtorEq, *, Nat.le_refl, -hs, -hsk, -hb3]; first | done | rfl)))
 | with_reducible assumption
 | (with_reducible refine NxK.out hK _ ?_; clear hK K)
 | with_reducible refine NxK.out (by assumption) _ ?_
 | with_reducible refine Nx.out (by assumption) ?_
 | with_reducible refine SpecC.seqW fun K hK => ?_
 | with_reducible refine SpecC.regW T fun K hK => ?_
 | with_reducible refine SpecC.condW fun A B hA hB => ?_
 | with_reducible refine SpecC.block ?_
 | with_reducible refine SpecC.skip ?_
 | with_reducible refine SpecC.label ?_
 | with_reducible refine SpecC.exit ?_
 | with_reducible refine SpecC.goto ?_
 | with_reducible refine SpecC.ret ?_
 | ((with_reducible first | refine condK.split (fun hb => ?_) (fun hb => ?_) | refine gK.split_t (fun hb => ?_) (fun hb => ?_) | refine gK.split_f (fun hb => ?_) (fun hb => ?_)) <;> try simp only [decide_not, ilt_t, ilt_f, ile_t, ile_f, nlt_t, nlt_f, nle_t, nle_f, Bool.not_eq_true', Bool.not_eq_false', Int.ofNat_lt, Int.ofNat_le] at hb)
 | simp only [go_sem, ↓reduceIte, reduceIte, Nat.reduceEqDiff, String.reduceEq, Nat.reduceLT, Nat.reduceLeDiff, Nat.reduceAdd, Nat.reduceMul, Nat.reduceSub, Nat.reduceBEq, reduceCtorEq, *, Nat.le_refl, -hs, -hsk, -hb3]
 | with_reducible refine fun (bn : Bool) hbn => ?_))
        all_goals ((repeat clear hK); (repeat clear hA); (repeat clear hB))
        all_goals rfl
end Go.Proofs.YtbmdbkgjgjggiaaGreatDoor.Lg

namespace Go.Proofs.YtbmdbkgjgjggiaaGreatDoor.Lg
set_option maxRecDepth 100000
set_option linter.unusedVariables false
set_option linter.unusedSimpArgs false
open Go
def awq : Res := ⟨0, [108], 0, 80, [97], [], []⟩
theorem awq1 : saneR awq = 0 := by decide
theorem awq2 : refsR awq = [⟨1, [97]⟩] := by
  unfold refsR
  rw [if_pos awq1]
  have e : baseR awq ++ keysR awq.rules' = [⟨1, [97]⟩] := by decide
  rw [e]
  have e2 : ksort [⟨1, [97]⟩] = [(⟨1, [97]⟩ : Key)] := by simp [ksort]
  rw [e2]; rfl
theorem z01 : (0 : Int) < ((1 : Nat) : Int) := by decide
theorem awqc : CallR Tryz.prog 17 [.agg [.int .i64 0, .str [108], .int .i64 0, .int .i64 80, .str [97], .slice false [], .slice false []]] (.own 2 [.agg [.int .i64 1, .str [97]]]) := by
  have h := refsR_c 0 [108] 0 80 [97] [] [] (by simp [Small]) (by simp [Small]) (by simp)
  have e := awq2; unfold awq at e
  rw [e] at h; exact h
theorem awqs : CallR Tryz.prog 12 [.agg [.int .i64 0, .str [108], .int .i64 0, .int .i64 80, .str [97], .slice false [], .slice false []]] (.val (.int .i64 0)) := by
  have h := saneR_c 0 [108] 0 80 [97] [] [] (by simp [Small]) (by simp [Small]) (by simp)
  have e := awq1; unfold awq at e
  rw [e] at h; exact h
theorem awqm : CallR Tryz.prog 19 [.agg [.int .i64 0, .str [108], .int .i64 0, .int .i64 80, .str [97], .slice false [], .slice false []], .agg [.int .i64 0, .str [108], .int .i64 0, .int .i64 80, .str [97], .slice false [], .slice false []]] (.val (.bool true)) := by
  have h := sameP_c 0 [108] 0 80 [97] [] [] 0 [108] 0 80 [97] [] [] (by simp [Small]) (by simp [Small]) (by simp)
  rw [decide_eq_true rfl] at h
  exact h
set_option maxRecDepth 30000 in
theorem awake3_c : CallR Tryz.prog 10 [] (.val (.bool true)) := by
  refine CallR.go0 (T := T) Tryz.call10 Tryz.func10 rfl Tryz.ntmps10 (congrArg Array.toList Tryz.results10) fun ts hn => ?_
  (repeat' (first
 | with_reducible refine callX.by (awqc) ?_
 | with_reducible refine callX.by (awqs) ?_
 | with_reducible refine callX.by (awqm) ?_
 | with_reducible refine callX.by (refsR_c _ _ _ _ _ _ _ ?_ ?_ ?_) ?_
 | with_reducible refine callX.by awqc ?_
 | with_reducible refine callX.by (saneR_c _ _ _ _ _ _ _ ?_ ?_ ?_) ?_
 | with_reducible refine callX.by awqs ?_
 | with_reducible refine callX.by (sameP_c _ _ _ _ _ _ _ _ _ _ _ _ _ _ ?_ ?_ ?_) ?_
 | with_reducible refine callX.by awqm ?_
 | with_reducible assumption
 | (with_reducible refine NxK.out hK _ ?_; clear hK K)
 | with_reducible refine NxK.out (by assumption) _ ?_
 | with_reducible refine Nx.out (by assumption) ?_
 | with_reducible refine SpecC.seqW fun K hK => ?_
 | with_reducible refine SpecC.regW T fun K hK => ?_
 | with_reducible refine SpecC.condW fun A B hA hB => ?_
 | with_reducible refine SpecC.block ?_
 | with_reducible refine SpecC.skip ?_
 | with_reducible refine SpecC.label ?_
 | with_reducible refine SpecC.exit ?_
 | with_reducible refine SpecC.goto ?_
 | with_reducible refine SpecC.ret ?_
 | ((with_reducible first | refine condK.split (fun hb => ?_) (fun hb => ?_) | refine gK.split_t (fun hb => ?_) (fun hb => ?_) | refine gK.split_f (fun hb => ?_) (fun hb => ?_)) <;> try simp only [decide_not, ilt_t, ilt_f, ile_t, ile_f, nlt_t, nlt_f, nle_t, nle_f, Bool.not_eq_true', Bool.not_eq_false', Int.ofNat_lt, Int.ofNat_le] at hb)
 | simp only [go_sem, ↓reduceIte, reduceIte, Nat.reduceEqDiff, String.reduceEq, Nat.reduceLT, Nat.reduceLeDiff, Nat.reduceAdd, Nat.reduceMul, Nat.reduceSub, Nat.reduceBEq, reduceCtorEq, *, Int.toNat_zero, Int.le_refl, List.getD_cons_zero, z01, Nat.zero_lt_one]
 | with_reducible refine fun (bn : Bool) hbn => ?_))
end Go.Proofs.YtbmdbkgjgjggiaaGreatDoor.Lg

namespace Go.Proofs.YtbmdbkgjgjggiaaGreatDoor.Lg
set_option maxRecDepth 100000
set_option linter.unusedVariables false
set_option linter.unusedSimpArgs false
open Go
theorem saneR_ok (r : Res) : saneR r = 0 ↔ wIn r.kind 3 = true ∧ nmOk r.name = true ∧ smallR r = true ∧ shapedR r = true ∧ namedR r = true ∧ singleR r = true := by
  unfold saneR
  cases wIn r.kind 3 <;> cases nmOk r.name <;> cases smallR r <;> cases shapedR r <;> cases namedR r <;> cases singleR r <;> simp
theorem wIn_iff (n m : Int) : wIn n m = true ↔ 0 ≤ n ∧ n ≤ m := by
  unfold wIn; simp
theorem sane_kind {r : Res} (h : saneR r = 0) : r.kind = 0 ∨ r.kind = 1 ∨ r.kind = 2 ∨ r.kind = 3 := by
  have := (wIn_iff _ _).1 ((saneR_ok r).1 h).1
  omega
theorem nmNe {s : List UInt8} (h : nmOk s = true) : s ≠ [] := by
  rintro rfl; revert h; decide
theorem kinds_ne {r : Res} (h : saneR r = 0) : r.to' ≠ [] ↔ r.kind = 0 ∨ r.kind = 2 := by
  rw [saneR_ok] at h
  obtain ⟨h1, h2, h3, h4, h5, h6⟩ := h
  simp only [shapedR, namedR, Bool.and_eq_true, Bool.or_eq_true, decide_eq_true_eq] at h4 h5
  constructor
  · intro h; rcases h4.2.1 with h' | h'
    · exact absurd h' h
    · exact h'
  · intro h
    have h7 := h5.1
    have h8 : (decide (r.kind = 0) || decide (r.kind = 2)) = true := by simpa using h
    rw [h8] at h7
    exact nmNe (by simpa using h7)
end Go.Proofs.YtbmdbkgjgjggiaaGreatDoor.Lg

namespace Go.Proofs.YtbmdbkgjgjggiaaGreatDoor.Lg
set_option maxRecDepth 100000
set_option linter.unusedVariables false
set_option linter.unusedSimpArgs false
open Go
end Go.Proofs.YtbmdbkgjgjggiaaGreatDoor.Lg

namespace Go.Proofs.YtbmdbkgjgjggiaaGreatDoor.Lg
set_option maxRecDepth 100000
set_option linter.unusedVariables false
set_option linter.unusedSimpArgs false
open Go
theorem ncmp_eq : ∀ a b : List UInt8, ncmp a b = Lib.compareBytes a b
  | [], [] => rfl
  | [], _ :: _ => rfl
  | _ :: _, [] => rfl
  | x :: a, y :: b => by
    simp only [ncmp, Lib.compareBytes, UInt8.lt_iff_toNat_lt, ncmp_eq a b]
theorem kcmp3_eq (a b : Key) : kcmp3 a b = kcmp a b := by rw [kcmp_def, kcmp3, ncmp_eq]
def Up (l : List Key) : Prop := l.Pairwise fun x y => kcmp x y < 0
theorem up_ext : ∀ {l r : List Key}, Up l → Up r → (∀ x, x ∈ l ↔ x ∈ r) → l = r
  | [], [], _, _, _ => rfl
  | [], y :: r, _, _, h => by have := (h y).2 (by simp); simp at this
  | x :: l, [], _, _, h => by have := (h x).1 (by simp); simp at this
  | x :: l, y :: r, hl, hr, h => by
    obtain ⟨hl1, hl2⟩ := List.pairwise_cons.1 hl
    obtain ⟨hr1, hr2⟩ := List.pairwise_cons.1 hr
    have hxy : x = y := by
      rcases List.mem_cons.1 ((h x).1 (by simp)) with e | hx
      · exact e
      · rcases List.mem_cons.1 ((h y).2 (by simp)) with e | hy
        · exact e.symm
        · exact absurd (kcmp_trans _ _ _ (hl1 y hy) (hr1 x hx)) (kcmp_irrefl _)
    subst hxy
    rw [up_ext hl2 hr2 fun z => ?_]
    constructor
    · intro hz
      rcases List.mem_cons.1 ((h z).1 (List.mem_cons_of_mem _ hz)) with e | hz'
      · subst e; exact absurd (hl1 z hz) (kcmp_irrefl _)
      · exact hz'
    · intro hz
      rcases List.mem_cons.1 ((h z).2 (List.mem_cons_of_mem _ hz)) with e | hz'
      · subst e; exact absurd (hr1 z hz) (kcmp_irrefl _)
      · exact hz'
theorem putL_true (k : Key) : ∀ {l : List Key}, (∀ x ∈ l, kcmp3 x k ≠ 0) → putL k l true = l
  | [], _ => rfl
  | x :: r, h => by
    rw [putL, if_neg (h x (by simp))]
    simp only [Bool.not_true, Bool.and_false, Bool.true_or, Bool.false_eq_true, if_false, List.nil_append]
    rw [putL_true k fun y hy => h y (by simp [hy])]; rfl
theorem mem_putL (k : Key) : ∀ {l : List Key}, Up l → ∀ x, x ∈ putL k l false ↔ x = k ∨ x ∈ l
  | [], _, x => by simp [putL]
  | y :: r, h, x => by
    obtain ⟨h1, h2⟩ := List.pairwise_cons.1 h
    rw [putL, kcmp3_eq]
    by_cases h0 : kcmp y k < 0
    · have e1 : ¬ 0 ≤ kcmp y k := by omega
      have e2 : ¬ kcmp y k = 0 := by omega
      simp only [e1, decide_false, Bool.false_and, Bool.or_false, Bool.false_eq_true, if_false, e2, List.nil_append, List.cons_append, List.mem_cons]
      rw [mem_putL k h2]; grind
    · have e1 : 0 ≤ kcmp y k := by omega
      have hr : ∀ z ∈ r, kcmp3 z k ≠ 0 := fun z hz => by
        rw [kcmp3_eq]
        intro h3
        have := kcmp_zero _ _ h3
        subst this
        have := h1 z hz
        omega
      simp only [e1, decide_true, Bool.or_true, Bool.not_false, Bool.and_true, if_true]
      rw [putL_true k hr]
      by_cases e2 : kcmp y k = 0
      · have := kcmp_zero _ _ e2
        subst this
        simp [e2]
      · simp [e2]
theorem up_putL (k : Key) : ∀ {l : List Key}, Up l → Up (putL k l false)
  | [], _ => by simp [putL, Up]
  | y :: r, h => by
    obtain ⟨h1, h2⟩ := List.pairwise_cons.1 h
    have hm := mem_putL k h2
    have hu := up_putL k h2
    rw [putL, kcmp3_eq]
    by_cases h0 : kcmp y k < 0
    · have e1 : ¬ 0 ≤ kcmp y k := by omega
      have e2 : ¬ kcmp y k = 0 := by omega
      simp only [e1, decide_false, Bool.false_and, Bool.or_false, Bool.false_eq_true, if_false, e2, List.nil_append, List.cons_append]
      refine List.pairwise_cons.2 ⟨fun z hz => ?_, hu⟩
      rcases (hm z).1 hz with rfl | hz
      · exact h0
      · exact h1 z hz
    · have e1 : 0 ≤ kcmp y k := by omega
      have hr : ∀ z ∈ r, kcmp3 z k ≠ 0 := fun z hz => by
        rw [kcmp3_eq]
        intro h3
        have := kcmp_zero _ _ h3
        subst this
        have := h1 z hz
        omega
      simp only [e1, decide_true, Bool.or_true, Bool.not_false, Bool.and_true, if_true]
      rw [putL_true k hr]
      by_cases e2 : kcmp y k = 0
      · have := kcmp_zero _ _ e2
        subst this
        simp only [e2, if_true, List.append_nil, List.cons_append, List.nil_append]
        exact h
      · simp only [e2, if_false, List.cons_append, List.nil_append]
        have hky : kcmp k y < 0 := by have := kcmp_swap y k; omega
        refine List.pairwise_cons.2 ⟨fun z hz => ?_, h⟩
        rcases List.mem_cons.1 hz with rfl | hz
        · exact hky
        · exact kcmp_trans _ _ _ hky (h1 z hz)
theorem fold_put : ∀ (K : List Key) {ys : List Key}, Up ys → Up (K.foldl kput ys) ∧ ∀ x, x ∈ K.foldl kput ys ↔ x ∈ ys ∨ x ∈ K
  | [], ys, h => ⟨h, by simp⟩
  | k :: K, ys, h => by
    obtain ⟨h1, h2⟩ := fold_put K (up_putL k h)
    refine ⟨h1, fun x => ?_⟩
    rw [List.foldl_cons]
    have := h2 x
    rw [show kput ys k = putL k ys false from rfl, this, mem_putL k h]
    simp only [List.mem_cons]; grind
def Le (l : List Key) : Prop := l.Pairwise fun x y => ¬ kcmp y x < 0
theorem ksort_le (K : List Key) : Le (ksort K) := by
  have := List.pairwise_mergeSort (le := fun x y : Key => !decide (kcmp y x < 0)) (fun a b c h k => by
    simp only [Bool.not_eq_true', decide_eq_false_iff_not] at h k ⊢
    intro h3
    by_cases h4 : kcmp b c = 0
    · have := kcmp_zero _ _ h4; subst this; exact h h3
    · have : kcmp b c < 0 := by have := kcmp_swap b c; omega
      exact h (kcmp_trans _ _ _ this h3)) (fun a b => by
    simp only [Bool.or_eq_true, Bool.not_eq_true', decide_eq_false_iff_not]
    have := kcmp_swap a b; omega) K
  unfold Le ksort
  exact this.imp fun h => by simpa using h
theorem ksort_mem (K : List Key) (x : Key) : x ∈ ksort K ↔ x ∈ K := by unfold ksort; exact List.mem_mergeSort
theorem kcT_up : ∀ {a : Key} {r : List Key}, Le (a :: r) → Up (a :: kcT (a :: r)) ∧ ∀ x, x ∈ a :: kcT (a :: r) ↔ x ∈ a :: r
  | a, [], _ => by simp [kcT, Up]
  | a, b :: r, h => by
    obtain ⟨h1, h2⟩ := List.pairwise_cons.1 h
    obtain ⟨u, m⟩ := kcT_up h2
    rw [kcT]
    by_cases e : b = a
    · subst e
      rw [if_pos rfl]
      exact ⟨u, fun x => by rw [m]; simp⟩
    · rw [if_neg e]
      refine ⟨List.pairwise_cons.2 ⟨fun z hz => ?_, u⟩, fun x => ?_⟩
      · have hab : kcmp a b < 0 := by
          have h3 := h1 b (by simp)
          have h4 := kcmp_swap a b
          by_cases h5 : kcmp a b = 0
          · exact absurd (kcmp_zero _ _ h5).symm e
          · omega
        rcases List.mem_cons.1 hz with rfl | hz
        · exact hab
        · exact kcmp_trans _ _ _ hab ((List.pairwise_cons.1 u).1 z hz)
      · rw [List.mem_cons, m, ← List.mem_cons]
theorem kcompact_up {l : List Key} (h : Le l) : Up (kcompact l) ∧ ∀ x, x ∈ kcompact l ↔ x ∈ l := by
  unfold kcompact
  cases l with
  | nil => simp [kcT, Up]
  | cons a r => simpa using kcT_up h
end Go.Proofs.YtbmdbkgjgjggiaaGreatDoor.Lg

namespace Go.Proofs.YtbmdbkgjgjggiaaGreatDoor.Lg
set_option maxRecDepth 100000
set_option linter.unusedVariables false
set_option linter.unusedSimpArgs false
open Go
theorem refs_not {r : Res} (h : ¬ saneR r = 0) : refsR r = [] := by unfold refsR; rw [if_neg h]
theorem refs_up {r : Res} (h : saneR r = 0) : Up (refsR r) ∧ ∀ x, x ∈ refsR r ↔ x ∈ baseR r ++ keysR r.rules' := by
  obtain ⟨h1, h2⟩ := kcompact_up (ksort_le (baseR r ++ keysR r.rules'))
  unfold refsR
  rw [if_pos h]
  exact ⟨h1, fun x => by rw [h2, ksort_mem]⟩
theorem wrapK {r : Res} (h : saneR r = 0) : IntKind.i64.wrap (r.kind + 1) = r.kind + 1 :=
  IntWalk.i64_in _ (by have := sane_kind h; omega)
theorem refs_len (r : Res) : (refsR r).length ≤ 33 := by
  by_cases hs : saneR r = 0
  · obtain ⟨b1, b2, b3⟩ := small_bounds (sane_small hs)
    have hc : ∀ l : List Key, (kcT l).length ≤ l.length - 1 := by
      intro l
      induction l with
      | nil => simp [kcT]
      | cons a r ih =>
        cases r with
        | nil => simp [kcT]
        | cons b r => rw [kcT]; split <;> simp only [List.length_cons] at ih ⊢ <;> omega
    have hk : ∀ l : List Key, (kcompact l).length ≤ l.length := by
      intro l; unfold kcompact; rw [List.length_append]; have := hc l
      cases l with
      | nil => simpa using this
      | cons a r => simp only [List.length_cons, List.take_succ_cons, List.take_zero, List.length_nil] at this ⊢; omega
    have hkR : ∀ l : List Rule, (∀ x ∈ l, x.split.length ≤ 4) → (keysR l).length ≤ 4 * l.length := by
      intro l
      induction l with
      | nil => simp [keysR]
      | cons a r ih =>
        intro h
        rw [keysR_cons, List.length_append]
        have := ih fun x hx => h x (List.mem_cons_of_mem _ hx)
        have h2 := h a (by simp)
        have h3 := keysW_len a.split
        simp only [List.length_cons]; omega
    have hb : (baseR r).length ≤ 1 := by unfold baseR; split <;> simp
    have := hk (ksort (baseR r ++ keysR r.rules'))
    rw [ksort_length, List.length_append] at this
    have := hkR _ b3
    unfold refsR
    rw [if_pos hs]
    omega
  · rw [refs_not hs]; simp
end Go.Proofs.YtbmdbkgjgjggiaaGreatDoor.Lg
