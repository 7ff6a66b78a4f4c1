/- Parts of the proof, one behind the other. -/
import Derived.Test.YtbmdbkgjgjggiaaGreatDoorG15
namespace Go.Proofs.YtbmdbkgjgjggiaaGreatDoor.Lg
set_option maxRecDepth 100000
set_option linter.unusedVariables false
set_option linter.unusedSimpArgs false
open Go
theorem saneR_ok (r : Res) : saneR r = 0 ↔ wIn r.kind 3 = true ∧ nmOk r.name = true ∧ smallR r = true ∧ shapedR r = true ∧ namedR r = true ∧ singleR r = true := by
  unfold saneR
  cases wIn r.kind 3 <;> cases nmOk r.name <;> cases smallR r <;> cases shapedR r <;> cases namedR r <;> cases singleR r <;> simp
theorem wIn_iff (n m : Int) : wIn n m = true ↔ 0 ≤ n ∧ n ≤ m := by
  unfold wIn; simp
theorem sane_kind {r : Res} (h : saneR r = 0) : r.kind = 0 ∨ r.kind = 1 ∨ r.kind = 2 ∨ r.kind = 3 := by
  have := (wIn_iff _ _).1 ((saneR_ok r).1 h).1
  omega
theorem nmNe {s : List UInt8} (h : nmOk s = true) : s ≠ [] := by
  rintro rfl; revert h; decide
theorem kinds_ne {r : Res} (h : saneR r = 0) : r.to' ≠ [] ↔ r.kind = 0 ∨ r.kind = 2 := by
  rw [saneR_ok] at h
  obtain ⟨h1, h2, h3, h4, h5, h6⟩ := h
  simp only [shapedR, namedR, Bool.and_eq_true, Bool.or_eq_true, decide_eq_true_eq] at h4 h5
  constructor
  · intro h; rcases h4.2.1 with h' | h'
    · exact absurd h' h
    · exact h'
  · intro h
    have h7 := h5.1
    have h8 : (decide (r.kind = 0) || decide (r.kind = 2)) = true := by simpa using h
    rw [h8] at h7
    exact nmNe (by simpa using h7)
end Go.Proofs.YtbmdbkgjgjggiaaGreatDoor.Lg

namespace Go.Proofs.YtbmdbkgjgjggiaaGreatDoor.Lg
set_option maxRecDepth 100000
set_option linter.unusedVariables false
set_option linter.unusedSimpArgs false
open Go
end Go.Proofs.YtbmdbkgjgjggiaaGreatDoor.Lg

namespace Go.Proofs.YtbmdbkgjgjggiaaGreatDoor.Lg
set_option maxRecDepth 100000
set_option linter.unusedVariables false
set_option linter.unusedSimpArgs false
open Go
def Up (l : List Key) : Prop := l.Pairwise fun x y => kcmp x y < 0
def Le (l : List Key) : Prop := l.Pairwise fun x y => ¬ kcmp y x < 0
theorem ksort_le (K : List Key) : Le (ksort K) := by
  have := List.pairwise_mergeSort (le := fun x y : Key => !decide (kcmp y x < 0)) (fun a b c h k => by
    simp only [Bool.not_eq_true', decide_eq_false_iff_not] at h k ⊢
    intro h3
    by_cases h4 : kcmp b c = 0
    · have := kcmp_zero _ _ h4; subst this; exact h h3
    · have : kcmp b c < 0 := by have := kcmp_swap b c; omega
      exact h (kcmp_trans _ _ _ this h3)) (fun a b => by
    simp only [Bool.or_eq_true, Bool.not_eq_true', decide_eq_false_iff_not]
    have := kcmp_swap a b; omega) K
  unfold Le ksort
  exact this.imp fun h => by simpa using h
theorem ksort_mem (K : List Key) (x : Key) : x ∈ ksort K ↔ x ∈ K := by unfold ksort; exact List.mem_mergeSort
theorem kcT_up : ∀ {a : Key} {r : List Key}, Le (a :: r) → Up (a :: kcT (a :: r)) ∧ ∀ x, x ∈ a :: kcT (a :: r) ↔ x ∈ a :: r
  | a, [], _ => by simp [kcT, Up]
  | a, b :: r, h => by
    obtain ⟨h1, h2⟩ := List.pairwise_cons.1 h
    obtain ⟨u, m⟩ := kcT_up h2
    rw [kcT]
    by_cases e : b = a
    · subst e
      rw [if_pos rfl]
      exact ⟨u, fun x => by rw [m]; simp⟩
    · rw [if_neg e]
      refine ⟨List.pairwise_cons.2 ⟨fun z hz => ?_, u⟩, fun x => ?_⟩
      · have hab : kcmp a b < 0 := by
          have h3 := h1 b (by simp)
          have h4 := kcmp_swap a b
          by_cases h5 : kcmp a b = 0
          · exact absurd (kcmp_zero _ _ h5).symm e
          · omega
        rcases List.mem_cons.1 hz with rfl | hz
        · exact hab
        · exact kcmp_trans _ _ _ hab ((List.pairwise_cons.1 u).1 z hz)
      · rw [List.mem_cons, m, ← List.mem_cons]
theorem kcompact_up {l : List Key} (h : Le l) : Up (kcompact l) ∧ ∀ x, x ∈ kcompact l ↔ x ∈ l := by
  unfold kcompact
  cases l with
  | nil => simp [kcT, Up]
  | cons a r => simpa using kcT_up h
end Go.Proofs.YtbmdbkgjgjggiaaGreatDoor.Lg

namespace Go.Proofs.YtbmdbkgjgjggiaaGreatDoor.Lg
set_option maxRecDepth 100000
set_option linter.unusedVariables false
set_option linter.unusedSimpArgs false
open Go
theorem refs_not {r : Res} (h : ¬ saneR r = 0) : refsR r = [] := by unfold refsR; rw [if_neg h]
theorem refs_up {r : Res} (h : saneR r = 0) : Up (refsR r) ∧ ∀ x, x ∈ refsR r ↔ x ∈ baseR r ++ keysR r.rules' := by
  obtain ⟨h1, h2⟩ := kcompact_up (ksort_le (baseR r ++ keysR r.rules'))
  unfold refsR
  rw [if_pos h]
  exact ⟨h1, fun x => by rw [h2, ksort_mem]⟩
theorem mem_keysW {w : List Weight} {x : Key} : x ∈ keysW w ↔ ∃ y ∈ w, 0 < y.w ∧ x = ⟨2, y.cluster⟩ := by
  unfold keysW
  simp only [List.mem_map, List.mem_filter, decide_eq_true_eq]
  constructor
  · rintro ⟨y, ⟨h1, h2⟩, rfl⟩; exact ⟨y, h1, h2, rfl⟩
  · rintro ⟨y, h1, h2, rfl⟩; exact ⟨y, ⟨h1, h2⟩, rfl⟩
theorem mem_keysR {l : List Rule} {x : Key} : x ∈ keysR l ↔ ∃ z ∈ l, ∃ y ∈ z.split, 0 < y.w ∧ x = ⟨2, y.cluster⟩ := by
  unfold keysR
  simp only [List.mem_flatMap, mem_keysW]
theorem wrapK {r : Res} (h : saneR r = 0) : IntKind.i64.wrap (r.kind + 1) = r.kind + 1 :=
  IntWalk.i64_in _ (by have := sane_kind h; omega)
theorem sane_parts {r : Res} (h : saneR r = 0) : (r.to' ≠ [] → r.kind = 0 ∨ r.kind = 2) ∧ (r.rules' ≠ [] → r.kind = 1) ∧ (r.hosts ≠ [] → r.kind = 3) ∧ (r.to' ≠ [] → nmOk r.to' = true) ∧
    (∀ x ∈ r.rules', ruleOk x = true) := by
  have hto := kinds_ne h
  rw [saneR_ok] at h
  obtain ⟨h1, h2, h3, h4, h5, h6⟩ := h
  simp only [shapedR, namedR, Bool.and_eq_true, Bool.or_eq_true, decide_eq_true_eq] at h4 h5
  refine ⟨hto.1, fun h => ?_, fun h => ?_, fun h => ?_, fun x hx => ?_⟩
  · rcases h4.2.2.1 with h' | h'
    · exact absurd (List.length_eq_zero_iff.1 h') h
    · exact h'
  · rcases h4.2.2.2 with h' | h'
    · exact absurd (List.length_eq_zero_iff.1 h') h
    · exact h'
  · have h8 : (decide (r.kind = 0) || decide (r.kind = 2)) = true := by simpa using hto.1 h
    have h7 := h5.1
    rw [h8] at h7
    simpa using h7
  · have h7 := h5.2
    simp only [Bool.not_eq_true', List.any_eq_false, Bool.not_eq_true, Bool.not_eq_false'] at h7
    simpa using h7 x hx
theorem refs_kind {r : Res} (h : saneR r = 0) : ∀ x ∈ refsR r, x.kind = r.kind + 1 ∧ nmOk x.name = true := by
  obtain ⟨h1, h2, h3, h4, h5⟩ := sane_parts h
  intro x hx
  rw [(refs_up h).2, List.mem_append] at hx
  rcases hx with hx | hx
  · unfold baseR at hx
    split at hx
    · simp at hx
    · rename_i hne
      rw [List.mem_singleton] at hx
      subst hx
      exact ⟨wrapK h, h4 hne⟩
  · obtain ⟨z, hz, y, hy, hw, rfl⟩ := mem_keysR.1 hx
    have hk := h2 (List.ne_nil_of_mem hz)
    refine ⟨by simp only; omega, ?_⟩
    have hr := h5 z hz
    simp only [ruleOk, Bool.and_eq_true, Bool.not_eq_true', List.any_eq_false, Bool.not_eq_true, Bool.not_eq_false'] at hr
    simpa using hr.2.2 y hy
theorem refs_len (r : Res) : (refsR r).length ≤ 33 := by
  by_cases hs : saneR r = 0
  · obtain ⟨b1, b2, b3⟩ := small_bounds (sane_small hs)
    have hc : ∀ l : List Key, (kcT l).length ≤ l.length - 1 := by
      intro l
      induction l with
      | nil => simp [kcT]
      | cons a r ih =>
        cases r with
        | nil => simp [kcT]
        | cons b r => rw [kcT]; split <;> simp only [List.length_cons] at ih ⊢ <;> omega
    have hk : ∀ l : List Key, (kcompact l).length ≤ l.length := by
      intro l; unfold kcompact; rw [List.length_append]; have := hc l
      cases l with
      | nil => simpa using this
      | cons a r => simp only [List.length_cons, List.take_succ_cons, List.take_zero, List.length_nil] at this ⊢; omega
    have hkR : ∀ l : List Rule, (∀ x ∈ l, x.split.length ≤ 4) → (keysR l).length ≤ 4 * l.length := by
      intro l
      induction l with
      | nil => simp [keysR]
      | cons a r ih =>
        intro h
        rw [keysR_cons, List.length_append]
        have := ih fun x hx => h x (List.mem_cons_of_mem _ hx)
        have h2 := h a (by simp)
        have h3 := keysW_len a.split
        simp only [List.length_cons]; omega
    have hb : (baseR r).length ≤ 1 := by unfold baseR; split <;> simp
    have := hk (ksort (baseR r ++ keysR r.rules'))
    rw [ksort_length, List.length_append] at this
    have := hkR _ b3
    unfold refsR
    rw [if_pos hs]
    omega
  · rw [refs_not hs]; simp
end Go.Proofs.YtbmdbkgjgjggiaaGreatDoor.Lg

namespace Go.Proofs.YtbmdbkgjgjggiaaGreatDoor.Lg
set_option maxRecDepth 100000
set_option linter.unusedVariables false
set_option linter.unusedSimpArgs false
open Go
def keepK (M : List (Key × Bool)) (ks : List Key) : List Key := ks.filter fun k => !(mget M k).getD false
def missR (M : List (Key × Bool)) (l : List Res) : List Key := l.flatMap fun r => keepK M (refsR r)
def missK (l : List Res) : List Key := kcompact (ksort (missR (ofR l []) l))
theorem missR_cons (M : List (Key × Bool)) (r : Res) (l : List Res) : missR M (r :: l) = keepK M (refsR r) ++ missR M l := rfl
theorem keepK_cons (M : List (Key × Bool)) (k : Key) (l : List Key) : keepK M (k :: l) = (if (mget M k).getD false = true then [] else [k]) ++ keepK M l := by
  unfold keepK
  rw [List.filter_cons]
  cases (mget M k).getD false <;> simp
theorem small_le {n : Nat} (h : n ≤ 65536) : Small n := by unfold Small; omega
set_option maxRecDepth 30000 in
set_option maxHeartbeats 4000000 in
theorem missing_c (xs : List Res) (hl : xs.length ≤ 65536) (hs : ∀ r ∈ xs, SmRes r) : CallR Tryz.prog 27 [.slice false (avs xs)] (.own 2 (avs (missK xs))) := by
  have hsl := small_le hl
  refine CallR.go1 (T := T) Tryz.call27 Tryz.func27 rfl Tryz.ntmps27 (congrArg Array.toList Tryz.results27) (by decide) fun ts hn h0 => ?_
  (repeat' (first
 | with_reducible refine callX.by (refsOf_c _ ?_) ?_
 | with_reducible refine callX.by (refsR_c _ _ _ _ _ _ _ ?_ ?_ ?_) ?_
 | with_reducible refine callX.by awqc ?_
 | (with_reducible refine callX.ar ?_ ?_ (sortKey_c ?_ ?_); (focus (simp only [go_sem, ↓reduceIte, reduceIte, Nat.reduceEqDiff, String.reduceEq, Nat.reduceLT, Nat.reduceLeDiff, Nat.reduceAdd, Nat.reduceMul, Nat.reduceSub, Nat.reduceBEq, reduceCtorEq, *, -hs]; first | done | rfl)))
 | with_reducible refine callX.by (kcmp_c _ _ _ _) ?_
 | (with_reducible refine callX.mv ?_ ?_ ?_ (compactKey_c ?_ ?_); (focus (simp only [go_sem, ↓reduceIte, reduceIte, Nat.reduceEqDiff, String.reduceEq, Nat.reduceLT, Nat.reduceLeDiff, Nat.reduceAdd, Nat.reduceMul, Nat.reduceSub, Nat.reduceBEq, reduceCtorEq, *, -hs]; first | done | rfl)); (focus (simp only [go_sem, ↓reduceIte, reduceIte, Nat.reduceEqDiff, String.reduceEq, Nat.reduceLT, Nat.reduceLeDiff, Nat.reduceAdd, Nat.reduceMul, Nat.reduceSub, Nat.reduceBEq, reduceCtorEq, *, -hs]; first | done | rfl)))
 | with_reducible assumption
 | (with_reducible refine NxK.out hK _ ?_; clear hK K)
 | with_reducible refine NxK.out (by assumption) _ ?_
 | with_reducible refine Nx.out (by assumption) ?_
 | with_reducible refine SpecC.seqW fun K hK => ?_
 | with_reducible refine SpecC.regW T fun K hK => ?_
 | with_reducible refine SpecC.condW fun A B hA hB => ?_
 | with_reducible refine SpecC.block ?_
 | with_reducible refine SpecC.skip ?_
 | with_reducible refine SpecC.label ?_
 | with_reducible refine SpecC.exit ?_
 | with_reducible refine SpecC.goto ?_
 | with_reducible refine SpecC.ret ?_
 | ((with_reducible first | refine condK.split (fun hb => ?_) (fun hb => ?_) | refine gK.split_t (fun hb => ?_) (fun hb => ?_) | refine gK.split_f (fun hb => ?_) (fun hb => ?_)) <;> try simp only [decide_not, ilt_t, ilt_f, ile_t, ile_f, nlt_t, nlt_f, nle_t, nle_f, Bool.not_eq_true', Bool.not_eq_false', Int.ofNat_lt, Int.ofNat_le] at hb)
 | simp only [go_sem, ↓reduceIte, reduceIte, Nat.reduceEqDiff, String.reduceEq, Nat.reduceLT, Nat.reduceLeDiff, Nat.reduceAdd, Nat.reduceMul, Nat.reduceSub, Nat.reduceBEq, reduceCtorEq, *, -hs]
 | with_reducible refine fun (bn : Bool) hbn => ?_))
  obtain ⟨M0, hM0⟩ : ∃ M0, ofR xs [] = M0 := ⟨_, rfl⟩
  have hK0 : missK xs = kcompact (ksort (missR M0 xs)) := by rw [← hM0]; rfl
  rw [hM0]
  refine SpecC.virt 4 31 2 (by decide) (by simp only [go_sem, ↓reduceIte, reduceIte, Nat.reduceEqDiff, String.reduceEq, Nat.reduceLT, Nat.reduceLeDiff, Nat.reduceAdd, Nat.reduceMul, Nat.reduceSub, Nat.reduceBEq, reduceCtorEq, *, -hs, -hK0]) ?_
  refine SpecC.loopF [3, 11, 12] (fun m ts' => ∃ (i : Nat), ∃ (g : Nat), ∃ (ys : List Key), m = xs.length - i ∧ i ≤ xs.length ∧ ys.length ≤ 33 * i ∧ missR M0 xs = ys ++ missR M0 (xs.drop i) ∧ ts'.tmp 4 = .os 31 g ys.length ∧ ts'.gen 31 = g ∧ ts'.obj 31 = .arr 2 (avs ys) ∧ ts'.tmp 13 = .int .i64 i) xs.length ?_ ?_
  · refine ⟨0, ts.gen 31 + 1, [], rfl, Nat.zero_le _, Nat.le_refl _, rfl, ?_⟩
    simp only [go_sem, ↓reduceIte, reduceIte, Nat.reduceEqDiff, String.reduceEq, Nat.reduceLT, Nat.reduceLeDiff, Nat.reduceAdd, Nat.reduceMul, Nat.reduceSub, Nat.reduceBEq, reduceCtorEq, *, -hs, -hK0, avs_nil]
  · rintro m A hM ts' hk ⟨i, g, ys, hm, f1, f2, f3, s1, s2, s3, s4⟩
    simp only [go_sem, ↓reduceIte, reduceIte, Nat.reduceEqDiff, String.reduceEq, Nat.reduceLT, Nat.reduceLeDiff, Nat.reduceAdd, Nat.reduceMul, Nat.reduceSub, Nat.reduceBEq, reduceCtorEq, *] at hk
    by_cases hlt : i < xs.length
    · rw [List.drop_eq_getElem_cons hlt, missR_cons] at f3
      obtain ⟨_, _, hx1, hx2, hx3⟩ := hs _ (List.getElem_mem hlt)
      have hrl := refs_len xs[i]
      have hrs : Small (refsR xs[i]).length := by unfold Small; omega
      (repeat' (first
 | with_reducible refine callX.by (refsOf_c _ ?_) ?_
 | with_reducible refine callX.by (refsR_c _ _ _ _ _ _ _ ?_ ?_ ?_) ?_
 | with_reducible refine callX.by awqc ?_
 | (with_reducible refine callX.ar ?_ ?_ (sortKey_c ?_ ?_); (focus (simp only [go_sem, ↓reduceIte, reduceIte, Nat.reduceEqDiff, String.reduceEq, Nat.reduceLT, Nat.reduceLeDiff, Nat.reduceAdd, Nat.reduceMul, Nat.reduceSub, Nat.reduceBEq, reduceCtorEq, *, -hs, -hK0, -hx2, -f3]; first | done | rfl)))
 | with_reducible refine callX.by (kcmp_c _ _ _ _) ?_
 | (with_reducible refine callX.mv ?_ ?_ ?_ (compactKey_c ?_ ?_); (focus (simp only [go_sem, ↓reduceIte, reduceIte, Nat.reduceEqDiff, String.reduceEq, Nat.reduceLT, Nat.reduceLeDiff, Nat.reduceAdd, Nat.reduceMul, Nat.reduceSub, Nat.reduceBEq, reduceCtorEq, *, -hs, -hK0, -hx2, -f3]; first | done | rfl)); (focus (simp only [go_sem, ↓reduceIte, reduceIte, Nat.reduceEqDiff, String.reduceEq, Nat.reduceLT, Nat.reduceLeDiff, Nat.reduceAdd, Nat.reduceMul, Nat.reduceSub, Nat.reduceBEq, reduceCtorEq, *, -hs, -hK0, -hx2, -f3]; first | done | rfl)))
 | with_reducible assumption
 | (with_reducible refine NxK.out hK _ ?_; clear hK K)
 | with_reducible refine NxK.out (by assumption) _ ?_
 | with_reducible refine Nx.out (by assumption) ?_
 | with_reducible refine SpecC.seqW fun K hK => ?_
 | with_reducible refine SpecC.regW T fun K hK => ?_
 | with_reducible refine SpecC.condW fun A B hA hB => ?_
 | with_reducible refine SpecC.block ?_
 | with_reducible refine SpecC.skip ?_
 | with_reducible refine SpecC.label ?_
 | with_reducible refine SpecC.exit ?_
 | with_reducible refine SpecC.goto ?_
 | with_reducible refine SpecC.ret ?_
 | ((with_reducible first | refine condK.split (fun hb => ?_) (fun hb => ?_) | refine gK.split_t (fun hb => ?_) (fun hb => ?_) | refine gK.split_f (fun hb => ?_) (fun hb => ?_)) <;> try simp only [decide_not, ilt_t, ilt_f, ile_t, ile_f, nlt_t, nlt_f, nle_t, nle_f, Bool.not_eq_true', Bool.not_eq_false', Int.ofNat_lt, Int.ofNat_le] at hb)
 | simp only [go_sem, ↓reduceIte, reduceIte, Nat.reduceEqDiff, String.reduceEq, Nat.reduceLT, Nat.reduceLeDiff, Nat.reduceAdd, Nat.reduceMul, Nat.reduceSub, Nat.reduceBEq, reduceCtorEq, *, -hs, -hK0, -hx2, -f3]
 | with_reducible refine fun (bn : Bool) hbn => ?_))
      generalize refsR xs[i] = R at *
      refine SpecC.loopF [3, 11, 12, 13, 18, 19] (fun m ts' => ∃ (j : Nat), ∃ (g' : Nat), ∃ (zs : List Key), m = R.length - j ∧ j ≤ R.length ∧ zs.length ≤ 33 * i + j ∧ ys ++ keepK M0 R = zs ++ keepK M0 (R.drop j) ∧ ts'.tmp 4 = .os 31 g' zs.length ∧ ts'.gen 31 = g' ∧ ts'.obj 31 = .arr 2 (avs zs) ∧ ts'.tmp 20 = .int .i64 j) R.length ?_ ?_
      · refine ⟨0, g, ys, rfl, Nat.zero_le _, by omega, rfl, ?_⟩
        simp only [go_sem, ↓reduceIte, reduceIte, Nat.reduceEqDiff, String.reduceEq, Nat.reduceLT, Nat.reduceLeDiff, Nat.reduceAdd, Nat.reduceMul, Nat.reduceSub, Nat.reduceBEq, reduceCtorEq, *, -hs, -hK0, -hx2, -f3]
      · revert hM f3
        intro hM1 f30
        rintro m A hM ts' hk ⟨j, g', zs, hm, f1, f2, f3, s1, s2, s3, s4⟩
        simp only [go_sem, ↓reduceIte, reduceIte, Nat.reduceEqDiff, String.reduceEq, Nat.reduceLT, Nat.reduceLeDiff, Nat.reduceAdd, Nat.reduceMul, Nat.reduceSub, Nat.reduceBEq, reduceCtorEq, *] at hk
        by_cases hjt : j < R.length
        · rw [List.drop_eq_getElem_cons hjt, keepK_cons] at f3
          have hr1 : Room (zs.length + 1) 24 := room_big (by omega) (by decide)
          (repeat' (first
 | with_reducible refine callX.by (refsOf_c _ ?_) ?_
 | with_reducible refine callX.by (refsR_c _ _ _ _ _ _ _ ?_ ?_ ?_) ?_
 | with_reducible refine callX.by awqc ?_
 | (with_reducible refine callX.ar ?_ ?_ (sortKey_c ?_ ?_); (focus (simp only [go_sem, ↓reduceIte, reduceIte, Nat.reduceEqDiff, String.reduceEq, Nat.reduceLT, Nat.reduceLeDiff, Nat.reduceAdd, Nat.reduceMul, Nat.reduceSub, Nat.reduceBEq, reduceCtorEq, *, -hs, -hK0, -hx2, -f3, -f30]; first | done | rfl)))
 | with_reducible refine callX.by (kcmp_c _ _ _ _) ?_
 | (with_reducible refine callX.mv ?_ ?_ ?_ (compactKey_c ?_ ?_); (focus (simp only [go_sem, ↓reduceIte, reduceIte, Nat.reduceEqDiff, String.reduceEq, Nat.reduceLT, Nat.reduceLeDiff, Nat.reduceAdd, Nat.reduceMul, Nat.reduceSub, Nat.reduceBEq, reduceCtorEq, *, -hs, -hK0, -hx2, -f3, -f30]; first | done | rfl)); (focus (simp only [go_sem, ↓reduceIte, reduceIte, Nat.reduceEqDiff, String.reduceEq, Nat.reduceLT, Nat.reduceLeDiff, Nat.reduceAdd, Nat.reduceMul, Nat.reduceSub, Nat.reduceBEq, reduceCtorEq, *, -hs, -hK0, -hx2, -f3, -f30]; first | done | rfl)))
 | with_reducible assumption
 | (with_reducible refine NxK.out hK _ ?_; clear hK K)
 | with_reducible refine NxK.out (by assumption) _ ?_
 | with_reducible refine Nx.out (by assumption) ?_
 | with_reducible refine SpecC.seqW fun K hK => ?_
 | with_reducible refine SpecC.regW T fun K hK => ?_
 | with_reducible refine SpecC.condW fun A B hA hB => ?_
 | with_reducible refine SpecC.block ?_
 | with_reducible refine SpecC.skip ?_
 | with_reducible refine SpecC.label ?_
 | with_reducible refine SpecC.exit ?_
 | with_reducible refine SpecC.goto ?_
 | with_reducible refine SpecC.ret ?_
 | ((with_reducible first | refine condK.split (fun hb => ?_) (fun hb => ?_) | refine gK.split_t (fun hb => ?_) (fun hb => ?_) | refine gK.split_f (fun hb => ?_) (fun hb => ?_)) <;> try simp only [decide_not, ilt_t, ilt_f, ile_t, ile_f, nlt_t, nlt_f, nle_t, nle_f, Bool.not_eq_true', Bool.not_eq_false', Int.ofNat_lt, Int.ofNat_le] at hb)
 | simp only [go_sem, ↓reduceIte, reduceIte, Nat.reduceEqDiff, String.reduceEq, Nat.reduceLT, Nat.reduceLeDiff, Nat.reduceAdd, Nat.reduceMul, Nat.reduceSub, Nat.reduceBEq, reduceCtorEq, *, -hs, -hK0, -hx2, -f3, -f30]
 | with_reducible refine fun (bn : Bool) hbn => ?_))
          all_goals ((repeat clear hK); (repeat clear hA); (repeat clear hB))
          · rw [if_neg (by simp [hb])] at f3
            (refine hM.on (R.length - (j + 1)) (by omega) (by simp only [go_sem, ↓reduceIte, reduceIte, Nat.reduceEqDiff, String.reduceEq, Nat.reduceLT, Nat.reduceLeDiff, Nat.reduceAdd, Nat.reduceMul, Nat.reduceSub, Nat.reduceBEq, reduceCtorEq, *, w64_nat hjt hrs, List.length_append, -hs, -hK0, -hx2, -f3, -f30, -hM1]) ⟨j + 1, g' + 1, zs ++ [R[j]], rfl, by omega, by simp; omega, by rw [f3, List.append_assoc], ?_⟩; simp only [go_sem, ↓reduceIte, reduceIte, Nat.reduceEqDiff, String.reduceEq, Nat.reduceLT, Nat.reduceLeDiff, Nat.reduceAdd, Nat.reduceMul, Nat.reduceSub, Nat.reduceBEq, reduceCtorEq, *, w64_nat hjt hrs, List.length_append, -hs, -hK0, -hx2, -f3, -f30, -hM1]; done)
          · rw [if_pos hb, List.nil_append] at f3
            (refine hM.on (R.length - (j + 1)) (by omega) (by simp only [go_sem, ↓reduceIte, reduceIte, Nat.reduceEqDiff, String.reduceEq, Nat.reduceLT, Nat.reduceLeDiff, Nat.reduceAdd, Nat.reduceMul, Nat.reduceSub, Nat.reduceBEq, reduceCtorEq, *, w64_nat hjt hrs, -hs, -hK0, -hx2, -f3, -f30, -hM1]) ⟨j + 1, g', zs, rfl, by omega, by omega, f3, ?_⟩; simp only [go_sem, ↓reduceIte, reduceIte, Nat.reduceEqDiff, String.reduceEq, Nat.reduceLT, Nat.reduceLeDiff, Nat.reduceAdd, Nat.reduceMul, Nat.reduceSub, Nat.reduceBEq, reduceCtorEq, *, w64_nat hjt hrs, -hs, -hK0, -hx2, -f3, -f30, -hM1]; done)
        · rw [List.drop_eq_nil_of_le (by omega)] at f3
          (repeat' (first
 | with_reducible refine callX.by (refsOf_c _ ?_) ?_
 | with_reducible refine callX.by (refsR_c _ _ _ _ _ _ _ ?_ ?_ ?_) ?_
 | with_reducible refine callX.by awqc ?_
 | (with_reducible refine callX.ar ?_ ?_ (sortKey_c ?_ ?_); (focus (simp only [go_sem, ↓reduceIte, reduceIte, Nat.reduceEqDiff, String.reduceEq, Nat.reduceLT, Nat.reduceLeDiff, Nat.reduceAdd, Nat.reduceMul, Nat.reduceSub, Nat.reduceBEq, reduceCtorEq, *, -hs, -hK0, -hx2, -f3, -f30]; first | done | rfl)))
 | with_reducible refine callX.by (kcmp_c _ _ _ _) ?_
 | (with_reducible refine callX.mv ?_ ?_ ?_ (compactKey_c ?_ ?_); (focus (simp only [go_sem, ↓reduceIte, reduceIte, Nat.reduceEqDiff, String.reduceEq, Nat.reduceLT, Nat.reduceLeDiff, Nat.reduceAdd, Nat.reduceMul, Nat.reduceSub, Nat.reduceBEq, reduceCtorEq, *, -hs, -hK0, -hx2, -f3, -f30]; first | done | rfl)); (focus (simp only [go_sem, ↓reduceIte, reduceIte, Nat.reduceEqDiff, String.reduceEq, Nat.reduceLT, Nat.reduceLeDiff, Nat.reduceAdd, Nat.reduceMul, Nat.reduceSub, Nat.reduceBEq, reduceCtorEq, *, -hs, -hK0, -hx2, -f3, -f30]; first | done | rfl)))
 | with_reducible assumption
 | (with_reducible refine NxK.out hK _ ?_; clear hK K)
 | with_reducible refine NxK.out (by assumption) _ ?_
 | with_reducible refine Nx.out (by assumption) ?_
 | with_reducible refine SpecC.seqW fun K hK => ?_
 | with_reducible refine SpecC.regW T fun K hK => ?_
 | with_reducible refine SpecC.condW fun A B hA hB => ?_
 | with_reducible refine SpecC.block ?_
 | with_reducible refine SpecC.skip ?_
 | with_reducible refine SpecC.label ?_
 | with_reducible refine SpecC.exit ?_
 | with_reducible refine SpecC.goto ?_
 | with_reducible refine SpecC.ret ?_
 | ((with_reducible first | refine condK.split (fun hb => ?_) (fun hb => ?_) | refine gK.split_t (fun hb => ?_) (fun hb => ?_) | refine gK.split_f (fun hb => ?_) (fun hb => ?_)) <;> try simp only [decide_not, ilt_t, ilt_f, ile_t, ile_f, nlt_t, nlt_f, nle_t, nle_f, Bool.not_eq_true', Bool.not_eq_false', Int.ofNat_lt, Int.ofNat_le] at hb)
 | simp only [go_sem, ↓reduceIte, reduceIte, Nat.reduceEqDiff, String.reduceEq, Nat.reduceLT, Nat.reduceLeDiff, Nat.reduceAdd, Nat.reduceMul, Nat.reduceSub, Nat.reduceBEq, reduceCtorEq, *, -hs, -hK0, -hx2, -f3, -f30]
 | with_reducible refine fun (bn : Bool) hbn => ?_))
          all_goals ((repeat clear hK); (repeat clear hA); (repeat clear hB))
          all_goals (clear hM; revert hM1; intro hM)
          (refine hM.on (xs.length - (i + 1)) (by omega) (by simp only [go_sem, ↓reduceIte, reduceIte, Nat.reduceEqDiff, String.reduceEq, Nat.reduceLT, Nat.reduceLeDiff, Nat.reduceAdd, Nat.reduceMul, Nat.reduceSub, Nat.reduceBEq, reduceCtorEq, *, w64_nat hlt hsl, -hs, -hK0, -hx2, -f3, -f30]) ⟨i + 1, g', zs, rfl, by omega, by omega, by rw [f30, ← List.append_assoc, f3]; simp [keepK], ?_⟩; simp only [go_sem, ↓reduceIte, reduceIte, Nat.reduceEqDiff, String.reduceEq, Nat.reduceLT, Nat.reduceLeDiff, Nat.reduceAdd, Nat.reduceMul, Nat.reduceSub, Nat.reduceBEq, reduceCtorEq, *, w64_nat hlt hsl, -hs, -hK0, -hx2, -f3, -f30]; done)
    · rw [List.drop_eq_nil_of_le (by omega)] at f3
      have e : ys = missR M0 xs := by rw [f3]; simp [missR]
      subst e
      clear f3
      have hk1 := ksort_length (missR M0 xs)
      have htk : (ksort (missR M0 xs)).take (missR M0 xs).length = ksort (missR M0 xs) := List.take_of_length_le (by omega)
      have hsm1 : Small (missR M0 xs).length := by unfold Small; omega
      have hsm2 : Small (ksort (missR M0 xs)).length := by rw [hk1]; exact hsm1
      (repeat' (first
 | with_reducible refine callX.by (refsOf_c _ ?_) ?_
 | with_reducible refine callX.by (refsR_c _ _ _ _ _ _ _ ?_ ?_ ?_) ?_
 | with_reducible refine callX.by awqc ?_
 | (with_reducible refine callX.ar ?_ ?_ (sortKey_c ?_ ?_); (focus (simp only [go_sem, ↓reduceIte, reduceIte, Nat.reduceEqDiff, String.reduceEq, Nat.reduceLT, Nat.reduceLeDiff, Nat.reduceAdd, Nat.reduceMul, Nat.reduceSub, Nat.reduceBEq, reduceCtorEq, *, Nat.le_refl, -hs]; first | done | rfl)))
 | with_reducible refine callX.by (kcmp_c _ _ _ _) ?_
 | (with_reducible refine callX.mv ?_ ?_ ?_ (compactKey_c ?_ ?_); (focus (simp only [go_sem, ↓reduceIte, reduceIte, Nat.reduceEqDiff, String.reduceEq, Nat.reduceLT, Nat.reduceLeDiff, Nat.reduceAdd, Nat.reduceMul, Nat.reduceSub, Nat.reduceBEq, reduceCtorEq, *, Nat.le_refl, -hs]; first | done | rfl)); (focus (simp only [go_sem, ↓reduceIte, reduceIte, Nat.reduceEqDiff, String.reduceEq, Nat.reduceLT, Nat.reduceLeDiff, Nat.reduceAdd, Nat.reduceMul, Nat.reduceSub, Nat.reduceBEq, reduceCtorEq, *, Nat.le_refl, -hs]; first | done | rfl)))
 | with_reducible assumption
 | (with_reducible refine NxK.out hK _ ?_; clear hK K)
 | with_reducible refine NxK.out (by assumption) _ ?_
 | with_reducible refine Nx.out (by assumption) ?_
 | with_reducible refine SpecC.seqW fun K hK => ?_
 | with_reducible refine SpecC.regW T fun K hK => ?_
 | with_reducible refine SpecC.condW fun A B hA hB => ?_
 | with_reducible refine SpecC.block ?_
 | with_reducible refine SpecC.skip ?_
 | with_reducible refine SpecC.label ?_
 | with_reducible refine SpecC.exit ?_
 | with_reducible refine SpecC.goto ?_
 | with_reducible refine SpecC.ret ?_
 | ((with_reducible first | refine condK.split (fun hb => ?_) (fun hb => ?_) | refine gK.split_t (fun hb => ?_) (fun hb => ?_) | refine gK.split_f (fun hb => ?_) (fun hb => ?_)) <;> try simp only [decide_not, ilt_t, ilt_f, ile_t, ile_f, nlt_t, nlt_f, nle_t, nle_f, Bool.not_eq_true', Bool.not_eq_false', Int.ofNat_lt, Int.ofNat_le] at hb)
 | simp only [go_sem, ↓reduceIte, reduceIte, Nat.reduceEqDiff, String.reduceEq, Nat.reduceLT, Nat.reduceLeDiff, Nat.reduceAdd, Nat.reduceMul, Nat.reduceSub, Nat.reduceBEq, reduceCtorEq, *, Nat.le_refl, -hs]
 | with_reducible refine fun (bn : Bool) hbn => ?_))
      all_goals ((repeat clear hK); (repeat clear hA); (repeat clear hB))
def referrers (l : List Res) (k : Key) : List Key := (l.filter fun r => (refsR r).any fun x => decide (k = x)).map keyOf
set_option maxRecDepth 30000 in
set_option maxHeartbeats 4000000 in
theorem referrers_c (xs : List Res) (k_kind : Int) (k_name : List UInt8) (hl : xs.length ≤ 65536) (hs : ∀ r ∈ xs, SmRes r) : CallR Tryz.prog 29 [.slice false (avs xs), .agg [.int .i64 k_kind, .str k_name]] (.own 2 (avs (referrers xs (⟨k_kind, k_name⟩ : Key)))) := by
  have hsl := small_le hl
  refine CallR.go2 (T := T) Tryz.call29 Tryz.func29 rfl Tryz.ntmps29 (congrArg Array.toList Tryz.results29) (by decide) fun ts hn h0 h1 => ?_
  (repeat' (first
 | with_reducible refine callX.by (refsR_c _ _ _ _ _ _ _ ?_ ?_ ?_) ?_
 | with_reducible refine callX.by awqc ?_
 | with_reducible refine callX.by (containsKey_c _ _ _ ?_) ?_
 | with_reducible refine callX.by (rkey_c _ _ _ _ _ _ _) ?_
 | with_reducible assumption
 | (with_reducible refine NxK.out hK _ ?_; clear hK K)
 | with_reducible refine NxK.out (by assumption) _ ?_
 | with_reducible refine Nx.out (by assumption) ?_
 | with_reducible refine SpecC.seqW fun K hK => ?_
 | with_reducible refine SpecC.regW T fun K hK => ?_
 | with_reducible refine SpecC.drawW (id := 5) T mixed [([14], [16]), ([15], [16]), ([16], [14, 15])] (by kernel_rfl) fun K hK => ?_
 | with_reducible refine SpecC.condW fun A B hA hB => ?_
 | with_reducible refine SpecC.block ?_
 | with_reducible refine SpecC.skip ?_
 | with_reducible refine SpecC.label ?_
 | with_reducible refine SpecC.exit ?_
 | with_reducible refine SpecC.goto ?_
 | with_reducible refine SpecC.ret ?_
 | ((with_reducible first | refine condK.split (fun hb => ?_) (fun hb => ?_) | refine gK.split_t (fun hb => ?_) (fun hb => ?_) | refine gK.split_f (fun hb => ?_) (fun hb => ?_)) <;> try simp only [decide_not, ilt_t, ilt_f, ile_t, ile_f, nlt_t, nlt_f, nle_t, nle_f, Bool.not_eq_true', Bool.not_eq_false', Int.ofNat_lt, Int.ofNat_le] at hb)
 | simp only [go_sem, ↓reduceIte, reduceIte, Nat.reduceEqDiff, String.reduceEq, Nat.reduceLT, Nat.reduceLeDiff, Nat.reduceAdd, Nat.reduceMul, Nat.reduceSub, Nat.reduceBEq, reduceCtorEq, *, -hs]
 | with_reducible refine fun (bn : Bool) hbn => ?_))
  refine SpecC.virt 5 22 2 (by decide) (by simp only [go_sem, ↓reduceIte, reduceIte, Nat.reduceEqDiff, String.reduceEq, Nat.reduceLT, Nat.reduceLeDiff, Nat.reduceAdd, Nat.reduceMul, Nat.reduceSub, Nat.reduceBEq, reduceCtorEq, *, -hs]) ?_
  refine SpecC.loopF [3, 8, 9] (fun m ts' => ∃ (i : Nat), ∃ (g : Nat), ∃ (ys : List Key), m = xs.length - i ∧ i ≤ xs.length ∧ ys.length ≤ i ∧ referrers xs (⟨k_kind, k_name⟩ : Key) = ys ++ referrers (xs.drop i) (⟨k_kind, k_name⟩ : Key) ∧ ts'.tmp 5 = .os 22 g ys.length ∧ ts'.gen 22 = g ∧ ts'.obj 22 = .arr 2 (avs ys) ∧ ts'.tmp 10 = .int .i64 i) xs.length ?_ ?_
  · refine ⟨0, ts.gen 22 + 1, [], rfl, Nat.zero_le _, Nat.le_refl _, rfl, ?_⟩
    simp only [go_sem, ↓reduceIte, reduceIte, Nat.reduceEqDiff, String.reduceEq, Nat.reduceLT, Nat.reduceLeDiff, Nat.reduceAdd, Nat.reduceMul, Nat.reduceSub, Nat.reduceBEq, reduceCtorEq, *, -hs, avs_nil]
  · rintro m A hM ts' hk ⟨i, g, ys, hm, f1, f2, f3, s1, s2, s3, s4⟩
    simp only [go_sem, ↓reduceIte, reduceIte, Nat.reduceEqDiff, String.reduceEq, Nat.reduceLT, Nat.reduceLeDiff, Nat.reduceAdd, Nat.reduceMul, Nat.reduceSub, Nat.reduceBEq, reduceCtorEq, *] at hk
    by_cases hlt : i < xs.length
    · rw [List.drop_eq_getElem_cons hlt] at f3
      obtain ⟨_, _, hx1, hx2, hx3⟩ := hs _ (List.getElem_mem hlt)
      have hrl := refs_len xs[i]
      have hrs : Small (refsR xs[i]).length := by unfold Small; omega
      have hr1 : Room (ys.length + 1) 24 := room_big (by omega) (by decide)
      (repeat' (first
 | with_reducible refine callX.by (refsR_c _ _ _ _ _ _ _ ?_ ?_ ?_) ?_
 | with_reducible refine callX.by awqc ?_
 | with_reducible refine callX.by (containsKey_c _ _ _ ?_) ?_
 | with_reducible refine callX.by (rkey_c _ _ _ _ _ _ _) ?_
 | with_reducible assumption
 | (with_reducible refine NxK.out hK _ ?_; clear hK K)
 | with_reducible refine NxK.out (by assumption) _ ?_
 | with_reducible refine Nx.out (by assumption) ?_
 | with_reducible refine SpecC.seqW fun K hK => ?_
 | with_reducible refine SpecC.regW T fun K hK => ?_
 | with_reducible refine SpecC.drawW (id := 5) T mixed [([14], [16]), ([15], [16]), ([16], [14, 15])] (by kernel_rfl) fun K hK => ?_
 | with_reducible refine SpecC.condW fun A B hA hB => ?_
 | with_reducible refine SpecC.block ?_
 | with_reducible refine SpecC.skip ?_
 | with_reducible refine SpecC.label ?_
 | with_reducible refine SpecC.exit ?_
 | with_reducible refine SpecC.goto ?_
 | with_reducible refine SpecC.ret ?_
 | ((with_reducible first | refine condK.split (fun hb => ?_) (fun hb => ?_) | refine gK.split_t (fun hb => ?_) (fun hb => ?_) | refine gK.split_f (fun hb => ?_) (fun hb => ?_)) <;> try simp only [decide_not, ilt_t, ilt_f, ile_t, ile_f, nlt_t, nlt_f, nle_t, nle_f, Bool.not_eq_true', Bool.not_eq_false', Int.ofNat_lt, Int.ofNat_le] at hb)
 | simp only [go_sem, ↓reduceIte, reduceIte, Nat.reduceEqDiff, String.reduceEq, Nat.reduceLT, Nat.reduceLeDiff, Nat.reduceAdd, Nat.reduceMul, Nat.reduceSub, Nat.reduceBEq, reduceCtorEq, *, -hs, -hx2, -f3]
 | with_reducible refine fun (bn : Bool) hbn => ?_))
      all_goals ((repeat clear hK); (repeat clear hA); (repeat clear hB))
      · have f3' : referrers xs (⟨k_kind, k_name⟩ : Key) = ys ++ (keyOf xs[i] :: referrers (xs.drop (i + 1)) (⟨k_kind, k_name⟩ : Key)) := by
          rw [f3]; unfold referrers; rw [List.filter_cons, if_pos (by simpa using hb)]; rfl
        (refine hM.on (xs.length - (i + 1)) (by omega) (by simp only [go_sem, ↓reduceIte, reduceIte, Nat.reduceEqDiff, String.reduceEq, Nat.reduceLT, Nat.reduceLeDiff, Nat.reduceAdd, Nat.reduceMul, Nat.reduceSub, Nat.reduceBEq, reduceCtorEq, *, w64_nat hlt hsl, List.length_append, keyOf, -hs, -hx2, -f3, -f3']) ⟨i + 1, g + 1, ys ++ [keyOf xs[i]], rfl, by omega, by simp; omega, by rw [f3', List.append_assoc]; rfl, ?_⟩; simp only [go_sem, ↓reduceIte, reduceIte, Nat.reduceEqDiff, String.reduceEq, Nat.reduceLT, Nat.reduceLeDiff, Nat.reduceAdd, Nat.reduceMul, Nat.reduceSub, Nat.reduceBEq, reduceCtorEq, *, w64_nat hlt hsl, List.length_append, keyOf, -hs, -hx2, -f3, -f3']; done)
      · have f3' : referrers xs (⟨k_kind, k_name⟩ : Key) = ys ++ referrers (xs.drop (i + 1)) (⟨k_kind, k_name⟩ : Key) := by
          rw [f3]; unfold referrers; rw [List.filter_cons, if_neg (fun h => by rw [hb] at h; cases h)]
        (refine hM.on (xs.length - (i + 1)) (by omega) (by simp only [go_sem, ↓reduceIte, reduceIte, Nat.reduceEqDiff, String.reduceEq, Nat.reduceLT, Nat.reduceLeDiff, Nat.reduceAdd, Nat.reduceMul, Nat.reduceSub, Nat.reduceBEq, reduceCtorEq, *, w64_nat hlt hsl, -hs, -hx2, -f3, -f3']) ⟨i + 1, g, ys, rfl, by omega, by omega, f3', ?_⟩; simp only [go_sem, ↓reduceIte, reduceIte, Nat.reduceEqDiff, String.reduceEq, Nat.reduceLT, Nat.reduceLeDiff, Nat.reduceAdd, Nat.reduceMul, Nat.reduceSub, Nat.reduceBEq, reduceCtorEq, *, w64_nat hlt hsl, -hs, -hx2, -f3, -f3']; done)
    · rw [List.drop_eq_nil_of_le (by omega)] at f3
      have e : ys = referrers xs (⟨k_kind, k_name⟩ : Key) := by rw [f3]; simp [referrers]
      subst e
      clear f3
      (repeat' (first
 | with_reducible refine callX.by (refsR_c _ _ _ _ _ _ _ ?_ ?_ ?_) ?_
 | with_reducible refine callX.by awqc ?_
 | with_reducible refine callX.by (containsKey_c _ _ _ ?_) ?_
 | with_reducible refine callX.by (rkey_c _ _ _ _ _ _ _) ?_
 | with_reducible assumption
 | (with_reducible refine NxK.out hK _ ?_; clear hK K)
 | with_reducible refine NxK.out (by assumption) _ ?_
 | with_reducible refine Nx.out (by assumption) ?_
 | with_reducible refine SpecC.seqW fun K hK => ?_
 | with_reducible refine SpecC.regW T fun K hK => ?_
 | with_reducible refine SpecC.drawW (id := 5) T mixed [([14], [16]), ([15], [16]), ([16], [14, 15])] (by kernel_rfl) fun K hK => ?_
 | with_reducible refine SpecC.condW fun A B hA hB => ?_
 | with_reducible refine SpecC.block ?_
 | with_reducible refine SpecC.skip ?_
 | with_reducible refine SpecC.label ?_
 | with_reducible refine SpecC.exit ?_
 | with_reducible refine SpecC.goto ?_
 | with_reducible refine SpecC.ret ?_
 | ((with_reducible first | refine condK.split (fun hb => ?_) (fun hb => ?_) | refine gK.split_t (fun hb => ?_) (fun hb => ?_) | refine gK.split_f (fun hb => ?_) (fun hb => ?_)) <;> try simp only [decide_not, ilt_t, ilt_f, ile_t, ile_f, nlt_t, nlt_f, nle_t, nle_f, Bool.not_eq_true', Bool.not_eq_false', Int.ofNat_lt, Int.ofNat_le] at hb)
 | simp only [go_sem, ↓reduceIte, reduceIte, Nat.reduceEqDiff, String.reduceEq, Nat.reduceLT, Nat.reduceLeDiff, Nat.reduceAdd, Nat.reduceMul, Nat.reduceSub, Nat.reduceBEq, reduceCtorEq, *, -hs]
 | with_reducible refine fun (bn : Bool) hbn => ?_))
      all_goals ((repeat clear hK); (repeat clear hA); (repeat clear hB))
theorem tkind_len (l : List Res) (k : Int) : (tkind l k).length ≤ l.length := List.length_filter_le _ _
def orderK (l : List Res) : List Key := (tkind l 3 ++ tkind l 2 ++ tkind l 1 ++ tkind l 0).map keyOf
def ordA (xs : List Res) : Nat → List Key
  | 0 => []
  | 1 => (tkind xs 3).map keyOf
  | 2 => (tkind xs 3).map keyOf ++ (tkind xs 2).map keyOf
  | 3 => (tkind xs 3).map keyOf ++ (tkind xs 2).map keyOf ++ (tkind xs 1).map keyOf
  | _ => (tkind xs 3).map keyOf ++ (tkind xs 2).map keyOf ++ (tkind xs 1).map keyOf ++ (tkind xs 0).map keyOf
def ordB : Nat → Int
  | 0 => 3
  | 1 => 2
  | 2 => 1
  | 3 => 0
  | _ => -1
theorem ordA4 (xs : List Res) : ordA xs 4 = orderK xs := by simp [ordA, orderK]
set_option maxRecDepth 30000 in
set_option maxHeartbeats 4000000 in
theorem order_refs_c (xs : List Res) (hl : xs.length ≤ 65536) : CallR Tryz.prog 36 [.slice false (avs xs)] (.own 2 (avs (orderK xs))) := by
  have hsl := small_le hl
  have b0 := tkind_len xs 0
  have b1 := tkind_len xs 1
  have b2 := tkind_len xs 2
  have b3 := tkind_len xs 3
  have s0 : Small (tkind xs 0).length := small_le (by omega)
  have s1 : Small (tkind xs 1).length := small_le (by omega)
  have s2 : Small (tkind xs 2).length := small_le (by omega)
  have s3 : Small (tkind xs 3).length := small_le (by omega)
  have c1 : (ordA xs 1).length = (tkind xs 3).length := by simp [ordA]
  have c2 : (ordA xs 2).length = (tkind xs 3).length + (tkind xs 2).length := by simp [ordA]
  have c3 : (ordA xs 3).length = (tkind xs 3).length + (tkind xs 2).length + (tkind xs 1).length := by simp [ordA]; omega
  have d0 : ordA xs 0 ++ (tkind xs 3).map keyOf = ordA xs 1 := rfl
  have d1 : ordA xs 1 ++ (tkind xs 2).map keyOf = ordA xs 2 := rfl
  have d2 : ordA xs 2 ++ (tkind xs 1).map keyOf = ordA xs 3 := rfl
  have d3 : ordA xs 3 ++ (tkind xs 0).map keyOf = ordA xs 4 := rfl
  have c4 : (ordA xs 4).length = (tkind xs 3).length + (tkind xs 2).length + (tkind xs 1).length + (tkind xs 0).length := by simp [ordA]; omega
  have l0 : (ordA xs 0).length + (tkind xs 3).length = (ordA xs 1).length := by simp [ordA]
  have l1 : (ordA xs 1).length + (tkind xs 2).length = (ordA xs 2).length := by simp [ordA]
  have l2 : (ordA xs 2).length + (tkind xs 1).length = (ordA xs 3).length := by simp [ordA]; omega
  have l3 : (ordA xs 3).length + (tkind xs 0).length = (ordA xs 4).length := by simp [ordA]; omega
  have hr3 : Room (ordA xs 1).length 24 := room_big (by omega) (by decide)
  have hr2 : Room (ordA xs 2).length 24 := room_big (by omega) (by decide)
  have hr1 : Room (ordA xs 3).length 24 := room_big (by omega) (by decide)
  have hr0 : Room (ordA xs 4).length 24 := room_big (by omega) (by decide)
  have w0 : IntKind.i64.wrap (3 - 1) = 2 := by decide
  have w1 : IntKind.i64.wrap (2 - 1) = 1 := by decide
  have w2 : IntKind.i64.wrap (1 - 1) = 0 := by decide
  have w3 : IntKind.i64.wrap (0 - 1) = -1 := by decide
  have v0 : (0 : Int) ≤ 3 := by decide
  have v1 : (0 : Int) ≤ 2 := by decide
  have v2 : (0 : Int) ≤ 1 := by decide
  have v3 : (0 : Int) ≤ 0 := by decide
  have v4 : ¬ (0 : Int) ≤ -1 := by decide
  have g0 : ordB 0 = 3 := rfl
  have g1 : ordB 1 = 2 := rfl
  have g2 : ordB 2 = 1 := rfl
  have g3 : ordB 3 = 0 := rfl
  have g4 : ordB 4 = -1 := rfl
  have z0 : ordA xs 0 = [] := rfl
  have t0 : List.take (tkind xs 0).length ((tkind xs 0).map keyOf) = (tkind xs 0).map keyOf := List.take_of_length_le (by simp)
  have t1 : List.take (tkind xs 1).length ((tkind xs 1).map keyOf) = (tkind xs 1).map keyOf := List.take_of_length_le (by simp)
  have t2 : List.take (tkind xs 2).length ((tkind xs 2).map keyOf) = (tkind xs 2).map keyOf := List.take_of_length_le (by simp)
  have t3 : List.take (tkind xs 3).length ((tkind xs 3).map keyOf) = (tkind xs 3).map keyOf := List.take_of_length_le (by simp)
  have hz := ordA4 xs
  clear b0 b1 b2 b3 c1 c2 c3 c4
  refine CallR.go1 (T := T) Tryz.call36 Tryz.func36 rfl Tryz.ntmps36 (congrArg Array.toList Tryz.results36) (by decide) fun ts hn h0 => ?_
  (repeat' (first
 | with_reducible refine callX.by (tkind_c _ _ ?_) ?_
 | with_reducible refine callX.by (tkeys_c _ ?_) ?_
 | with_reducible assumption
 | (with_reducible refine NxK.out hK _ ?_; clear hK K)
 | with_reducible refine NxK.out (by assumption) _ ?_
 | with_reducible refine Nx.out (by assumption) ?_
 | with_reducible refine SpecC.seqW fun K hK => ?_
 | with_reducible refine SpecC.regW T fun K hK => ?_
 | with_reducible refine SpecC.condW fun A B hA hB => ?_
 | with_reducible refine SpecC.block ?_
 | with_reducible refine SpecC.skip ?_
 | with_reducible refine SpecC.label ?_
 | with_reducible refine SpecC.exit ?_
 | with_reducible refine SpecC.goto ?_
 | with_reducible refine SpecC.ret ?_
 | ((with_reducible first | refine condK.split (fun hb => ?_) (fun hb => ?_) | refine gK.split_t (fun hb => ?_) (fun hb => ?_) | refine gK.split_f (fun hb => ?_) (fun hb => ?_)) <;> try simp only [decide_not, ilt_t, ilt_f, ile_t, ile_f, nlt_t, nlt_f, nle_t, nle_f, Bool.not_eq_true', Bool.not_eq_false', Int.ofNat_lt, Int.ofNat_le] at hb)
 | simp only [go_sem, ↓reduceIte, reduceIte, Nat.reduceEqDiff, String.reduceEq, Nat.reduceLT, Nat.reduceLeDiff, Nat.reduceAdd, Nat.reduceMul, Nat.reduceSub, Nat.reduceBEq, reduceCtorEq, *, -hz]
 | with_reducible refine fun (bn : Bool) hbn => ?_))
  refine SpecC.virt 3 14 2 (by decide) (by simp only [go_sem, ↓reduceIte, reduceIte, Nat.reduceEqDiff, String.reduceEq, Nat.reduceLT, Nat.reduceLeDiff, Nat.reduceAdd, Nat.reduceMul, Nat.reduceSub, Nat.reduceBEq, reduceCtorEq, *]) ?_
  refine SpecC.loopF [0] (fun m ts' => ∃ (i : Nat), ∃ (g : Nat), m = 4 - i ∧ i ≤ 4 ∧ ts'.tmp 3 = .os 14 g (ordA xs i).length ∧ ts'.gen 14 = g ∧ ts'.obj 14 = .arr 2 (avs (ordA xs i)) ∧ ts'.tmp 4 = .int .i64 (ordB i)) 4 ?_ ?_
  · refine ⟨0, ts.gen 14 + 1, rfl, by omega, ?_⟩
    simp only [go_sem, ↓reduceIte, reduceIte, Nat.reduceEqDiff, String.reduceEq, Nat.reduceLT, Nat.reduceLeDiff, Nat.reduceAdd, Nat.reduceMul, Nat.reduceSub, Nat.reduceBEq, reduceCtorEq, *, avs_nil, List.length_nil, -hz]
  · clear z0
    rintro m A hM ts' hk ⟨i, g, hm, f1, s1, s2, s3, s4⟩
    simp only [go_sem, ↓reduceIte, reduceIte, Nat.reduceEqDiff, String.reduceEq, Nat.reduceLT, Nat.reduceLeDiff, Nat.reduceAdd, Nat.reduceMul, Nat.reduceSub, Nat.reduceBEq, reduceCtorEq, *] at hk
    rcases (show i = 0 ∨ i = 1 ∨ i = 2 ∨ i = 3 ∨ i = 4 by omega) with rfl | rfl | rfl | rfl | rfl
    · (repeat' (first
 | with_reducible refine callX.by (tkind_c _ _ ?_) ?_
 | with_reducible refine callX.by (tkeys_c _ ?_) ?_
 | with_reducible assumption
 | (with_reducible refine NxK.out hK _ ?_; clear hK K)
 | with_reducible refine NxK.out (by assumption) _ ?_
 | with_reducible refine Nx.out (by assumption) ?_
 | with_reducible refine SpecC.seqW fun K hK => ?_
 | with_reducible refine SpecC.regW T fun K hK => ?_
 | with_reducible refine SpecC.condW fun A B hA hB => ?_
 | with_reducible refine SpecC.block ?_
 | with_reducible refine SpecC.skip ?_
 | with_reducible refine SpecC.label ?_
 | with_reducible refine SpecC.exit ?_
 | with_reducible refine SpecC.goto ?_
 | with_reducible refine SpecC.ret ?_
 | ((with_reducible first | refine condK.split (fun hb => ?_) (fun hb => ?_) | refine gK.split_t (fun hb => ?_) (fun hb => ?_) | refine gK.split_f (fun hb => ?_) (fun hb => ?_)) <;> try simp only [decide_not, ilt_t, ilt_f, ile_t, ile_f, nlt_t, nlt_f, nle_t, nle_f, Bool.not_eq_true', Bool.not_eq_false', Int.ofNat_lt, Int.ofNat_le] at hb)
 | simp only [go_sem, ↓reduceIte, reduceIte, Nat.reduceEqDiff, String.reduceEq, Nat.reduceLT, Nat.reduceLeDiff, Nat.reduceAdd, Nat.reduceMul, Nat.reduceSub, Nat.reduceBEq, reduceCtorEq, *, -hz, List.length_map]
 | with_reducible refine fun (bn : Bool) hbn => ?_))
      all_goals ((repeat clear hK); (repeat clear hA); (repeat clear hB))
      (refine hM.on (3) (by omega) (by simp only [go_sem, ↓reduceIte, reduceIte, Nat.reduceEqDiff, String.reduceEq, Nat.reduceLT, Nat.reduceLeDiff, Nat.reduceAdd, Nat.reduceMul, Nat.reduceSub, Nat.reduceBEq, reduceCtorEq, *, List.length_append, List.length_map, -hz]) ⟨1, g + 1, rfl, by omega, ?_⟩; simp only [go_sem, ↓reduceIte, reduceIte, Nat.reduceEqDiff, String.reduceEq, Nat.reduceLT, Nat.reduceLeDiff, Nat.reduceAdd, Nat.reduceMul, Nat.reduceSub, Nat.reduceBEq, reduceCtorEq, *, List.length_append, List.length_map, -hz]; done)
    · (repeat' (first
 | with_reducible refine callX.by (tkind_c _ _ ?_) ?_
 | with_reducible refine callX.by (tkeys_c _ ?_) ?_
 | with_reducible assumption
 | (with_reducible refine NxK.out hK _ ?_; clear hK K)
 | with_reducible refine NxK.out (by assumption) _ ?_
 | with_reducible refine Nx.out (by assumption) ?_
 | with_reducible refine SpecC.seqW fun K hK => ?_
 | with_reducible refine SpecC.regW T fun K hK => ?_
 | with_reducible refine SpecC.condW fun A B hA hB => ?_
 | with_reducible refine SpecC.block ?_
 | with_reducible refine SpecC.skip ?_
 | with_reducible refine SpecC.label ?_
 | with_reducible refine SpecC.exit ?_
 | with_reducible refine SpecC.goto ?_
 | with_reducible refine SpecC.ret ?_
 | ((with_reducible first | refine condK.split (fun hb => ?_) (fun hb => ?_) | refine gK.split_t (fun hb => ?_) (fun hb => ?_) | refine gK.split_f (fun hb => ?_) (fun hb => ?_)) <;> try simp only [decide_not, ilt_t, ilt_f, ile_t, ile_f, nlt_t, nlt_f, nle_t, nle_f, Bool.not_eq_true', Bool.not_eq_false', Int.ofNat_lt, Int.ofNat_le] at hb)
 | simp only [go_sem, ↓reduceIte, reduceIte, Nat.reduceEqDiff, String.reduceEq, Nat.reduceLT, Nat.reduceLeDiff, Nat.reduceAdd, Nat.reduceMul, Nat.reduceSub, Nat.reduceBEq, reduceCtorEq, *, -hz, List.length_map]
 | with_reducible refine fun (bn : Bool) hbn => ?_))
      all_goals ((repeat clear hK); (repeat clear hA); (repeat clear hB))
      (refine hM.on (2) (by omega) (by simp only [go_sem, ↓reduceIte, reduceIte, Nat.reduceEqDiff, String.reduceEq, Nat.reduceLT, Nat.reduceLeDiff, Nat.reduceAdd, Nat.reduceMul, Nat.reduceSub, Nat.reduceBEq, reduceCtorEq, *, List.length_append, List.length_map, -hz]) ⟨2, g + 1, rfl, by omega, ?_⟩; simp only [go_sem, ↓reduceIte, reduceIte, Nat.reduceEqDiff, String.reduceEq, Nat.reduceLT, Nat.reduceLeDiff, Nat.reduceAdd, Nat.reduceMul, Nat.reduceSub, Nat.reduceBEq, reduceCtorEq, *, List.length_append, List.length_map, -hz]; done)
    · (repeat' (first
 | with_reducible refine callX.by (tkind_c _ _ ?_) ?_
 | with_reducible refine callX.by (tkeys_c _ ?_) ?_
 | with_reducible assumption
 | (with_reducible refine NxK.out hK _ ?_; clear hK K)
 | with_reducible refine NxK.out (by assumption) _ ?_
 | with_reducible refine Nx.out (by assumption) ?_
 | with_reducible refine SpecC.seqW fun K hK => ?_
 | with_reducible refine SpecC.regW T fun K hK => ?_
 | with_reducible refine SpecC.condW fun A B hA hB => ?_
 | with_reducible refine SpecC.block ?_
 | with_reducible refine SpecC.skip ?_
 | with_reducible refine SpecC.label ?_
 | with_reducible refine SpecC.exit ?_
 | with_reducible refine SpecC.goto ?_
 | with_reducible refine SpecC.ret ?_
 | ((with_reducible first | refine condK.split (fun hb => ?_) (fun hb => ?_) | refine gK.split_t (fun hb => ?_) (fun hb => ?_) | refine gK.split_f (fun hb => ?_) (fun hb => ?_)) <;> try simp only [decide_not, ilt_t, ilt_f, ile_t, ile_f, nlt_t, nlt_f, nle_t, nle_f, Bool.not_eq_true', Bool.not_eq_false', Int.ofNat_lt, Int.ofNat_le] at hb)
 | simp only [go_sem, ↓reduceIte, reduceIte, Nat.reduceEqDiff, String.reduceEq, Nat.reduceLT, Nat.reduceLeDiff, Nat.reduceAdd, Nat.reduceMul, Nat.reduceSub, Nat.reduceBEq, reduceCtorEq, *, -hz, List.length_map]
 | with_reducible refine fun (bn : Bool) hbn => ?_))
      all_goals ((repeat clear hK); (repeat clear hA); (repeat clear hB))
      (refine hM.on (1) (by omega) (by simp only [go_sem, ↓reduceIte, reduceIte, Nat.reduceEqDiff, String.reduceEq, Nat.reduceLT, Nat.reduceLeDiff, Nat.reduceAdd, Nat.reduceMul, Nat.reduceSub, Nat.reduceBEq, reduceCtorEq, *, List.length_append, List.length_map, -hz]) ⟨3, g + 1, rfl, by omega, ?_⟩; simp only [go_sem, ↓reduceIte, reduceIte, Nat.reduceEqDiff, String.reduceEq, Nat.reduceLT, Nat.reduceLeDiff, Nat.reduceAdd, Nat.reduceMul, Nat.reduceSub, Nat.reduceBEq, reduceCtorEq, *, List.length_append, List.length_map, -hz]; done)
    · (repeat' (first
 | with_reducible refine callX.by (tkind_c _ _ ?_) ?_
 | with_reducible refine callX.by (tkeys_c _ ?_) ?_
 | with_reducible assumption
 | (with_reducible refine NxK.out hK _ ?_; clear hK K)
 | with_reducible refine NxK.out (by assumption) _ ?_
 | with_reducible refine Nx.out (by assumption) ?_
 | with_reducible refine SpecC.seqW fun K hK => ?_
 | with_reducible refine SpecC.regW T fun K hK => ?_
 | with_reducible refine SpecC.condW fun A B hA hB => ?_
 | with_reducible refine SpecC.block ?_
 | with_reducible refine SpecC.skip ?_
 | with_reducible refine SpecC.label ?_
 | with_reducible refine SpecC.exit ?_
 | with_reducible refine SpecC.goto ?_
 | with_reducible refine SpecC.ret ?_
 | ((with_reducible first | refine condK.split (fun hb => ?_) (fun hb => ?_) | refine gK.split_t (fun hb => ?_) (fun hb => ?_) | refine gK.split_f (fun hb => ?_) (fun hb => ?_)) <;> try simp only [decide_not, ilt_t, ilt_f, ile_t, ile_f, nlt_t, nlt_f, nle_t, nle_f, Bool.not_eq_true', Bool.not_eq_false', Int.ofNat_lt, Int.ofNat_le] at hb)
 | simp only [go_sem, ↓reduceIte, reduceIte, Nat.reduceEqDiff, String.reduceEq, Nat.reduceLT, Nat.reduceLeDiff, Nat.reduceAdd, Nat.reduceMul, Nat.reduceSub, Nat.reduceBEq, reduceCtorEq, *, -hz, List.length_map]
 | with_reducible refine fun (bn : Bool) hbn => ?_))
      all_goals ((repeat clear hK); (repeat clear hA); (repeat clear hB))
      (refine hM.on (0) (by omega) (by simp only [go_sem, ↓reduceIte, reduceIte, Nat.reduceEqDiff, String.reduceEq, Nat.reduceLT, Nat.reduceLeDiff, Nat.reduceAdd, Nat.reduceMul, Nat.reduceSub, Nat.reduceBEq, reduceCtorEq, *, List.length_append, List.length_map, -hz]) ⟨4, g + 1, rfl, by omega, ?_⟩; simp only [go_sem, ↓reduceIte, reduceIte, Nat.reduceEqDiff, String.reduceEq, Nat.reduceLT, Nat.reduceLeDiff, Nat.reduceAdd, Nat.reduceMul, Nat.reduceSub, Nat.reduceBEq, reduceCtorEq, *, List.length_append, List.length_map, -hz]; done)
    · (repeat' (first
 | with_reducible refine callX.by (tkind_c _ _ ?_) ?_
 | with_reducible refine callX.by (tkeys_c _ ?_) ?_
 | with_reducible assumption
 | (with_reducible refine NxK.out hK _ ?_; clear hK K)
 | with_reducible refine NxK.out (by assumption) _ ?_
 | with_reducible refine Nx.out (by assumption) ?_
 | with_reducible refine SpecC.seqW fun K hK => ?_
 | with_reducible refine SpecC.regW T fun K hK => ?_
 | with_reducible refine SpecC.condW fun A B hA hB => ?_
 | with_reducible refine SpecC.block ?_
 | with_reducible refine SpecC.skip ?_
 | with_reducible refine SpecC.label ?_
 | with_reducible refine SpecC.exit ?_
 | with_reducible refine SpecC.goto ?_
 | with_reducible refine SpecC.ret ?_
 | ((with_reducible first | refine condK.split (fun hb => ?_) (fun hb => ?_) | refine gK.split_t (fun hb => ?_) (fun hb => ?_) | refine gK.split_f (fun hb => ?_) (fun hb => ?_)) <;> try simp only [decide_not, ilt_t, ilt_f, ile_t, ile_f, nlt_t, nlt_f, nle_t, nle_f, Bool.not_eq_true', Bool.not_eq_false', Int.ofNat_lt, Int.ofNat_le] at hb)
 | simp only [go_sem, ↓reduceIte, reduceIte, Nat.reduceEqDiff, String.reduceEq, Nat.reduceLT, Nat.reduceLeDiff, Nat.reduceAdd, Nat.reduceMul, Nat.reduceSub, Nat.reduceBEq, reduceCtorEq, *, hz]
 | with_reducible refine fun (bn : Bool) hbn => ?_))
end Go.Proofs.YtbmdbkgjgjggiaaGreatDoor.Lg
