/- The law PinsNext. -/
import Derived.Test.YtjmnokbbodcaaaaP16
import Derived.Test.YtjmnokbbodcaaaaPL3
namespace Go.Proofs.Ytjmnokbbodcaaaa.Lg
set_option linter.unusedVariables false
set_option linter.unusedSimpArgs false
open Go

theorem rpublish_ok {p : Pins} {l : List Res} (h : OkP p) (hm : p.next' ≠ 2147483647) (hl : p.snaps.length < 1000) : rpublish p l = (⟨p.next' + 1, p.snaps.filter (fun x => decide (0 < x.pins)) ++ [⟨p.next' + 1, 0, l⟩]⟩, p.next' + 1, 0) := by
  have hw : IntKind.i64.wrap (p.next' + 1) = p.next' + 1 := IntWalk.i64_in _ (by have := h.lo; have := h.hi; omega)
  have hle := List.length_filter_le (fun x : Snap => decide (0 < x.pins)) p.snaps
  unfold rpublish
  rw [rsane_of h, if_neg hm]
  simp only
  rw [if_neg (by omega), hw]
theorem rpublish_max {p : Pins} {l : List Res} (h : OkP p) (hm : p.next' = 2147483647) : rpublish p l = (p, 0, 14) := by
  unfold rpublish
  rw [rsane_of h, if_pos hm]
theorem fewPins_len {p : Pins} (h : fewPins p = true) : p.snaps.length ≤ 20 := by
  unfold fewPins at h
  simp only [Bool.and_eq_true, decide_eq_true_eq] at h
  exact h.2
/-- What is found behind a publish. -/
theorem rget_filter {p : Pins} {l : List Res} (h : OkP p) (hm : p.next' ≠ 2147483647) (hl : p.snaps.length < 1000) {k : Nat} (hk : k < p.snaps.length) :
    rget (rpublish p l).1 p.snaps[k].id = if 0 < p.snaps[k].pins then (p.snaps[k].l, true) else ([], false) := by
  have ho := okP_publish p l
  rw [rpublish_ok h hm hl] at ho ⊢
  split
  · rename_i hp
    have hmem : p.snaps[k] ∈ p.snaps.filter (fun x => decide (0 < x.pins)) ++ [⟨p.next' + 1, 0, l⟩] := List.mem_append_left _ (List.mem_filter.2 ⟨List.getElem_mem hk, by simpa using hp⟩)
    obtain ⟨j, hj, e⟩ := List.getElem_of_mem hmem
    have := rget_at ho (k := j) hj
    simp only [e] at this
    exact this
  · rename_i hp
    refine rget_none ho fun x hx e => ?_
    rcases List.mem_append.1 hx with hx | hx
    · obtain ⟨hx1, hx2⟩ := List.mem_filter.1 hx
      obtain ⟨j, hj, rfl⟩ := List.getElem_of_mem hx1
      have := up_one h.up hj hk e
      subst this
      exact hp (by simpa using hx2)
    · simp only [List.mem_singleton] at hx
      subst hx
      have := h.mem _ (List.getElem_mem hk)
      simp only at e
      omega

set_option maxRecDepth 30000 in
set_option maxHeartbeats 4000000 in
theorem next_c (next : Int) (xs : List Snap) (l : List Res) (hl : Small xs.length) (hs : ∀ x ∈ xs, SmSnap x) (hl2 : Small l.length) (hs2 : ∀ x ∈ l, SmRes x) : CallR Try.prog 7 [.agg [.int .i64 next, .slice false (avs xs)], .slice false (avs l)] (.val (.bool true)) := by
  have hpe := fun (p : Pins) (l : List Res) => ppublish_eq p l
  by_cases hf : fewPins ⟨next, xs⟩ = true
  rotate_left
  · refine CallR.go2 (T := T) Try.call7 Try.func7 rfl Try.ntmps7 (congrArg Array.toList Try.results7) (by decide) fun ts hn h0 h1 => ?_
    (repeat' (first
    | with_reducible refine callX.by awake_c ?_
    | with_reducible refine callX.by (few18_c _ _ ?_ ?_) ?_
    | with_reducible refine callX.by (few4_c _ ?_ ?_) ?_
    | with_reducible refine callX.by (pins1_c _ _ ?_) ?_
    | with_reducible refine callX.by (pSane_c _ _ ?_) ?_
    | with_reducible refine callX.by awc1 ?_
    | with_reducible refine callX.by awc3 ?_
    | with_reducible refine callX.by (ppublish_c _ _ _ ?_) ?_
    | with_reducible refine callX.by (kept_c _ _ ?_) ?_
    | with_reducible refine callX.by (rsame_c _ _ _ _ ?_ ?_) ?_
    | with_reducible refine callX.by (current_c _ _ ?_) ?_
    | with_reducible refine callX.by awc4 ?_
    | with_reducible refine callX.by awc6 ?_
    | with_reducible refine callX.by (pget_c _ _ _ ?_) ?_
    | with_reducible refine callX.by (all4_c _ _ ?_ ?_) ?_
    | with_reducible refine callX.by awc5 ?_
    | with_reducible refine callX.by (prelease_c _ _ _ ?_) ?_
    | with_reducible assumption
    | (with_reducible refine NxK.out hK _ ?_; clear hK K)
    | with_reducible refine NxK.out (by assumption) _ ?_
    | with_reducible refine Nx.out (by assumption) ?_
    | with_reducible refine SpecC.seqW fun K hK => ?_
    | with_reducible refine SpecC.regW T fun K hK => ?_
    | with_reducible refine SpecC.drawW (id := 6) T mixed [([43], [49, 50, 51, 52, 53, 54, 55, 56, 57, 58]), ([44], [54, 55, 56, 57, 58]), ([45], [48, 49, 50, 51, 52, 53, 54, 55, 56, 57, 58]), ([46], [49, 50, 51, 52, 53, 54, 55, 56, 57, 58]), ([47], [54, 55, 56, 57, 58]), ([48], [45]), ([49], [43, 45, 46, 52, 53, 54, 55, 56, 57, 58]), ([50], [43, 45, 46, 53, 54, 55, 56, 57, 58]), ([51], [43, 45, 46, 54, 55, 56, 57, 58]), ([52], [43, 45, 46, 49]), ([53], [43, 45, 46, 49, 50]), ([54], [43, 44, 45, 46, 47, 49, 50, 51, 56, 58]), ([55], [43, 44, 45, 46, 47, 49, 50, 51, 56]), ([56], [43, 44, 45, 46, 47, 49, 50, 51, 54, 55]), ([57], [43, 44, 45, 46, 47, 49, 50, 51]), ([58], [43, 44, 45, 46, 47, 49, 50, 51, 54])] (by kernel_rfl) fun K hK => ?_
    | with_reducible refine SpecC.drawW (id := 11) T mixed [([73], [74, 75, 76, 77, 78, 79, 81, 82]), ([74], [73, 76, 78, 79, 80, 72, 81, 82]), ([75], [73, 76, 79, 80, 72, 81, 82]), ([76], [73, 74, 75, 79, 80, 72, 81, 82]), ([77], [73, 80, 72, 81, 82]), ([78], [73, 74, 72, 81, 82]), ([79], [73, 74, 75, 76, 81, 82]), ([80], [74, 75, 76, 77]), ([72], [74, 75, 76, 77, 78]), ([81], [73, 74, 75, 76, 77, 78, 79, 82]), ([82], [73, 74, 75, 76, 77, 78, 79, 81, 13]), ([13], [82])] (by kernel_rfl) fun K hK => ?_
    | with_reducible refine SpecC.condW fun A B hA hB => ?_
    | with_reducible refine SpecC.block ?_
    | with_reducible refine SpecC.skip ?_
    | with_reducible refine SpecC.label ?_
    | with_reducible refine SpecC.exit ?_
    | with_reducible refine SpecC.goto ?_
    | with_reducible refine SpecC.ret ?_
    | ((with_reducible first | refine condK.split (fun hb => ?_) (fun hb => ?_) | refine gK.split_t (fun hb => ?_) (fun hb => ?_) | refine gK.split_f (fun hb => ?_) (fun hb => ?_)) <;> try simp only [decide_not, ilt_t, ilt_f, ile_t, ile_f, nlt_t, nlt_f, nle_t, nle_f, Bool.not_eq_true', Bool.not_eq_false', Int.ofNat_lt, Int.ofNat_le] at hb)
    | simp only [go_sem, ↓reduceIte, reduceIte, Nat.reduceEqDiff, String.reduceEq, Nat.reduceLT, Nat.reduceLeDiff, Nat.reduceAdd, Nat.reduceMul, Nat.reduceSub, Nat.reduceBEq, reduceCtorEq, *]
    | with_reducible refine fun (bn : Bool) hbn => ?_))
    all_goals simp_all
  by_cases hfl : fewAll l = true
  rotate_left
  · refine CallR.go2 (T := T) Try.call7 Try.func7 rfl Try.ntmps7 (congrArg Array.toList Try.results7) (by decide) fun ts hn h0 h1 => ?_
    (repeat' (first
    | with_reducible refine callX.by awake_c ?_
    | with_reducible refine callX.by (few18_c _ _ ?_ ?_) ?_
    | with_reducible refine callX.by (few4_c _ ?_ ?_) ?_
    | with_reducible refine callX.by (pins1_c _ _ ?_) ?_
    | with_reducible refine callX.by (pSane_c _ _ ?_) ?_
    | with_reducible refine callX.by awc1 ?_
    | with_reducible refine callX.by awc3 ?_
    | with_reducible refine callX.by (ppublish_c _ _ _ ?_) ?_
    | with_reducible refine callX.by (kept_c _ _ ?_) ?_
    | with_reducible refine callX.by (rsame_c _ _ _ _ ?_ ?_) ?_
    | with_reducible refine callX.by (current_c _ _ ?_) ?_
    | with_reducible refine callX.by awc4 ?_
    | with_reducible refine callX.by awc6 ?_
    | with_reducible refine callX.by (pget_c _ _ _ ?_) ?_
    | with_reducible refine callX.by (all4_c _ _ ?_ ?_) ?_
    | with_reducible refine callX.by awc5 ?_
    | with_reducible refine callX.by (prelease_c _ _ _ ?_) ?_
    | with_reducible assumption
    | (with_reducible refine NxK.out hK _ ?_; clear hK K)
    | with_reducible refine NxK.out (by assumption) _ ?_
    | with_reducible refine Nx.out (by assumption) ?_
    | with_reducible refine SpecC.seqW fun K hK => ?_
    | with_reducible refine SpecC.regW T fun K hK => ?_
    | with_reducible refine SpecC.drawW (id := 6) T mixed [([43], [49, 50, 51, 52, 53, 54, 55, 56, 57, 58]), ([44], [54, 55, 56, 57, 58]), ([45], [48, 49, 50, 51, 52, 53, 54, 55, 56, 57, 58]), ([46], [49, 50, 51, 52, 53, 54, 55, 56, 57, 58]), ([47], [54, 55, 56, 57, 58]), ([48], [45]), ([49], [43, 45, 46, 52, 53, 54, 55, 56, 57, 58]), ([50], [43, 45, 46, 53, 54, 55, 56, 57, 58]), ([51], [43, 45, 46, 54, 55, 56, 57, 58]), ([52], [43, 45, 46, 49]), ([53], [43, 45, 46, 49, 50]), ([54], [43, 44, 45, 46, 47, 49, 50, 51, 56, 58]), ([55], [43, 44, 45, 46, 47, 49, 50, 51, 56]), ([56], [43, 44, 45, 46, 47, 49, 50, 51, 54, 55]), ([57], [43, 44, 45, 46, 47, 49, 50, 51]), ([58], [43, 44, 45, 46, 47, 49, 50, 51, 54])] (by kernel_rfl) fun K hK => ?_
    | with_reducible refine SpecC.drawW (id := 11) T mixed [([73], [74, 75, 76, 77, 78, 79, 81, 82]), ([74], [73, 76, 78, 79, 80, 72, 81, 82]), ([75], [73, 76, 79, 80, 72, 81, 82]), ([76], [73, 74, 75, 79, 80, 72, 81, 82]), ([77], [73, 80, 72, 81, 82]), ([78], [73, 74, 72, 81, 82]), ([79], [73, 74, 75, 76, 81, 82]), ([80], [74, 75, 76, 77]), ([72], [74, 75, 76, 77, 78]), ([81], [73, 74, 75, 76, 77, 78, 79, 82]), ([82], [73, 74, 75, 76, 77, 78, 79, 81, 13]), ([13], [82])] (by kernel_rfl) fun K hK => ?_
    | with_reducible refine SpecC.condW fun A B hA hB => ?_
    | with_reducible refine SpecC.block ?_
    | with_reducible refine SpecC.skip ?_
    | with_reducible refine SpecC.label ?_
    | with_reducible refine SpecC.exit ?_
    | with_reducible refine SpecC.goto ?_
    | with_reducible refine SpecC.ret ?_
    | ((with_reducible first | refine condK.split (fun hb => ?_) (fun hb => ?_) | refine gK.split_t (fun hb => ?_) (fun hb => ?_) | refine gK.split_f (fun hb => ?_) (fun hb => ?_)) <;> try simp only [decide_not, ilt_t, ilt_f, ile_t, ile_f, nlt_t, nlt_f, nle_t, nle_f, Bool.not_eq_true', Bool.not_eq_false', Int.ofNat_lt, Int.ofNat_le] at hb)
    | simp only [go_sem, ↓reduceIte, reduceIte, Nat.reduceEqDiff, String.reduceEq, Nat.reduceLT, Nat.reduceLeDiff, Nat.reduceAdd, Nat.reduceMul, Nat.reduceSub, Nat.reduceBEq, reduceCtorEq, *]
    | with_reducible refine fun (bn : Bool) hbn => ?_))
    all_goals simp_all
  by_cases hps : pSane ⟨next, xs⟩ = true
  rotate_left
  · refine CallR.go2 (T := T) Try.call7 Try.func7 rfl Try.ntmps7 (congrArg Array.toList Try.results7) (by decide) fun ts hn h0 h1 => ?_
    (repeat' (first
    | with_reducible refine callX.by awake_c ?_
    | with_reducible refine callX.by (few18_c _ _ ?_ ?_) ?_
    | with_reducible refine callX.by (few4_c _ ?_ ?_) ?_
    | with_reducible refine callX.by (pins1_c _ _ ?_) ?_
    | with_reducible refine callX.by (pSane_c _ _ ?_) ?_
    | with_reducible refine callX.by awc1 ?_
    | with_reducible refine callX.by awc3 ?_
    | with_reducible refine callX.by (ppublish_c _ _ _ ?_) ?_
    | with_reducible refine callX.by (kept_c _ _ ?_) ?_
    | with_reducible refine callX.by (rsame_c _ _ _ _ ?_ ?_) ?_
    | with_reducible refine callX.by (current_c _ _ ?_) ?_
    | with_reducible refine callX.by awc4 ?_
    | with_reducible refine callX.by awc6 ?_
    | with_reducible refine callX.by (pget_c _ _ _ ?_) ?_
    | with_reducible refine callX.by (all4_c _ _ ?_ ?_) ?_
    | with_reducible refine callX.by awc5 ?_
    | with_reducible refine callX.by (prelease_c _ _ _ ?_) ?_
    | with_reducible assumption
    | (with_reducible refine NxK.out hK _ ?_; clear hK K)
    | with_reducible refine NxK.out (by assumption) _ ?_
    | with_reducible refine Nx.out (by assumption) ?_
    | with_reducible refine SpecC.seqW fun K hK => ?_
    | with_reducible refine SpecC.regW T fun K hK => ?_
    | with_reducible refine SpecC.drawW (id := 6) T mixed [([43], [49, 50, 51, 52, 53, 54, 55, 56, 57, 58]), ([44], [54, 55, 56, 57, 58]), ([45], [48, 49, 50, 51, 52, 53, 54, 55, 56, 57, 58]), ([46], [49, 50, 51, 52, 53, 54, 55, 56, 57, 58]), ([47], [54, 55, 56, 57, 58]), ([48], [45]), ([49], [43, 45, 46, 52, 53, 54, 55, 56, 57, 58]), ([50], [43, 45, 46, 53, 54, 55, 56, 57, 58]), ([51], [43, 45, 46, 54, 55, 56, 57, 58]), ([52], [43, 45, 46, 49]), ([53], [43, 45, 46, 49, 50]), ([54], [43, 44, 45, 46, 47, 49, 50, 51, 56, 58]), ([55], [43, 44, 45, 46, 47, 49, 50, 51, 56]), ([56], [43, 44, 45, 46, 47, 49, 50, 51, 54, 55]), ([57], [43, 44, 45, 46, 47, 49, 50, 51]), ([58], [43, 44, 45, 46, 47, 49, 50, 51, 54])] (by kernel_rfl) fun K hK => ?_
    | with_reducible refine SpecC.drawW (id := 11) T mixed [([73], [74, 75, 76, 77, 78, 79, 81, 82]), ([74], [73, 76, 78, 79, 80, 72, 81, 82]), ([75], [73, 76, 79, 80, 72, 81, 82]), ([76], [73, 74, 75, 79, 80, 72, 81, 82]), ([77], [73, 80, 72, 81, 82]), ([78], [73, 74, 72, 81, 82]), ([79], [73, 74, 75, 76, 81, 82]), ([80], [74, 75, 76, 77]), ([72], [74, 75, 76, 77, 78]), ([81], [73, 74, 75, 76, 77, 78, 79, 82]), ([82], [73, 74, 75, 76, 77, 78, 79, 81, 13]), ([13], [82])] (by kernel_rfl) fun K hK => ?_
    | with_reducible refine SpecC.condW fun A B hA hB => ?_
    | with_reducible refine SpecC.block ?_
    | with_reducible refine SpecC.skip ?_
    | with_reducible refine SpecC.label ?_
    | with_reducible refine SpecC.exit ?_
    | with_reducible refine SpecC.goto ?_
    | with_reducible refine SpecC.ret ?_
    | ((with_reducible first | refine condK.split (fun hb => ?_) (fun hb => ?_) | refine gK.split_t (fun hb => ?_) (fun hb => ?_) | refine gK.split_f (fun hb => ?_) (fun hb => ?_)) <;> try simp only [decide_not, ilt_t, ilt_f, ile_t, ile_f, nlt_t, nlt_f, nle_t, nle_f, Bool.not_eq_true', Bool.not_eq_false', Int.ofNat_lt, Int.ofNat_le] at hb)
    | simp only [go_sem, ↓reduceIte, reduceIte, Nat.reduceEqDiff, String.reduceEq, Nat.reduceLT, Nat.reduceLeDiff, Nat.reduceAdd, Nat.reduceMul, Nat.reduceSub, Nat.reduceBEq, reduceCtorEq, *]
    | with_reducible refine fun (bn : Bool) hbn => ?_))
    all_goals simp_all
  have hok := (pSane_iff _).1 hps
  have hlen : xs.length ≤ 20 := fewPins_len hf
  by_cases hm : next = 2147483647
  · subst hm
    have hpub := rpublish_max (l := l) hok rfl
    rw [← ppublish_eq] at hpub
    clear hpe
    refine CallR.go2 (T := T) Try.call7 Try.func7 rfl Try.ntmps7 (congrArg Array.toList Try.results7) (by decide) fun ts hn h0 h1 => ?_
    (repeat' (first
    | with_reducible refine callX.by awake_c ?_
    | with_reducible refine callX.by (few18_c _ _ ?_ ?_) ?_
    | with_reducible refine callX.by (few4_c _ ?_ ?_) ?_
    | with_reducible refine callX.by (pins1_c _ _ ?_) ?_
    | with_reducible refine callX.by (pSane_c _ _ ?_) ?_
    | with_reducible refine callX.by awc1 ?_
    | with_reducible refine callX.by awc3 ?_
    | with_reducible refine callX.by (ppublish_c _ _ _ ?_) ?_
    | with_reducible refine callX.by (kept_c _ _ ?_) ?_
    | with_reducible refine callX.by (rsame_c _ _ _ _ ?_ ?_) ?_
    | with_reducible refine callX.by (current_c _ _ ?_) ?_
    | with_reducible refine callX.by awc4 ?_
    | with_reducible refine callX.by awc6 ?_
    | with_reducible refine callX.by (pget_c _ _ _ ?_) ?_
    | with_reducible refine callX.by (all4_c _ _ ?_ ?_) ?_
    | with_reducible refine callX.by awc5 ?_
    | with_reducible refine callX.by (prelease_c _ _ _ ?_) ?_
    | with_reducible assumption
    | (with_reducible refine NxK.out hK _ ?_; clear hK K)
    | with_reducible refine NxK.out (by assumption) _ ?_
    | with_reducible refine Nx.out (by assumption) ?_
    | with_reducible refine SpecC.seqW fun K hK => ?_
    | with_reducible refine SpecC.regW T fun K hK => ?_
    | with_reducible refine SpecC.drawW (id := 6) T mixed [([43], [49, 50, 51, 52, 53, 54, 55, 56, 57, 58]), ([44], [54, 55, 56, 57, 58]), ([45], [48, 49, 50, 51, 52, 53, 54, 55, 56, 57, 58]), ([46], [49, 50, 51, 52, 53, 54, 55, 56, 57, 58]), ([47], [54, 55, 56, 57, 58]), ([48], [45]), ([49], [43, 45, 46, 52, 53, 54, 55, 56, 57, 58]), ([50], [43, 45, 46, 53, 54, 55, 56, 57, 58]), ([51], [43, 45, 46, 54, 55, 56, 57, 58]), ([52], [43, 45, 46, 49]), ([53], [43, 45, 46, 49, 50]), ([54], [43, 44, 45, 46, 47, 49, 50, 51, 56, 58]), ([55], [43, 44, 45, 46, 47, 49, 50, 51, 56]), ([56], [43, 44, 45, 46, 47, 49, 50, 51, 54, 55]), ([57], [43, 44, 45, 46, 47, 49, 50, 51]), ([58], [43, 44, 45, 46, 47, 49, 50, 51, 54])] (by kernel_rfl) fun K hK => ?_
    | with_reducible refine SpecC.drawW (id := 11) T mixed [([73], [74, 75, 76, 77, 78, 79, 81, 82]), ([74], [73, 76, 78, 79, 80, 72, 81, 82]), ([75], [73, 76, 79, 80, 72, 81, 82]), ([76], [73, 74, 75, 79, 80, 72, 81, 82]), ([77], [73, 80, 72, 81, 82]), ([78], [73, 74, 72, 81, 82]), ([79], [73, 74, 75, 76, 81, 82]), ([80], [74, 75, 76, 77]), ([72], [74, 75, 76, 77, 78]), ([81], [73, 74, 75, 76, 77, 78, 79, 82]), ([82], [73, 74, 75, 76, 77, 78, 79, 81, 13]), ([13], [82])] (by kernel_rfl) fun K hK => ?_
    | with_reducible refine SpecC.condW fun A B hA hB => ?_
    | with_reducible refine SpecC.block ?_
    | with_reducible refine SpecC.skip ?_
    | with_reducible refine SpecC.label ?_
    | with_reducible refine SpecC.exit ?_
    | with_reducible refine SpecC.goto ?_
    | with_reducible refine SpecC.ret ?_
    | ((with_reducible first | refine condK.split (fun hb => ?_) (fun hb => ?_) | refine gK.split_t (fun hb => ?_) (fun hb => ?_) | refine gK.split_f (fun hb => ?_) (fun hb => ?_)) <;> try simp only [decide_not, ilt_t, ilt_f, ile_t, ile_f, nlt_t, nlt_f, nle_t, nle_f, Bool.not_eq_true', Bool.not_eq_false', Int.ofNat_lt, Int.ofNat_le] at hb)
    | simp only [go_sem, ↓reduceIte, reduceIte, Nat.reduceEqDiff, String.reduceEq, Nat.reduceLT, Nat.reduceLeDiff, Nat.reduceAdd, Nat.reduceMul, Nat.reduceSub, Nat.reduceBEq, reduceCtorEq, *, Int.reduceEq]
    | with_reducible refine fun (bn : Bool) hbn => ?_))
  · have hget := fun k (hk : k < xs.length) => rget_filter (l := l) hok hm (by simp only; omega) (k := k) hk
    have ho := okP_publish ⟨next, xs⟩ l
    have hsm := smP_publish (p := ⟨next, xs⟩) hs hl2 hs2
    rw [rpublish_ok hok hm (by simp only; omega)] at hget ho hsm
    have hpub := rpublish_ok (l := l) hok hm (by simp only; omega)
    rw [← ppublish_eq] at hpub
    simp only at hpub hget ho hsm
    have hlo := hok.lo
    have hhi := hok.hi
    simp only at hlo hhi
    have hw : IntKind.i64.wrap (next + 1) = next + 1 := IntWalk.i64_in _ (by omega)
    have hcur : pcurrent ⟨next + 1, xs.filter (fun x => decide (0 < x.pins)) ++ [⟨next + 1, 0, l⟩]⟩ = (next + 1, l, true) := by
      rw [pcurrent_eq, rcurrent, rsane_of ho]; simp
    have hrel : prelease ⟨next + 1, xs.filter (fun x => decide (0 < x.pins)) ++ [⟨next + 1, 0, l⟩]⟩ (next + 1) = (⟨next + 1, xs.filter (fun x => decide (0 < x.pins)) ++ [⟨next + 1, 0, l⟩]⟩, 15) := by
      rw [prelease_eq]
      have := rrelease_at ho (k := (xs.filter (fun x => decide (0 < x.pins))).length) (by simp)
      simpa using this
    have hQ := ho.small
    simp only at hQ
    clear hpe
    generalize hL : xs.filter (fun x => decide (0 < x.pins)) ++ [⟨next + 1, 0, l⟩] = L at *
    refine CallR.go2 (T := T) Try.call7 Try.func7 rfl Try.ntmps7 (congrArg Array.toList Try.results7) (by decide) fun ts hn h0 h1 => ?_
    (repeat' (first
    | with_reducible refine callX.by awake_c ?_
    | with_reducible refine callX.by (few18_c _ _ ?_ ?_) ?_
    | with_reducible refine callX.by (few4_c _ ?_ ?_) ?_
    | with_reducible refine callX.by (pins1_c _ _ ?_) ?_
    | with_reducible refine callX.by (pSane_c _ _ ?_) ?_
    | with_reducible refine callX.by awc1 ?_
    | with_reducible refine callX.by awc3 ?_
    | with_reducible refine callX.by (ppublish_c _ _ _ ?_) ?_
    | with_reducible refine callX.by (kept_c _ _ ?_) ?_
    | with_reducible refine callX.by (rsame_c _ _ _ _ ?_ ?_) ?_
    | with_reducible refine callX.by (current_c _ _ ?_) ?_
    | with_reducible refine callX.by awc4 ?_
    | with_reducible refine callX.by awc6 ?_
    | with_reducible refine callX.by (pget_c _ _ _ ?_) ?_
    | with_reducible refine callX.by (all4_c _ _ ?_ ?_) ?_
    | with_reducible refine callX.by awc5 ?_
    | with_reducible refine callX.by (prelease_c _ _ _ ?_) ?_
    | with_reducible assumption
    | (with_reducible refine NxK.out hK _ ?_; clear hK K)
    | with_reducible refine NxK.out (by assumption) _ ?_
    | with_reducible refine Nx.out (by assumption) ?_
    | with_reducible refine SpecC.seqW fun K hK => ?_
    | with_reducible refine SpecC.regW T fun K hK => ?_
    | with_reducible refine SpecC.drawW (id := 6) T mixed [([43], [49, 50, 51, 52, 53, 54, 55, 56, 57, 58]), ([44], [54, 55, 56, 57, 58]), ([45], [48, 49, 50, 51, 52, 53, 54, 55, 56, 57, 58]), ([46], [49, 50, 51, 52, 53, 54, 55, 56, 57, 58]), ([47], [54, 55, 56, 57, 58]), ([48], [45]), ([49], [43, 45, 46, 52, 53, 54, 55, 56, 57, 58]), ([50], [43, 45, 46, 53, 54, 55, 56, 57, 58]), ([51], [43, 45, 46, 54, 55, 56, 57, 58]), ([52], [43, 45, 46, 49]), ([53], [43, 45, 46, 49, 50]), ([54], [43, 44, 45, 46, 47, 49, 50, 51, 56, 58]), ([55], [43, 44, 45, 46, 47, 49, 50, 51, 56]), ([56], [43, 44, 45, 46, 47, 49, 50, 51, 54, 55]), ([57], [43, 44, 45, 46, 47, 49, 50, 51]), ([58], [43, 44, 45, 46, 47, 49, 50, 51, 54])] (by kernel_rfl) fun K hK => ?_
    | with_reducible refine SpecC.drawW (id := 11) T mixed [([73], [74, 75, 76, 77, 78, 79, 81, 82]), ([74], [73, 76, 78, 79, 80, 72, 81, 82]), ([75], [73, 76, 79, 80, 72, 81, 82]), ([76], [73, 74, 75, 79, 80, 72, 81, 82]), ([77], [73, 80, 72, 81, 82]), ([78], [73, 74, 72, 81, 82]), ([79], [73, 74, 75, 76, 81, 82]), ([80], [74, 75, 76, 77]), ([72], [74, 75, 76, 77, 78]), ([81], [73, 74, 75, 76, 77, 78, 79, 82]), ([82], [73, 74, 75, 76, 77, 78, 79, 81, 13]), ([13], [82])] (by kernel_rfl) fun K hK => ?_
    | with_reducible refine SpecC.condW fun A B hA hB => ?_
    | with_reducible refine SpecC.block ?_
    | with_reducible refine SpecC.skip ?_
    | with_reducible refine SpecC.label ?_
    | with_reducible refine SpecC.exit ?_
    | with_reducible refine SpecC.goto ?_
    | with_reducible refine SpecC.ret ?_
    | ((with_reducible first | refine condK.split (fun hb => ?_) (fun hb => ?_) | refine gK.split_t (fun hb => ?_) (fun hb => ?_) | refine gK.split_f (fun hb => ?_) (fun hb => ?_)) <;> try simp only [decide_not, ilt_t, ilt_f, ile_t, ile_f, nlt_t, nlt_f, nle_t, nle_f, Bool.not_eq_true', Bool.not_eq_false', Int.ofNat_lt, Int.ofNat_le] at hb)
    | simp only [go_sem, ↓reduceIte, reduceIte, Nat.reduceEqDiff, String.reduceEq, Nat.reduceLT, Nat.reduceLeDiff, Nat.reduceAdd, Nat.reduceMul, Nat.reduceSub, Nat.reduceBEq, reduceCtorEq, *, -hget, -ho, -hsm, -hok]
    | with_reducible refine fun (bn : Bool) hbn => ?_))
    refine SpecC.loopF [1, 2, 5, 6, 7, 9, 10, 11] (fun m ts' => ∃ (i : Nat), m = xs.length - i ∧ i ≤ xs.length ∧ ts'.tmp 12 = .int .i64 i) xs.length ?_ ?_
    · refine ⟨0, ?_⟩
      simp only [go_sem, ↓reduceIte, reduceIte, Nat.reduceEqDiff, String.reduceEq, Nat.reduceLT, Nat.reduceLeDiff, Nat.reduceAdd, Nat.reduceMul, Nat.reduceSub, Nat.reduceBEq, reduceCtorEq, *, -hget, -ho, -hsm, -hok]
    · rintro m A hM ts' hk ⟨i, hm, f1, s1⟩
      simp only [go_sem, ↓reduceIte, reduceIte, Nat.reduceEqDiff, String.reduceEq, Nat.reduceLT, Nat.reduceLeDiff, Nat.reduceAdd, Nat.reduceMul, Nat.reduceSub, Nat.reduceBEq, reduceCtorEq, *] at hk
      by_cases hlt : i < xs.length
      · obtain ⟨hsi, hsj⟩ := hs _ (List.getElem_mem hlt)
        have hgi := hget i hlt
        rw [← pget_eq] at hgi
        by_cases hpi : 0 < xs[i].pins
        · rw [if_pos hpi] at hgi
          (repeat' (first
    | with_reducible refine callX.by awake_c ?_
    | with_reducible refine callX.by (few18_c _ _ ?_ ?_) ?_
    | with_reducible refine callX.by (few4_c _ ?_ ?_) ?_
    | with_reducible refine callX.by (pins1_c _ _ ?_) ?_
    | with_reducible refine callX.by (pSane_c _ _ ?_) ?_
    | with_reducible refine callX.by awc1 ?_
    | with_reducible refine callX.by awc3 ?_
    | with_reducible refine callX.by (ppublish_c _ _ _ ?_) ?_
    | with_reducible refine callX.by (kept_c _ _ ?_) ?_
    | with_reducible refine callX.by (rsame_c _ _ _ _ ?_ ?_) ?_
    | with_reducible refine callX.by (current_c _ _ ?_) ?_
    | with_reducible refine callX.by awc4 ?_
    | with_reducible refine callX.by awc6 ?_
    | with_reducible refine callX.by (pget_c _ _ _ ?_) ?_
    | with_reducible refine callX.by (all4_c _ _ ?_ ?_) ?_
    | with_reducible refine callX.by awc5 ?_
    | with_reducible refine callX.by (prelease_c _ _ _ ?_) ?_
    | with_reducible assumption
    | (with_reducible refine NxK.out hK _ ?_; clear hK K)
    | with_reducible refine NxK.out (by assumption) _ ?_
    | with_reducible refine Nx.out (by assumption) ?_
    | with_reducible refine SpecC.seqW fun K hK => ?_
    | with_reducible refine SpecC.regW T fun K hK => ?_
    | with_reducible refine SpecC.drawW (id := 6) T mixed [([43], [49, 50, 51, 52, 53, 54, 55, 56, 57, 58]), ([44], [54, 55, 56, 57, 58]), ([45], [48, 49, 50, 51, 52, 53, 54, 55, 56, 57, 58]), ([46], [49, 50, 51, 52, 53, 54, 55, 56, 57, 58]), ([47], [54, 55, 56, 57, 58]), ([48], [45]), ([49], [43, 45, 46, 52, 53, 54, 55, 56, 57, 58]), ([50], [43, 45, 46, 53, 54, 55, 56, 57, 58]), ([51], [43, 45, 46, 54, 55, 56, 57, 58]), ([52], [43, 45, 46, 49]), ([53], [43, 45, 46, 49, 50]), ([54], [43, 44, 45, 46, 47, 49, 50, 51, 56, 58]), ([55], [43, 44, 45, 46, 47, 49, 50, 51, 56]), ([56], [43, 44, 45, 46, 47, 49, 50, 51, 54, 55]), ([57], [43, 44, 45, 46, 47, 49, 50, 51]), ([58], [43, 44, 45, 46, 47, 49, 50, 51, 54])] (by kernel_rfl) fun K hK => ?_
    | with_reducible refine SpecC.drawW (id := 11) T mixed [([73], [74, 75, 76, 77, 78, 79, 81, 82]), ([74], [73, 76, 78, 79, 80, 72, 81, 82]), ([75], [73, 76, 79, 80, 72, 81, 82]), ([76], [73, 74, 75, 79, 80, 72, 81, 82]), ([77], [73, 80, 72, 81, 82]), ([78], [73, 74, 72, 81, 82]), ([79], [73, 74, 75, 76, 81, 82]), ([80], [74, 75, 76, 77]), ([72], [74, 75, 76, 77, 78]), ([81], [73, 74, 75, 76, 77, 78, 79, 82]), ([82], [73, 74, 75, 76, 77, 78, 79, 81, 13]), ([13], [82])] (by kernel_rfl) fun K hK => ?_
    | with_reducible refine SpecC.condW fun A B hA hB => ?_
    | with_reducible refine SpecC.block ?_
    | with_reducible refine SpecC.skip ?_
    | with_reducible refine SpecC.label ?_
    | with_reducible refine SpecC.exit ?_
    | with_reducible refine SpecC.goto ?_
    | with_reducible refine SpecC.ret ?_
    | ((with_reducible first | refine condK.split (fun hb => ?_) (fun hb => ?_) | refine gK.split_t (fun hb => ?_) (fun hb => ?_) | refine gK.split_f (fun hb => ?_) (fun hb => ?_)) <;> try simp only [decide_not, ilt_t, ilt_f, ile_t, ile_f, nlt_t, nlt_f, nle_t, nle_f, Bool.not_eq_true', Bool.not_eq_false', Int.ofNat_lt, Int.ofNat_le] at hb)
    | simp only [go_sem, ↓reduceIte, reduceIte, Nat.reduceEqDiff, String.reduceEq, Nat.reduceLT, Nat.reduceLeDiff, Nat.reduceAdd, Nat.reduceMul, Nat.reduceSub, Nat.reduceBEq, reduceCtorEq, *, -hget, -ho, -hsm, -hok]
    | with_reducible refine fun (bn : Bool) hbn => ?_))
          all_goals ((repeat clear hK); (repeat clear hA); (repeat clear hB))
          all_goals (refine hM.on (xs.length - (i + 1)) (by omega) (by simp only [go_sem, ↓reduceIte, reduceIte, Nat.reduceEqDiff, String.reduceEq, Nat.reduceLT, Nat.reduceLeDiff, Nat.reduceAdd, Nat.reduceMul, Nat.reduceSub, Nat.reduceBEq, reduceCtorEq, *, w64_nat hlt hl, -hget, -ho, -hsm, -hok]) ⟨i + 1, rfl, by omega, ?_⟩; simp only [go_sem, ↓reduceIte, reduceIte, Nat.reduceEqDiff, String.reduceEq, Nat.reduceLT, Nat.reduceLeDiff, Nat.reduceAdd, Nat.reduceMul, Nat.reduceSub, Nat.reduceBEq, reduceCtorEq, *, w64_nat hlt hl, -hget, -ho, -hsm, -hok]; done)
        · rw [if_neg hpi] at hgi
          (repeat' (first
    | with_reducible refine callX.by awake_c ?_
    | with_reducible refine callX.by (few18_c _ _ ?_ ?_) ?_
    | with_reducible refine callX.by (few4_c _ ?_ ?_) ?_
    | with_reducible refine callX.by (pins1_c _ _ ?_) ?_
    | with_reducible refine callX.by (pSane_c _ _ ?_) ?_
    | with_reducible refine callX.by awc1 ?_
    | with_reducible refine callX.by awc3 ?_
    | with_reducible refine callX.by (ppublish_c _ _ _ ?_) ?_
    | with_reducible refine callX.by (kept_c _ _ ?_) ?_
    | with_reducible refine callX.by (rsame_c _ _ _ _ ?_ ?_) ?_
    | with_reducible refine callX.by (current_c _ _ ?_) ?_
    | with_reducible refine callX.by awc4 ?_
    | with_reducible refine callX.by awc6 ?_
    | with_reducible refine callX.by (pget_c _ _ _ ?_) ?_
    | with_reducible refine callX.by (all4_c _ _ ?_ ?_) ?_
    | with_reducible refine callX.by awc5 ?_
    | with_reducible refine callX.by (prelease_c _ _ _ ?_) ?_
    | with_reducible assumption
    | (with_reducible refine NxK.out hK _ ?_; clear hK K)
    | with_reducible refine NxK.out (by assumption) _ ?_
    | with_reducible refine Nx.out (by assumption) ?_
    | with_reducible refine SpecC.seqW fun K hK => ?_
    | with_reducible refine SpecC.regW T fun K hK => ?_
    | with_reducible refine SpecC.drawW (id := 6) T mixed [([43], [49, 50, 51, 52, 53, 54, 55, 56, 57, 58]), ([44], [54, 55, 56, 57, 58]), ([45], [48, 49, 50, 51, 52, 53, 54, 55, 56, 57, 58]), ([46], [49, 50, 51, 52, 53, 54, 55, 56, 57, 58]), ([47], [54, 55, 56, 57, 58]), ([48], [45]), ([49], [43, 45, 46, 52, 53, 54, 55, 56, 57, 58]), ([50], [43, 45, 46, 53, 54, 55, 56, 57, 58]), ([51], [43, 45, 46, 54, 55, 56, 57, 58]), ([52], [43, 45, 46, 49]), ([53], [43, 45, 46, 49, 50]), ([54], [43, 44, 45, 46, 47, 49, 50, 51, 56, 58]), ([55], [43, 44, 45, 46, 47, 49, 50, 51, 56]), ([56], [43, 44, 45, 46, 47, 49, 50, 51, 54, 55]), ([57], [43, 44, 45, 46, 47, 49, 50, 51]), ([58], [43, 44, 45, 46, 47, 49, 50, 51, 54])] (by kernel_rfl) fun K hK => ?_
    | with_reducible refine SpecC.drawW (id := 11) T mixed [([73], [74, 75, 76, 77, 78, 79, 81, 82]), ([74], [73, 76, 78, 79, 80, 72, 81, 82]), ([75], [73, 76, 79, 80, 72, 81, 82]), ([76], [73, 74, 75, 79, 80, 72, 81, 82]), ([77], [73, 80, 72, 81, 82]), ([78], [73, 74, 72, 81, 82]), ([79], [73, 74, 75, 76, 81, 82]), ([80], [74, 75, 76, 77]), ([72], [74, 75, 76, 77, 78]), ([81], [73, 74, 75, 76, 77, 78, 79, 82]), ([82], [73, 74, 75, 76, 77, 78, 79, 81, 13]), ([13], [82])] (by kernel_rfl) fun K hK => ?_
    | with_reducible refine SpecC.condW fun A B hA hB => ?_
    | with_reducible refine SpecC.block ?_
    | with_reducible refine SpecC.skip ?_
    | with_reducible refine SpecC.label ?_
    | with_reducible refine SpecC.exit ?_
    | with_reducible refine SpecC.goto ?_
    | with_reducible refine SpecC.ret ?_
    | ((with_reducible first | refine condK.split (fun hb => ?_) (fun hb => ?_) | refine gK.split_t (fun hb => ?_) (fun hb => ?_) | refine gK.split_f (fun hb => ?_) (fun hb => ?_)) <;> try simp only [decide_not, ilt_t, ilt_f, ile_t, ile_f, nlt_t, nlt_f, nle_t, nle_f, Bool.not_eq_true', Bool.not_eq_false', Int.ofNat_lt, Int.ofNat_le] at hb)
    | simp only [go_sem, ↓reduceIte, reduceIte, Nat.reduceEqDiff, String.reduceEq, Nat.reduceLT, Nat.reduceLeDiff, Nat.reduceAdd, Nat.reduceMul, Nat.reduceSub, Nat.reduceBEq, reduceCtorEq, *, -hget, -ho, -hsm, -hok]
    | with_reducible refine fun (bn : Bool) hbn => ?_))
          all_goals ((repeat clear hK); (repeat clear hA); (repeat clear hB))
          all_goals (refine hM.on (xs.length - (i + 1)) (by omega) (by simp only [go_sem, ↓reduceIte, reduceIte, Nat.reduceEqDiff, String.reduceEq, Nat.reduceLT, Nat.reduceLeDiff, Nat.reduceAdd, Nat.reduceMul, Nat.reduceSub, Nat.reduceBEq, reduceCtorEq, *, w64_nat hlt hl, -hget, -ho, -hsm, -hok]) ⟨i + 1, rfl, by omega, ?_⟩; simp only [go_sem, ↓reduceIte, reduceIte, Nat.reduceEqDiff, String.reduceEq, Nat.reduceLT, Nat.reduceLeDiff, Nat.reduceAdd, Nat.reduceMul, Nat.reduceSub, Nat.reduceBEq, reduceCtorEq, *, w64_nat hlt hl, -hget, -ho, -hsm, -hok]; done)
      · (repeat' (first
    | with_reducible refine callX.by awake_c ?_
    | with_reducible refine callX.by (few18_c _ _ ?_ ?_) ?_
    | with_reducible refine callX.by (few4_c _ ?_ ?_) ?_
    | with_reducible refine callX.by (pins1_c _ _ ?_) ?_
    | with_reducible refine callX.by (pSane_c _ _ ?_) ?_
    | with_reducible refine callX.by awc1 ?_
    | with_reducible refine callX.by awc3 ?_
    | with_reducible refine callX.by (ppublish_c _ _ _ ?_) ?_
    | with_reducible refine callX.by (kept_c _ _ ?_) ?_
    | with_reducible refine callX.by (rsame_c _ _ _ _ ?_ ?_) ?_
    | with_reducible refine callX.by (current_c _ _ ?_) ?_
    | with_reducible refine callX.by awc4 ?_
    | with_reducible refine callX.by awc6 ?_
    | with_reducible refine callX.by (pget_c _ _ _ ?_) ?_
    | with_reducible refine callX.by (all4_c _ _ ?_ ?_) ?_
    | with_reducible refine callX.by awc5 ?_
    | with_reducible refine callX.by (prelease_c _ _ _ ?_) ?_
    | with_reducible assumption
    | (with_reducible refine NxK.out hK _ ?_; clear hK K)
    | with_reducible refine NxK.out (by assumption) _ ?_
    | with_reducible refine Nx.out (by assumption) ?_
    | with_reducible refine SpecC.seqW fun K hK => ?_
    | with_reducible refine SpecC.regW T fun K hK => ?_
    | with_reducible refine SpecC.drawW (id := 6) T mixed [([43], [49, 50, 51, 52, 53, 54, 55, 56, 57, 58]), ([44], [54, 55, 56, 57, 58]), ([45], [48, 49, 50, 51, 52, 53, 54, 55, 56, 57, 58]), ([46], [49, 50, 51, 52, 53, 54, 55, 56, 57, 58]), ([47], [54, 55, 56, 57, 58]), ([48], [45]), ([49], [43, 45, 46, 52, 53, 54, 55, 56, 57, 58]), ([50], [43, 45, 46, 53, 54, 55, 56, 57, 58]), ([51], [43, 45, 46, 54, 55, 56, 57, 58]), ([52], [43, 45, 46, 49]), ([53], [43, 45, 46, 49, 50]), ([54], [43, 44, 45, 46, 47, 49, 50, 51, 56, 58]), ([55], [43, 44, 45, 46, 47, 49, 50, 51, 56]), ([56], [43, 44, 45, 46, 47, 49, 50, 51, 54, 55]), ([57], [43, 44, 45, 46, 47, 49, 50, 51]), ([58], [43, 44, 45, 46, 47, 49, 50, 51, 54])] (by kernel_rfl) fun K hK => ?_
    | with_reducible refine SpecC.drawW (id := 11) T mixed [([73], [74, 75, 76, 77, 78, 79, 81, 82]), ([74], [73, 76, 78, 79, 80, 72, 81, 82]), ([75], [73, 76, 79, 80, 72, 81, 82]), ([76], [73, 74, 75, 79, 80, 72, 81, 82]), ([77], [73, 80, 72, 81, 82]), ([78], [73, 74, 72, 81, 82]), ([79], [73, 74, 75, 76, 81, 82]), ([80], [74, 75, 76, 77]), ([72], [74, 75, 76, 77, 78]), ([81], [73, 74, 75, 76, 77, 78, 79, 82]), ([82], [73, 74, 75, 76, 77, 78, 79, 81, 13]), ([13], [82])] (by kernel_rfl) fun K hK => ?_
    | with_reducible refine SpecC.condW fun A B hA hB => ?_
    | with_reducible refine SpecC.block ?_
    | with_reducible refine SpecC.skip ?_
    | with_reducible refine SpecC.label ?_
    | with_reducible refine SpecC.exit ?_
    | with_reducible refine SpecC.goto ?_
    | with_reducible refine SpecC.ret ?_
    | ((with_reducible first | refine condK.split (fun hb => ?_) (fun hb => ?_) | refine gK.split_t (fun hb => ?_) (fun hb => ?_) | refine gK.split_f (fun hb => ?_) (fun hb => ?_)) <;> try simp only [decide_not, ilt_t, ilt_f, ile_t, ile_f, nlt_t, nlt_f, nle_t, nle_f, Bool.not_eq_true', Bool.not_eq_false', Int.ofNat_lt, Int.ofNat_le] at hb)
    | simp only [go_sem, ↓reduceIte, reduceIte, Nat.reduceEqDiff, String.reduceEq, Nat.reduceLT, Nat.reduceLeDiff, Nat.reduceAdd, Nat.reduceMul, Nat.reduceSub, Nat.reduceBEq, reduceCtorEq, *, -hget, -ho, -hsm, -hok]
    | with_reducible refine fun (bn : Bool) hbn => ?_))
end Go.Proofs.Ytjmnokbbodcaaaa.Lg
