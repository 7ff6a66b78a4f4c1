/- ref18: Publish, Pin, Release, Get, Current, Same, Few. -/
import Derived.Test.YtjmnokbbodcaaaaP9
namespace Go.Proofs.Ytjmnokbbodcaaaa.Lg
set_option linter.unusedVariables false
set_option linter.unusedSimpArgs false
open Go

def rpublish (p : Pins) (l : List Res) : Pins × Int × Int :=
  let q := rsane p
  if q.next' = 2147483647 then (q, 0, 14) else
    let s := q.snaps.filter fun x => decide (0 < x.pins)
    if 1000 ≤ s.length then (q, 0, 8) else
      (⟨IntKind.i64.wrap (q.next' + 1), s ++ [⟨IntKind.i64.wrap (q.next' + 1), 0, l⟩]⟩, IntKind.i64.wrap (q.next' + 1), 0)

set_option maxRecDepth 30000 in
theorem rpublish_c (next : Int) (xs : List Snap) (l : List Res) (hl : Small xs.length) : CallR Try.prog 24 [.agg [.int .i64 next, .slice false (avs xs)], .slice false (avs l)] (.val (.tup [Dat.av (rpublish ⟨next, xs⟩ l).1, .int .i64 (rpublish ⟨next, xs⟩ l).2.1, .int .i64 (rpublish ⟨next, xs⟩ l).2.2])) := by
  have hl2 : Small (rsane ⟨next, xs⟩).snaps.length := rsane_small hl
  unfold rpublish
  refine CallR.go2 (T := T) Try.call24 Try.func24 rfl Try.ntmps24 (congrArg Array.toList Try.results24) (by decide) fun ts hn h0 h1 => ?_
  (repeat' (first
    | with_reducible refine callX.by (rsane_c _ _ ?_) ?_
    | with_reducible assumption
    | (with_reducible refine NxK.out hK _ ?_; clear hK K)
    | with_reducible refine NxK.out (by assumption) _ ?_
    | with_reducible refine Nx.out (by assumption) ?_
    | with_reducible refine SpecC.seqW fun K hK => ?_
    | with_reducible refine SpecC.regW T fun K hK => ?_
    | with_reducible refine SpecC.drawW (id := 13) T mixed [([49], [52, 53, 54, 55, 56]), ([50], [52, 54, 55, 56]), ([51], [52, 54, 55, 56]), ([52], [49, 50, 51, 54, 55, 56]), ([53], [49, 54, 55, 56]), ([54], [49, 50, 51, 52, 53, 4]), ([55], [49, 50, 51, 52, 53, 4]), ([56], [49, 50, 51, 52, 53, 4]), ([4], [54, 55, 56])] (by kernel_rfl) fun K hK => ?_
    | with_reducible refine SpecC.condW fun A B hA hB => ?_
    | with_reducible refine SpecC.block ?_
    | with_reducible refine SpecC.skip ?_
    | with_reducible refine SpecC.label ?_
    | with_reducible refine SpecC.exit ?_
    | with_reducible refine SpecC.goto ?_
    | with_reducible refine SpecC.ret ?_
    | ((with_reducible first | refine condK.split (fun hb => ?_) (fun hb => ?_) | refine gK.split_t (fun hb => ?_) (fun hb => ?_) | refine gK.split_f (fun hb => ?_) (fun hb => ?_)) <;> try simp only [decide_not, ilt_t, ilt_f, ile_t, ile_f, nlt_t, nlt_f, nle_t, nle_f, Bool.not_eq_true', Bool.not_eq_false', Int.ofNat_lt, Int.ofNat_le] at hb)
    | simp only [go_sem, ↓reduceIte, reduceIte, Nat.reduceEqDiff, String.reduceEq, Nat.reduceLT, Nat.reduceLeDiff, Nat.reduceAdd, Nat.reduceMul, Nat.reduceSub, Nat.reduceBEq, reduceCtorEq, *]
    | with_reducible refine fun (bn : Bool) hbn => ?_))
  · all_goals ((repeat clear hK); (repeat clear hA); (repeat clear hB))
    ((try simp only [dec_T, dec_F] at *); simp [ite_true, *])
  refine SpecC.ent (Ent.virt 7 3 (by simp only [go_sem, ↓reduceIte, reduceIte, Nat.reduceEqDiff, String.reduceEq, Nat.reduceLT, Nat.reduceLeDiff, Nat.reduceAdd, Nat.reduceMul, Nat.reduceSub, Nat.reduceBEq, reduceCtorEq, *]) (by decide)) ?_
  refine SpecC.loopF [1, 2, 4] (fun m ts' => ∃ (i : Nat), ∃ (g : Nat), ∃ (ys : List Snap), m = (rsane ⟨next, xs⟩).snaps.length - i ∧ i ≤ (rsane ⟨next, xs⟩).snaps.length ∧ ys.length ≤ i ∧ (rsane ⟨next, xs⟩).snaps.filter (fun x => decide (0 < x.pins)) = ys ++ ((rsane ⟨next, xs⟩).snaps.drop i).filter (fun x => decide (0 < x.pins)) ∧ ts'.tmp 7 = .os 7 g ys.length ∧ ts'.gen 7 = g ∧ ts'.obj 7 = .arr 3 (avs ys) ∧ ts'.tmp 8 = .int .i64 i) (rsane ⟨next, xs⟩).snaps.length ?_ ?_
  · refine ⟨0, ts.gen 7 + 1, [], rfl, Nat.zero_le _, Nat.le_refl _, rfl, ?_⟩
    simp only [go_sem, ↓reduceIte, reduceIte, Nat.reduceEqDiff, String.reduceEq, Nat.reduceLT, Nat.reduceLeDiff, Nat.reduceAdd, Nat.reduceMul, Nat.reduceSub, Nat.reduceBEq, reduceCtorEq, *, avs_nil]
  · rintro m A hM ts' hk ⟨i, g, ys, hm, f1, f2, f3, s1, s2, s3, s4⟩
    simp only [go_sem, ↓reduceIte, reduceIte, Nat.reduceEqDiff, String.reduceEq, Nat.reduceLT, Nat.reduceLeDiff, Nat.reduceAdd, Nat.reduceMul, Nat.reduceSub, Nat.reduceBEq, reduceCtorEq, *] at hk
    have hr1 : Room (ys.length + 1) 40 := room_big (by unfold Small at hl2; omega) (by decide)
    by_cases hlt : i < (rsane ⟨next, xs⟩).snaps.length
    · rw [List.drop_eq_getElem_cons hlt, List.filter_cons] at f3
      (repeat' (first
    | with_reducible refine callX.by (rsane_c _ _ ?_) ?_
    | with_reducible assumption
    | (with_reducible refine NxK.out hK _ ?_; clear hK K)
    | with_reducible refine NxK.out (by assumption) _ ?_
    | with_reducible refine Nx.out (by assumption) ?_
    | with_reducible refine SpecC.seqW fun K hK => ?_
    | with_reducible refine SpecC.regW T fun K hK => ?_
    | with_reducible refine SpecC.drawW (id := 13) T mixed [([49], [52, 53, 54, 55, 56]), ([50], [52, 54, 55, 56]), ([51], [52, 54, 55, 56]), ([52], [49, 50, 51, 54, 55, 56]), ([53], [49, 54, 55, 56]), ([54], [49, 50, 51, 52, 53, 4]), ([55], [49, 50, 51, 52, 53, 4]), ([56], [49, 50, 51, 52, 53, 4]), ([4], [54, 55, 56])] (by kernel_rfl) fun K hK => ?_
    | with_reducible refine SpecC.condW fun A B hA hB => ?_
    | with_reducible refine SpecC.block ?_
    | with_reducible refine SpecC.skip ?_
    | with_reducible refine SpecC.label ?_
    | with_reducible refine SpecC.exit ?_
    | with_reducible refine SpecC.goto ?_
    | with_reducible refine SpecC.ret ?_
    | ((with_reducible first | refine condK.split (fun hb => ?_) (fun hb => ?_) | refine gK.split_t (fun hb => ?_) (fun hb => ?_) | refine gK.split_f (fun hb => ?_) (fun hb => ?_)) <;> try simp only [decide_not, ilt_t, ilt_f, ile_t, ile_f, nlt_t, nlt_f, nle_t, nle_f, Bool.not_eq_true', Bool.not_eq_false', Int.ofNat_lt, Int.ofNat_le] at hb)
    | simp only [go_sem, ↓reduceIte, reduceIte, Nat.reduceEqDiff, String.reduceEq, Nat.reduceLT, Nat.reduceLeDiff, Nat.reduceAdd, Nat.reduceMul, Nat.reduceSub, Nat.reduceBEq, reduceCtorEq, *]
    | with_reducible refine fun (bn : Bool) hbn => ?_))
      all_goals ((repeat clear hK); (repeat clear hA); (repeat clear hB))
      · (refine hM.onE ((rsane ⟨next, xs⟩).snaps.length - (i + 1)) (Ent.ren 7 36 ?_ ?_) ?_ ?_ ?_; (focus (simp only [go_sem, ↓reduceIte, reduceIte, Nat.reduceEqDiff, String.reduceEq, Nat.reduceLT, Nat.reduceLeDiff, Nat.reduceAdd, Nat.reduceMul, Nat.reduceSub, Nat.reduceBEq, reduceCtorEq, *]; first | done | rfl)); (focus (simp only [go_sem, ↓reduceIte, reduceIte, Nat.reduceEqDiff, String.reduceEq, Nat.reduceLT, Nat.reduceLeDiff, Nat.reduceAdd, Nat.reduceMul, Nat.reduceSub, Nat.reduceBEq, reduceCtorEq, *]; first | done | rfl)); omega; (focus (simp only [go_sem, ↓reduceIte, reduceIte, Nat.reduceEqDiff, String.reduceEq, Nat.reduceLT, Nat.reduceLeDiff, Nat.reduceAdd, Nat.reduceMul, Nat.reduceSub, Nat.reduceBEq, reduceCtorEq, *, w64_nat hlt hl2, -f3]; done)); refine ⟨i + 1, g + 1, ys ++ [(rsane ⟨next, xs⟩).snaps[i]], rfl, by omega, by simp; omega, by rw [f3, if_pos (by simpa using hb)]; simp, ?_⟩; simp only [go_sem, ↓reduceIte, reduceIte, Nat.reduceEqDiff, String.reduceEq, Nat.reduceLT, Nat.reduceLeDiff, Nat.reduceAdd, Nat.reduceMul, Nat.reduceSub, Nat.reduceBEq, reduceCtorEq, *, w64_nat hlt hl2, -f3]; done)
      · (refine hM.on ((rsane ⟨next, xs⟩).snaps.length - (i + 1)) (by omega) (by simp only [go_sem, ↓reduceIte, reduceIte, Nat.reduceEqDiff, String.reduceEq, Nat.reduceLT, Nat.reduceLeDiff, Nat.reduceAdd, Nat.reduceMul, Nat.reduceSub, Nat.reduceBEq, reduceCtorEq, *, w64_nat hlt hl2, -f3]) ⟨i + 1, g, ys, rfl, by omega, by omega, by rw [f3, if_neg (by simpa using hb)], ?_⟩; simp only [go_sem, ↓reduceIte, reduceIte, Nat.reduceEqDiff, String.reduceEq, Nat.reduceLT, Nat.reduceLeDiff, Nat.reduceAdd, Nat.reduceMul, Nat.reduceSub, Nat.reduceBEq, reduceCtorEq, *, w64_nat hlt hl2, -f3]; done)
    · rw [List.drop_eq_nil_of_le (by omega), List.filter_nil, List.append_nil] at f3
      (repeat' (first
    | with_reducible refine callX.by (rsane_c _ _ ?_) ?_
    | with_reducible assumption
    | (with_reducible refine NxK.out hK _ ?_; clear hK K)
    | with_reducible refine NxK.out (by assumption) _ ?_
    | with_reducible refine Nx.out (by assumption) ?_
    | with_reducible refine SpecC.seqW fun K hK => ?_
    | with_reducible refine SpecC.regW T fun K hK => ?_
    | with_reducible refine SpecC.drawW (id := 13) T mixed [([49], [52, 53, 54, 55, 56]), ([50], [52, 54, 55, 56]), ([51], [52, 54, 55, 56]), ([52], [49, 50, 51, 54, 55, 56]), ([53], [49, 54, 55, 56]), ([54], [49, 50, 51, 52, 53, 4]), ([55], [49, 50, 51, 52, 53, 4]), ([56], [49, 50, 51, 52, 53, 4]), ([4], [54, 55, 56])] (by kernel_rfl) fun K hK => ?_
    | with_reducible refine SpecC.condW fun A B hA hB => ?_
    | with_reducible refine SpecC.block ?_
    | with_reducible refine SpecC.skip ?_
    | with_reducible refine SpecC.label ?_
    | with_reducible refine SpecC.exit ?_
    | with_reducible refine SpecC.goto ?_
    | with_reducible refine SpecC.ret ?_
    | ((with_reducible first | refine condK.split (fun hb => ?_) (fun hb => ?_) | refine gK.split_t (fun hb => ?_) (fun hb => ?_) | refine gK.split_f (fun hb => ?_) (fun hb => ?_)) <;> try simp only [decide_not, ilt_t, ilt_f, ile_t, ile_f, nlt_t, nlt_f, nle_t, nle_f, Bool.not_eq_true', Bool.not_eq_false', Int.ofNat_lt, Int.ofNat_le] at hb)
    | simp only [go_sem, ↓reduceIte, reduceIte, Nat.reduceEqDiff, String.reduceEq, Nat.reduceLT, Nat.reduceLeDiff, Nat.reduceAdd, Nat.reduceMul, Nat.reduceSub, Nat.reduceBEq, reduceCtorEq, *]
    | with_reducible refine fun (bn : Bool) hbn => ?_))
      all_goals ((repeat clear hK); (repeat clear hA); (repeat clear hB))
      all_goals ((try simp only [dec_T, dec_F] at *); simp [ite_false, *])

def rget (p : Pins) (id : Int) : List Res × Bool :=
  match (rsane p).snaps.find? fun x => decide (x.id = id) with
  | none => ([], false)
  | some s => (s.l, true)

set_option maxRecDepth 30000 in
theorem rget_c (next id : Int) (xs : List Snap) (hl : Small xs.length) : CallR Try.prog 27 [.agg [.int .i64 next, .slice false (avs xs)], .int .i64 id] (.val (.tup [.slice false (avs (rget ⟨next, xs⟩ id).1), .bool (rget ⟨next, xs⟩ id).2])) := by
  have hl2 : Small (rsane ⟨next, xs⟩).snaps.length := rsane_small hl
  refine CallR.go2 (T := T) Try.call27 Try.func27 rfl Try.ntmps27 (congrArg Array.toList Try.results27) (by decide) fun ts hn h0 h1 => ?_
  (repeat' (first
    | with_reducible refine callX.by (rsane_c _ _ ?_) ?_
    | with_reducible assumption
    | (with_reducible refine NxK.out hK _ ?_; clear hK K)
    | with_reducible refine NxK.out (by assumption) _ ?_
    | with_reducible refine Nx.out (by assumption) ?_
    | with_reducible refine SpecC.seqW fun K hK => ?_
    | with_reducible refine SpecC.regW T fun K hK => ?_
    | with_reducible refine SpecC.condW fun A B hA hB => ?_
    | with_reducible refine SpecC.block ?_
    | with_reducible refine SpecC.skip ?_
    | with_reducible refine SpecC.label ?_
    | with_reducible refine SpecC.exit ?_
    | with_reducible refine SpecC.goto ?_
    | with_reducible refine SpecC.ret ?_
    | ((with_reducible first | refine condK.split (fun hb => ?_) (fun hb => ?_) | refine gK.split_t (fun hb => ?_) (fun hb => ?_) | refine gK.split_f (fun hb => ?_) (fun hb => ?_)) <;> try simp only [decide_not, ilt_t, ilt_f, ile_t, ile_f, nlt_t, nlt_f, nle_t, nle_f, Bool.not_eq_true', Bool.not_eq_false', Int.ofNat_lt, Int.ofNat_le] at hb)
    | simp only [go_sem, ↓reduceIte, reduceIte, Nat.reduceEqDiff, String.reduceEq, Nat.reduceLT, Nat.reduceLeDiff, Nat.reduceAdd, Nat.reduceMul, Nat.reduceSub, Nat.reduceBEq, reduceCtorEq, *]
    | with_reducible refine fun (bn : Bool) hbn => ?_))
  refine SpecC.loopF [1, 2] (fun m ts' => ∃ (i : Nat), m = (rsane ⟨next, xs⟩).snaps.length - i ∧ i ≤ (rsane ⟨next, xs⟩).snaps.length ∧ (rsane ⟨next, xs⟩).snaps.find? (fun x => decide (x.id = id)) = ((rsane ⟨next, xs⟩).snaps.drop i).find? (fun x => decide (x.id = id)) ∧ ts'.tmp 6 = .int .i64 i) (rsane ⟨next, xs⟩).snaps.length ?_ ?_
  · refine ⟨0, ?_⟩
    simp only [go_sem, ↓reduceIte, reduceIte, Nat.reduceEqDiff, String.reduceEq, Nat.reduceLT, Nat.reduceLeDiff, Nat.reduceAdd, Nat.reduceMul, Nat.reduceSub, Nat.reduceBEq, reduceCtorEq, *]
  · rintro m A hM ts' hk ⟨i, hm, f1, f2, s1⟩
    simp only [go_sem, ↓reduceIte, reduceIte, Nat.reduceEqDiff, String.reduceEq, Nat.reduceLT, Nat.reduceLeDiff, Nat.reduceAdd, Nat.reduceMul, Nat.reduceSub, Nat.reduceBEq, reduceCtorEq, *] at hk
    by_cases hlt : i < (rsane ⟨next, xs⟩).snaps.length
    · rw [List.drop_eq_getElem_cons hlt, List.find?_cons] at f2
      (repeat' (first
    | with_reducible refine callX.by (rsane_c _ _ ?_) ?_
    | with_reducible assumption
    | (with_reducible refine NxK.out hK _ ?_; clear hK K)
    | with_reducible refine NxK.out (by assumption) _ ?_
    | with_reducible refine Nx.out (by assumption) ?_
    | with_reducible refine SpecC.seqW fun K hK => ?_
    | with_reducible refine SpecC.regW T fun K hK => ?_
    | with_reducible refine SpecC.condW fun A B hA hB => ?_
    | with_reducible refine SpecC.block ?_
    | with_reducible refine SpecC.skip ?_
    | with_reducible refine SpecC.label ?_
    | with_reducible refine SpecC.exit ?_
    | with_reducible refine SpecC.goto ?_
    | with_reducible refine SpecC.ret ?_
    | ((with_reducible first | refine condK.split (fun hb => ?_) (fun hb => ?_) | refine gK.split_t (fun hb => ?_) (fun hb => ?_) | refine gK.split_f (fun hb => ?_) (fun hb => ?_)) <;> try simp only [decide_not, ilt_t, ilt_f, ile_t, ile_f, nlt_t, nlt_f, nle_t, nle_f, Bool.not_eq_true', Bool.not_eq_false', Int.ofNat_lt, Int.ofNat_le] at hb)
    | simp only [go_sem, ↓reduceIte, reduceIte, Nat.reduceEqDiff, String.reduceEq, Nat.reduceLT, Nat.reduceLeDiff, Nat.reduceAdd, Nat.reduceMul, Nat.reduceSub, Nat.reduceBEq, reduceCtorEq, *]
    | with_reducible refine fun (bn : Bool) hbn => ?_))
      all_goals ((repeat clear hK); (repeat clear hA); (repeat clear hB))
      · rw [hb] at f2; simp [rget, f2]
      · rw [hb] at f2
        (refine hM.on ((rsane ⟨next, xs⟩).snaps.length - (i + 1)) (by omega) (by simp only [go_sem, ↓reduceIte, reduceIte, Nat.reduceEqDiff, String.reduceEq, Nat.reduceLT, Nat.reduceLeDiff, Nat.reduceAdd, Nat.reduceMul, Nat.reduceSub, Nat.reduceBEq, reduceCtorEq, *, w64_nat hlt hl2, -f2]) ⟨i + 1, rfl, by omega, f2, ?_⟩; simp only [go_sem, ↓reduceIte, reduceIte, Nat.reduceEqDiff, String.reduceEq, Nat.reduceLT, Nat.reduceLeDiff, Nat.reduceAdd, Nat.reduceMul, Nat.reduceSub, Nat.reduceBEq, reduceCtorEq, *, w64_nat hlt hl2, -f2]; done)
    · rw [List.drop_eq_nil_of_le (by omega), List.find?_nil] at f2
      (repeat' (first
    | with_reducible refine callX.by (rsane_c _ _ ?_) ?_
    | with_reducible assumption
    | (with_reducible refine NxK.out hK _ ?_; clear hK K)
    | with_reducible refine NxK.out (by assumption) _ ?_
    | with_reducible refine Nx.out (by assumption) ?_
    | with_reducible refine SpecC.seqW fun K hK => ?_
    | with_reducible refine SpecC.regW T fun K hK => ?_
    | with_reducible refine SpecC.condW fun A B hA hB => ?_
    | with_reducible refine SpecC.block ?_
    | with_reducible refine SpecC.skip ?_
    | with_reducible refine SpecC.label ?_
    | with_reducible refine SpecC.exit ?_
    | with_reducible refine SpecC.goto ?_
    | with_reducible refine SpecC.ret ?_
    | ((with_reducible first | refine condK.split (fun hb => ?_) (fun hb => ?_) | refine gK.split_t (fun hb => ?_) (fun hb => ?_) | refine gK.split_f (fun hb => ?_) (fun hb => ?_)) <;> try simp only [decide_not, ilt_t, ilt_f, ile_t, ile_f, nlt_t, nlt_f, nle_t, nle_f, Bool.not_eq_true', Bool.not_eq_false', Int.ofNat_lt, Int.ofNat_le] at hb)
    | simp only [go_sem, ↓reduceIte, reduceIte, Nat.reduceEqDiff, String.reduceEq, Nat.reduceLT, Nat.reduceLeDiff, Nat.reduceAdd, Nat.reduceMul, Nat.reduceSub, Nat.reduceBEq, reduceCtorEq, *]
    | with_reducible refine fun (bn : Bool) hbn => ?_))
      all_goals ((repeat clear hK); (repeat clear hA); (repeat clear hB))
      all_goals simp [rget, f2, avs_nil]

def rcurrent (p : Pins) : Int × List Res × Bool :=
  match (rsane p).snaps.getLast? with
  | none => (0, [], false)
  | some s => (s.id, s.l, true)

set_option maxRecDepth 30000 in
theorem rcurrent_c (next : Int) (xs : List Snap) (hl : Small xs.length) : CallR Try.prog 29 [.agg [.int .i64 next, .slice false (avs xs)]] (.val (.tup [.int .i64 (rcurrent ⟨next, xs⟩).1, .slice false (avs (rcurrent ⟨next, xs⟩).2.1), .bool (rcurrent ⟨next, xs⟩).2.2])) := by
  have hl2 : Small (rsane ⟨next, xs⟩).snaps.length := rsane_small hl
  refine CallR.go1 (T := T) Try.call29 Try.func29 rfl Try.ntmps29 (congrArg Array.toList Try.results29) (by decide) fun ts hn h0 => ?_
  by_cases he : (rsane ⟨next, xs⟩).snaps.length = 0
  · have h0 : (rsane ⟨next, xs⟩).snaps = [] := List.eq_nil_of_length_eq_zero he
    (repeat' (first
    | with_reducible refine callX.by (rsane_c _ _ ?_) ?_
    | with_reducible assumption
    | (with_reducible refine NxK.out hK _ ?_; clear hK K)
    | with_reducible refine NxK.out (by assumption) _ ?_
    | with_reducible refine Nx.out (by assumption) ?_
    | with_reducible refine SpecC.seqW fun K hK => ?_
    | with_reducible refine SpecC.regW T fun K hK => ?_
    | with_reducible refine SpecC.drawW (id := 5) T mixed [([13], [15, 16, 18, 19, 20, 21, 22, 23, 24, 25, 26]), ([14], [15, 16, 19, 20, 21, 22, 23, 24, 25, 26]), ([15], [13, 14, 18, 19, 20, 21, 22, 23, 24, 25, 26]), ([16], [13, 14, 19, 20, 21, 22, 23, 24, 25, 26]), ([17], [20, 21, 22, 23, 24, 25, 26]), ([18], [13, 15, 20, 21, 22, 23, 24, 25, 26]), ([19], [13, 14, 15, 16, 20, 21, 22, 23, 24, 25, 26]), ([20], [13, 14, 15, 16, 17, 18, 19, 22, 23, 25, 26, 2]), ([21], [13, 14, 15, 16, 17, 18, 19, 22, 23, 26, 2]), ([22], [13, 14, 15, 16, 17, 18, 19, 20, 21, 25, 26, 2]), ([23], [13, 14, 15, 16, 17, 18, 19, 20, 21, 26, 2]), ([24], [13, 14, 15, 16, 17, 18, 19, 2]), ([25], [13, 14, 15, 16, 17, 18, 19, 20, 22, 2]), ([26], [13, 14, 15, 16, 17, 18, 19, 20, 21, 22, 23, 2]), ([2], [20, 21, 22, 23, 24, 25, 26])] (by kernel_rfl) fun K hK => ?_
    | with_reducible refine SpecC.condW fun A B hA hB => ?_
    | with_reducible refine SpecC.block ?_
    | with_reducible refine SpecC.skip ?_
    | with_reducible refine SpecC.label ?_
    | with_reducible refine SpecC.exit ?_
    | with_reducible refine SpecC.goto ?_
    | with_reducible refine SpecC.ret ?_
    | ((with_reducible first | refine condK.split (fun hb => ?_) (fun hb => ?_) | refine gK.split_t (fun hb => ?_) (fun hb => ?_) | refine gK.split_f (fun hb => ?_) (fun hb => ?_)) <;> try simp only [decide_not, ilt_t, ilt_f, ile_t, ile_f, nlt_t, nlt_f, nle_t, nle_f, Bool.not_eq_true', Bool.not_eq_false', Int.ofNat_lt, Int.ofNat_le] at hb)
    | simp only [go_sem, ↓reduceIte, reduceIte, Nat.reduceEqDiff, String.reduceEq, Nat.reduceLT, Nat.reduceLeDiff, Nat.reduceAdd, Nat.reduceMul, Nat.reduceSub, Nat.reduceBEq, reduceCtorEq, *]
    | with_reducible refine fun (bn : Bool) hbn => ?_))
    all_goals simp [rcurrent, h0, avs_nil]
  · have hw : IntKind.i64.wrap (((rsane ⟨next, xs⟩).snaps.length : Int) - 1) = (((rsane ⟨next, xs⟩).snaps.length - 1 : Nat) : Int) := by
      rw [w64_pred hl2]; omega
    have hi : (rsane ⟨next, xs⟩).snaps.length - 1 < (rsane ⟨next, xs⟩).snaps.length := by omega
    (repeat' (first
    | with_reducible refine callX.by (rsane_c _ _ ?_) ?_
    | with_reducible assumption
    | (with_reducible refine NxK.out hK _ ?_; clear hK K)
    | with_reducible refine NxK.out (by assumption) _ ?_
    | with_reducible refine Nx.out (by assumption) ?_
    | with_reducible refine SpecC.seqW fun K hK => ?_
    | with_reducible refine SpecC.regW T fun K hK => ?_
    | with_reducible refine SpecC.drawW (id := 5) T mixed [([13], [15, 16, 18, 19, 20, 21, 22, 23, 24, 25, 26]), ([14], [15, 16, 19, 20, 21, 22, 23, 24, 25, 26]), ([15], [13, 14, 18, 19, 20, 21, 22, 23, 24, 25, 26]), ([16], [13, 14, 19, 20, 21, 22, 23, 24, 25, 26]), ([17], [20, 21, 22, 23, 24, 25, 26]), ([18], [13, 15, 20, 21, 22, 23, 24, 25, 26]), ([19], [13, 14, 15, 16, 20, 21, 22, 23, 24, 25, 26]), ([20], [13, 14, 15, 16, 17, 18, 19, 22, 23, 25, 26, 2]), ([21], [13, 14, 15, 16, 17, 18, 19, 22, 23, 26, 2]), ([22], [13, 14, 15, 16, 17, 18, 19, 20, 21, 25, 26, 2]), ([23], [13, 14, 15, 16, 17, 18, 19, 20, 21, 26, 2]), ([24], [13, 14, 15, 16, 17, 18, 19, 2]), ([25], [13, 14, 15, 16, 17, 18, 19, 20, 22, 2]), ([26], [13, 14, 15, 16, 17, 18, 19, 20, 21, 22, 23, 2]), ([2], [20, 21, 22, 23, 24, 25, 26])] (by kernel_rfl) fun K hK => ?_
    | with_reducible refine SpecC.condW fun A B hA hB => ?_
    | with_reducible refine SpecC.block ?_
    | with_reducible refine SpecC.skip ?_
    | with_reducible refine SpecC.label ?_
    | with_reducible refine SpecC.exit ?_
    | with_reducible refine SpecC.goto ?_
    | with_reducible refine SpecC.ret ?_
    | ((with_reducible first | refine condK.split (fun hb => ?_) (fun hb => ?_) | refine gK.split_t (fun hb => ?_) (fun hb => ?_) | refine gK.split_f (fun hb => ?_) (fun hb => ?_)) <;> try simp only [decide_not, ilt_t, ilt_f, ile_t, ile_f, nlt_t, nlt_f, nle_t, nle_f, Bool.not_eq_true', Bool.not_eq_false', Int.ofNat_lt, Int.ofNat_le] at hb)
    | simp only [go_sem, ↓reduceIte, reduceIte, Nat.reduceEqDiff, String.reduceEq, Nat.reduceLT, Nat.reduceLeDiff, Nat.reduceAdd, Nat.reduceMul, Nat.reduceSub, Nat.reduceBEq, reduceCtorEq, *, hw]
    | with_reducible refine fun (bn : Bool) hbn => ?_))
    all_goals simp [rcurrent, List.getLast?_eq_getElem?, List.getElem?_eq_getElem hi]

def rpin (p : Pins) : Pins × Int × Int :=
  let q := rsane p
  match q.snaps.getLast? with
  | none => (q, 0, 10)
  | some s => if s.pins = 10000 then (q, 0, 14) else (rwith q (q.snaps.length - 1) ⟨s.id, IntKind.i64.wrap (s.pins + 1), s.l⟩, s.id, 0)

set_option maxRecDepth 30000 in
theorem rpin_c (next : Int) (xs : List Snap) (hl : Small xs.length) : CallR Try.prog 25 [.agg [.int .i64 next, .slice false (avs xs)]] (.val (.tup [Dat.av (rpin ⟨next, xs⟩).1, .int .i64 (rpin ⟨next, xs⟩).2.1, .int .i64 (rpin ⟨next, xs⟩).2.2])) := by
  have hl2 : Small (rsane ⟨next, xs⟩).snaps.length := rsane_small hl
  refine CallR.go1 (T := T) Try.call25 Try.func25 rfl Try.ntmps25 (congrArg Array.toList Try.results25) (by decide) fun ts hn h0 => ?_
  by_cases he : (rsane ⟨next, xs⟩).snaps.length = 0
  · have h0 : (rsane ⟨next, xs⟩).snaps = [] := List.eq_nil_of_length_eq_zero he
    (repeat' (first
    | with_reducible refine callX.by (rsane_c _ _ ?_) ?_
    | with_reducible refine callX.by (rwith_c _ _ _ _ _ _ ?_ ?_) ?_
    | with_reducible assumption
    | (with_reducible refine NxK.out hK _ ?_; clear hK K)
    | with_reducible refine NxK.out (by assumption) _ ?_
    | with_reducible refine Nx.out (by assumption) ?_
    | with_reducible refine SpecC.seqW fun K hK => ?_
    | with_reducible refine SpecC.regW T fun K hK => ?_
    | with_reducible refine SpecC.drawW (id := 9) T mixed [([29], [30, 31, 32, 34, 35]), ([30], [29, 32, 34, 35]), ([31], [29, 32, 34, 35]), ([32], [29, 30, 31, 34, 35]), ([33], [34, 35]), ([34], [29, 30, 31, 32, 33, 2]), ([35], [29, 30, 31, 32, 33, 2]), ([2], [34, 35])] (by kernel_rfl) fun K hK => ?_
    | with_reducible refine SpecC.condW fun A B hA hB => ?_
    | with_reducible refine SpecC.block ?_
    | with_reducible refine SpecC.skip ?_
    | with_reducible refine SpecC.label ?_
    | with_reducible refine SpecC.exit ?_
    | with_reducible refine SpecC.goto ?_
    | with_reducible refine SpecC.ret ?_
    | ((with_reducible first | refine condK.split (fun hb => ?_) (fun hb => ?_) | refine gK.split_t (fun hb => ?_) (fun hb => ?_) | refine gK.split_f (fun hb => ?_) (fun hb => ?_)) <;> try simp only [decide_not, ilt_t, ilt_f, ile_t, ile_f, nlt_t, nlt_f, nle_t, nle_f, Bool.not_eq_true', Bool.not_eq_false', Int.ofNat_lt, Int.ofNat_le] at hb)
    | simp only [go_sem, ↓reduceIte, reduceIte, Nat.reduceEqDiff, String.reduceEq, Nat.reduceLT, Nat.reduceLeDiff, Nat.reduceAdd, Nat.reduceMul, Nat.reduceSub, Nat.reduceBEq, reduceCtorEq, *]
    | with_reducible refine fun (bn : Bool) hbn => ?_))
    all_goals simp [rpin, h0]
  · have hw : IntKind.i64.wrap (((rsane ⟨next, xs⟩).snaps.length : Int) - 1) = (((rsane ⟨next, xs⟩).snaps.length - 1 : Nat) : Int) := by
      rw [w64_pred hl2]; omega
    have hi : (rsane ⟨next, xs⟩).snaps.length - 1 < (rsane ⟨next, xs⟩).snaps.length := by omega
    have h0 : (rsane ⟨next, xs⟩).snaps.getLast? = some ((rsane ⟨next, xs⟩).snaps[(rsane ⟨next, xs⟩).snaps.length - 1]'(by omega)) := by rw [List.getLast?_eq_getElem?, List.getElem?_eq_getElem]
    (repeat' (first
    | with_reducible refine callX.by (rsane_c _ _ ?_) ?_
    | with_reducible refine callX.by (rwith_c _ _ _ _ _ _ ?_ ?_) ?_
    | with_reducible assumption
    | (with_reducible refine NxK.out hK _ ?_; clear hK K)
    | with_reducible refine NxK.out (by assumption) _ ?_
    | with_reducible refine Nx.out (by assumption) ?_
    | with_reducible refine SpecC.seqW fun K hK => ?_
    | with_reducible refine SpecC.regW T fun K hK => ?_
    | with_reducible refine SpecC.drawW (id := 9) T mixed [([29], [30, 31, 32, 34, 35]), ([30], [29, 32, 34, 35]), ([31], [29, 32, 34, 35]), ([32], [29, 30, 31, 34, 35]), ([33], [34, 35]), ([34], [29, 30, 31, 32, 33, 2]), ([35], [29, 30, 31, 32, 33, 2]), ([2], [34, 35])] (by kernel_rfl) fun K hK => ?_
    | with_reducible refine SpecC.condW fun A B hA hB => ?_
    | with_reducible refine SpecC.block ?_
    | with_reducible refine SpecC.skip ?_
    | with_reducible refine SpecC.label ?_
    | with_reducible refine SpecC.exit ?_
    | with_reducible refine SpecC.goto ?_
    | with_reducible refine SpecC.ret ?_
    | ((with_reducible first | refine condK.split (fun hb => ?_) (fun hb => ?_) | refine gK.split_t (fun hb => ?_) (fun hb => ?_) | refine gK.split_f (fun hb => ?_) (fun hb => ?_)) <;> try simp only [decide_not, ilt_t, ilt_f, ile_t, ile_f, nlt_t, nlt_f, nle_t, nle_f, Bool.not_eq_true', Bool.not_eq_false', Int.ofNat_lt, Int.ofNat_le] at hb)
    | simp only [go_sem, ↓reduceIte, reduceIte, Nat.reduceEqDiff, String.reduceEq, Nat.reduceLT, Nat.reduceLeDiff, Nat.reduceAdd, Nat.reduceMul, Nat.reduceSub, Nat.reduceBEq, reduceCtorEq, *, hw]
    | with_reducible refine fun (bn : Bool) hbn => ?_))
    all_goals ((repeat clear hK); (repeat clear hA); (repeat clear hB))
    all_goals simp only [rpin, h0]
    · rw [if_pos (of_decide_eq_true hb)]; simp
    · rw [if_neg (of_decide_eq_false hb)]; simp

def relR (q : Pins) (id : Int) : List Snap → Nat → Pins × Int
  | [], _ => (q, 10)
  | s :: r, i => if s.id = id then (if s.pins = 0 then (q, 15) else (rwith q i ⟨s.id, IntKind.i64.wrap (s.pins - 1), s.l⟩, 0)) else relR q id r (i + 1)
def rrelease (p : Pins) (id : Int) : Pins × Int := relR (rsane p) id (rsane p).snaps 0

set_option maxRecDepth 30000 in
theorem rrelease_c (next id : Int) (xs : List Snap) (hl : Small xs.length) : CallR Try.prog 26 [.agg [.int .i64 next, .slice false (avs xs)], .int .i64 id] (.val (.tup [Dat.av (rrelease ⟨next, xs⟩ id).1, .int .i64 (rrelease ⟨next, xs⟩ id).2])) := by
  have hl2 : Small (rsane ⟨next, xs⟩).snaps.length := rsane_small hl
  unfold rrelease
  refine CallR.go2 (T := T) Try.call26 Try.func26 rfl Try.ntmps26 (congrArg Array.toList Try.results26) (by decide) fun ts hn h0 h1 => ?_
  (repeat' (first
    | with_reducible refine callX.by (rsane_c _ _ ?_) ?_
    | with_reducible refine callX.by (rwith_c _ _ _ _ _ _ ?_ ?_) ?_
    | with_reducible assumption
    | (with_reducible refine NxK.out hK _ ?_; clear hK K)
    | with_reducible refine NxK.out (by assumption) _ ?_
    | with_reducible refine Nx.out (by assumption) ?_
    | with_reducible refine SpecC.seqW fun K hK => ?_
    | with_reducible refine SpecC.regW T fun K hK => ?_
    | with_reducible refine SpecC.condW fun A B hA hB => ?_
    | with_reducible refine SpecC.block ?_
    | with_reducible refine SpecC.skip ?_
    | with_reducible refine SpecC.label ?_
    | with_reducible refine SpecC.exit ?_
    | with_reducible refine SpecC.goto ?_
    | with_reducible refine SpecC.ret ?_
    | ((with_reducible first | refine condK.split (fun hb => ?_) (fun hb => ?_) | refine gK.split_t (fun hb => ?_) (fun hb => ?_) | refine gK.split_f (fun hb => ?_) (fun hb => ?_)) <;> try simp only [decide_not, ilt_t, ilt_f, ile_t, ile_f, nlt_t, nlt_f, nle_t, nle_f, Bool.not_eq_true', Bool.not_eq_false', Int.ofNat_lt, Int.ofNat_le] at hb)
    | simp only [go_sem, ↓reduceIte, reduceIte, Nat.reduceEqDiff, String.reduceEq, Nat.reduceLT, Nat.reduceLeDiff, Nat.reduceAdd, Nat.reduceMul, Nat.reduceSub, Nat.reduceBEq, reduceCtorEq, *]
    | with_reducible refine fun (bn : Bool) hbn => ?_))
  refine SpecC.loopF [1, 2] (fun m ts' => ∃ (i : Nat), m = (rsane ⟨next, xs⟩).snaps.length - i ∧ i ≤ (rsane ⟨next, xs⟩).snaps.length ∧ relR (rsane ⟨next, xs⟩) id (rsane ⟨next, xs⟩).snaps 0 = relR (rsane ⟨next, xs⟩) id ((rsane ⟨next, xs⟩).snaps.drop i) i ∧ ts'.tmp 6 = .int .i64 i ∧ ts'.tmp 4 = .ref 4 (ts.gen 4 + 1) 0 ∧ ts'.gen 4 = ts.gen 4 + 1 ∧ ts'.obj 4 = .box [.int .i64 0, .slice true []]) (rsane ⟨next, xs⟩).snaps.length ?_ ?_
  · refine ⟨0, ?_⟩
    simp only [go_sem, ↓reduceIte, reduceIte, Nat.reduceEqDiff, String.reduceEq, Nat.reduceLT, Nat.reduceLeDiff, Nat.reduceAdd, Nat.reduceMul, Nat.reduceSub, Nat.reduceBEq, reduceCtorEq, *]
  · rintro m A hM ts' hk ⟨i, hm, f1, f2, s1, s2, s3, s4⟩
    simp only [go_sem, ↓reduceIte, reduceIte, Nat.reduceEqDiff, String.reduceEq, Nat.reduceLT, Nat.reduceLeDiff, Nat.reduceAdd, Nat.reduceMul, Nat.reduceSub, Nat.reduceBEq, reduceCtorEq, *] at hk
    by_cases hlt : i < (rsane ⟨next, xs⟩).snaps.length
    · rw [List.drop_eq_getElem_cons hlt, relR] at f2
      (repeat' (first
    | with_reducible refine callX.by (rsane_c _ _ ?_) ?_
    | with_reducible refine callX.by (rwith_c _ _ _ _ _ _ ?_ ?_) ?_
    | with_reducible assumption
    | (with_reducible refine NxK.out hK _ ?_; clear hK K)
    | with_reducible refine NxK.out (by assumption) _ ?_
    | with_reducible refine Nx.out (by assumption) ?_
    | with_reducible refine SpecC.seqW fun K hK => ?_
    | with_reducible refine SpecC.regW T fun K hK => ?_
    | with_reducible refine SpecC.condW fun A B hA hB => ?_
    | with_reducible refine SpecC.block ?_
    | with_reducible refine SpecC.skip ?_
    | with_reducible refine SpecC.label ?_
    | with_reducible refine SpecC.exit ?_
    | with_reducible refine SpecC.goto ?_
    | with_reducible refine SpecC.ret ?_
    | ((with_reducible first | refine condK.split (fun hb => ?_) (fun hb => ?_) | refine gK.split_t (fun hb => ?_) (fun hb => ?_) | refine gK.split_f (fun hb => ?_) (fun hb => ?_)) <;> try simp only [decide_not, ilt_t, ilt_f, ile_t, ile_f, nlt_t, nlt_f, nle_t, nle_f, Bool.not_eq_true', Bool.not_eq_false', Int.ofNat_lt, Int.ofNat_le] at hb)
    | simp only [go_sem, ↓reduceIte, reduceIte, Nat.reduceEqDiff, String.reduceEq, Nat.reduceLT, Nat.reduceLeDiff, Nat.reduceAdd, Nat.reduceMul, Nat.reduceSub, Nat.reduceBEq, reduceCtorEq, *]
    | with_reducible refine fun (bn : Bool) hbn => ?_))
      all_goals ((repeat clear hK); (repeat clear hA); (repeat clear hB))
      all_goals first
        | (refine hM.on ((rsane ⟨next, xs⟩).snaps.length - (i + 1)) (by omega) (by simp only [go_sem, ↓reduceIte, reduceIte, Nat.reduceEqDiff, String.reduceEq, Nat.reduceLT, Nat.reduceLeDiff, Nat.reduceAdd, Nat.reduceMul, Nat.reduceSub, Nat.reduceBEq, reduceCtorEq, *, w64_nat hlt hl2, -f2]) ⟨i + 1, rfl, by omega, by rw [f2, if_neg (of_decide_eq_false hb)], ?_⟩; simp only [go_sem, ↓reduceIte, reduceIte, Nat.reduceEqDiff, String.reduceEq, Nat.reduceLT, Nat.reduceLeDiff, Nat.reduceAdd, Nat.reduceMul, Nat.reduceSub, Nat.reduceBEq, reduceCtorEq, *, w64_nat hlt hl2, -f2]; done)
        | ((try simp only [dec_T, dec_F] at *); simp [ite_true, *])
    · rw [List.drop_eq_nil_of_le (by omega), relR] at f2
      (repeat' (first
    | with_reducible refine callX.by (rsane_c _ _ ?_) ?_
    | with_reducible refine callX.by (rwith_c _ _ _ _ _ _ ?_ ?_) ?_
    | with_reducible assumption
    | (with_reducible refine NxK.out hK _ ?_; clear hK K)
    | with_reducible refine NxK.out (by assumption) _ ?_
    | with_reducible refine Nx.out (by assumption) ?_
    | with_reducible refine SpecC.seqW fun K hK => ?_
    | with_reducible refine SpecC.regW T fun K hK => ?_
    | with_reducible refine SpecC.condW fun A B hA hB => ?_
    | with_reducible refine SpecC.block ?_
    | with_reducible refine SpecC.skip ?_
    | with_reducible refine SpecC.label ?_
    | with_reducible refine SpecC.exit ?_
    | with_reducible refine SpecC.goto ?_
    | with_reducible refine SpecC.ret ?_
    | ((with_reducible first | refine condK.split (fun hb => ?_) (fun hb => ?_) | refine gK.split_t (fun hb => ?_) (fun hb => ?_) | refine gK.split_f (fun hb => ?_) (fun hb => ?_)) <;> try simp only [decide_not, ilt_t, ilt_f, ile_t, ile_f, nlt_t, nlt_f, nle_t, nle_f, Bool.not_eq_true', Bool.not_eq_false', Int.ofNat_lt, Int.ofNat_le] at hb)
    | simp only [go_sem, ↓reduceIte, reduceIte, Nat.reduceEqDiff, String.reduceEq, Nat.reduceLT, Nat.reduceLeDiff, Nat.reduceAdd, Nat.reduceMul, Nat.reduceSub, Nat.reduceBEq, reduceCtorEq, *]
    | with_reducible refine fun (bn : Bool) hbn => ?_))
      all_goals ((repeat clear hK); (repeat clear hA); (repeat clear hB))
      all_goals simp [f2]

set_option maxRecDepth 30000 in
theorem rsame_c (n1 n2 : Int) (xs ys : List Snap) (hl : Small xs.length) (hs : ∀ x ∈ xs, SmSnap x) : CallR Try.prog 22 [.agg [.int .i64 n1, .slice false (avs xs)], .agg [.int .i64 n2, .slice false (avs ys)]] (.val (.bool (decide (n1 = n2 ∧ xs = ys)))) := by
  refine CallR.go2 (T := T) Try.call22 Try.func22 rfl Try.ntmps22 (congrArg Array.toList Try.results22) (by decide) fun ts hn h0 h1 => ?_
  by_cases hll : xs.length = ys.length
  · (repeat' (first
    | with_reducible refine callX.by (all4_c _ _ ?_ ?_) ?_
    | with_reducible assumption
    | (with_reducible refine NxK.out hK _ ?_; clear hK K)
    | with_reducible refine NxK.out (by assumption) _ ?_
    | with_reducible refine Nx.out (by assumption) ?_
    | with_reducible refine SpecC.seqW fun K hK => ?_
    | with_reducible refine SpecC.regW T fun K hK => ?_
    | with_reducible refine SpecC.condW fun A B hA hB => ?_
    | with_reducible refine SpecC.block ?_
    | with_reducible refine SpecC.skip ?_
    | with_reducible refine SpecC.label ?_
    | with_reducible refine SpecC.exit ?_
    | with_reducible refine SpecC.goto ?_
    | with_reducible refine SpecC.ret ?_
    | ((with_reducible first | refine condK.split (fun hb => ?_) (fun hb => ?_) | refine gK.split_t (fun hb => ?_) (fun hb => ?_) | refine gK.split_f (fun hb => ?_) (fun hb => ?_)) <;> try simp only [decide_not, ilt_t, ilt_f, ile_t, ile_f, nlt_t, nlt_f, nle_t, nle_f, Bool.not_eq_true', Bool.not_eq_false', Int.ofNat_lt, Int.ofNat_le] at hb)
    | simp only [go_sem, ↓reduceIte, reduceIte, Nat.reduceEqDiff, String.reduceEq, Nat.reduceLT, Nat.reduceLeDiff, Nat.reduceAdd, Nat.reduceMul, Nat.reduceSub, Nat.reduceBEq, reduceCtorEq, *]
    | with_reducible refine fun (bn : Bool) hbn => ?_))
    · all_goals ((repeat clear hK); (repeat clear hA); (repeat clear hB))
      clear hs; grind
    refine SpecC.loopF [2, 3] (fun m ts' => ∃ (i : Nat), m = xs.length - i ∧ i ≤ xs.length ∧ xs.take i = ys.take i ∧ ts'.tmp 5 = .int .i64 i) xs.length ?_ ?_
    · refine ⟨0, ?_⟩
      simp only [go_sem, ↓reduceIte, reduceIte, Nat.reduceEqDiff, String.reduceEq, Nat.reduceLT, Nat.reduceLeDiff, Nat.reduceAdd, Nat.reduceMul, Nat.reduceSub, Nat.reduceBEq, reduceCtorEq, *]
    · rintro m A hM ts' hk ⟨i, hm, f1, f2, s1⟩
      simp only [go_sem, ↓reduceIte, reduceIte, Nat.reduceEqDiff, String.reduceEq, Nat.reduceLT, Nat.reduceLeDiff, Nat.reduceAdd, Nat.reduceMul, Nat.reduceSub, Nat.reduceBEq, reduceCtorEq, *] at hk
      by_cases hlt : i < xs.length
      · have hlu : i < ys.length := by omega
        have hne := take_ne hlt hlu
        rw [ext_Snap] at hne
        obtain ⟨hs1, hs2⟩ := hs xs[i] (List.getElem_mem hlt)
        (repeat' (first
    | with_reducible refine callX.by (all4_c _ _ ?_ ?_) ?_
    | with_reducible assumption
    | (with_reducible refine NxK.out hK _ ?_; clear hK K)
    | with_reducible refine NxK.out (by assumption) _ ?_
    | with_reducible refine Nx.out (by assumption) ?_
    | with_reducible refine SpecC.seqW fun K hK => ?_
    | with_reducible refine SpecC.regW T fun K hK => ?_
    | with_reducible refine SpecC.condW fun A B hA hB => ?_
    | with_reducible refine SpecC.block ?_
    | with_reducible refine SpecC.skip ?_
    | with_reducible refine SpecC.label ?_
    | with_reducible refine SpecC.exit ?_
    | with_reducible refine SpecC.goto ?_
    | with_reducible refine SpecC.ret ?_
    | ((with_reducible first | refine condK.split (fun hb => ?_) (fun hb => ?_) | refine gK.split_t (fun hb => ?_) (fun hb => ?_) | refine gK.split_f (fun hb => ?_) (fun hb => ?_)) <;> try simp only [decide_not, ilt_t, ilt_f, ile_t, ile_f, nlt_t, nlt_f, nle_t, nle_f, Bool.not_eq_true', Bool.not_eq_false', Int.ofNat_lt, Int.ofNat_le] at hb)
    | simp only [go_sem, ↓reduceIte, reduceIte, Nat.reduceEqDiff, String.reduceEq, Nat.reduceLT, Nat.reduceLeDiff, Nat.reduceAdd, Nat.reduceMul, Nat.reduceSub, Nat.reduceBEq, reduceCtorEq, *]
    | with_reducible refine fun (bn : Bool) hbn => ?_))
        all_goals ((repeat clear hK); (repeat clear hA); (repeat clear hB))
        all_goals clear hs hs2
        all_goals first
          | (refine hM.on (xs.length - (i + 1)) (by omega) (by simp only [go_sem, ↓reduceIte, reduceIte, Nat.reduceEqDiff, String.reduceEq, Nat.reduceLT, Nat.reduceLeDiff, Nat.reduceAdd, Nat.reduceMul, Nat.reduceSub, Nat.reduceBEq, reduceCtorEq, *, w64_nat hlt hl]) ⟨i + 1, rfl, by omega, by clear hM; apply take_get f2 hlt hlu; rw [ext_Snap]; grind, ?_⟩; simp only [go_sem, ↓reduceIte, reduceIte, Nat.reduceEqDiff, String.reduceEq, Nat.reduceLT, Nat.reduceLeDiff, Nat.reduceAdd, Nat.reduceMul, Nat.reduceSub, Nat.reduceBEq, reduceCtorEq, *, w64_nat hlt hl]; done)
          | (clear hM; grind)
      · have := take_all f2 hlt hll
        (repeat' (first
    | with_reducible refine callX.by (all4_c _ _ ?_ ?_) ?_
    | with_reducible assumption
    | (with_reducible refine NxK.out hK _ ?_; clear hK K)
    | with_reducible refine NxK.out (by assumption) _ ?_
    | with_reducible refine Nx.out (by assumption) ?_
    | with_reducible refine SpecC.seqW fun K hK => ?_
    | with_reducible refine SpecC.regW T fun K hK => ?_
    | with_reducible refine SpecC.condW fun A B hA hB => ?_
    | with_reducible refine SpecC.block ?_
    | with_reducible refine SpecC.skip ?_
    | with_reducible refine SpecC.label ?_
    | with_reducible refine SpecC.exit ?_
    | with_reducible refine SpecC.goto ?_
    | with_reducible refine SpecC.ret ?_
    | ((with_reducible first | refine condK.split (fun hb => ?_) (fun hb => ?_) | refine gK.split_t (fun hb => ?_) (fun hb => ?_) | refine gK.split_f (fun hb => ?_) (fun hb => ?_)) <;> try simp only [decide_not, ilt_t, ilt_f, ile_t, ile_f, nlt_t, nlt_f, nle_t, nle_f, Bool.not_eq_true', Bool.not_eq_false', Int.ofNat_lt, Int.ofNat_le] at hb)
    | simp only [go_sem, ↓reduceIte, reduceIte, Nat.reduceEqDiff, String.reduceEq, Nat.reduceLT, Nat.reduceLeDiff, Nat.reduceAdd, Nat.reduceMul, Nat.reduceSub, Nat.reduceBEq, reduceCtorEq, *]
    | with_reducible refine fun (bn : Bool) hbn => ?_))
        all_goals ((repeat clear hK); (repeat clear hA); (repeat clear hB))
        all_goals (clear hM hs; grind)
  · have : ¬ xs = ys := by rintro rfl; exact hll rfl
    (repeat' (first
    | with_reducible refine callX.by (all4_c _ _ ?_ ?_) ?_
    | with_reducible assumption
    | (with_reducible refine NxK.out hK _ ?_; clear hK K)
    | with_reducible refine NxK.out (by assumption) _ ?_
    | with_reducible refine Nx.out (by assumption) ?_
    | with_reducible refine SpecC.seqW fun K hK => ?_
    | with_reducible refine SpecC.regW T fun K hK => ?_
    | with_reducible refine SpecC.condW fun A B hA hB => ?_
    | with_reducible refine SpecC.block ?_
    | with_reducible refine SpecC.skip ?_
    | with_reducible refine SpecC.label ?_
    | with_reducible refine SpecC.exit ?_
    | with_reducible refine SpecC.goto ?_
    | with_reducible refine SpecC.ret ?_
    | ((with_reducible first | refine condK.split (fun hb => ?_) (fun hb => ?_) | refine gK.split_t (fun hb => ?_) (fun hb => ?_) | refine gK.split_f (fun hb => ?_) (fun hb => ?_)) <;> try simp only [decide_not, ilt_t, ilt_f, ile_t, ile_f, nlt_t, nlt_f, nle_t, nle_f, Bool.not_eq_true', Bool.not_eq_false', Int.ofNat_lt, Int.ofNat_le] at hb)
    | simp only [go_sem, ↓reduceIte, reduceIte, Nat.reduceEqDiff, String.reduceEq, Nat.reduceLT, Nat.reduceLeDiff, Nat.reduceAdd, Nat.reduceMul, Nat.reduceSub, Nat.reduceBEq, reduceCtorEq, *]
    | with_reducible refine fun (bn : Bool) hbn => ?_))
    all_goals ((repeat clear hK); (repeat clear hA); (repeat clear hB))
    all_goals (clear hs; grind)

def fewPins (p : Pins) : Bool := p.snaps.all (fun s => fewAll s.l) && decide (p.snaps.length ≤ 20)

set_option maxRecDepth 30000 in
theorem few18_c (next : Int) (xs : List Snap) (hl : Small xs.length) (hs : ∀ x ∈ xs, SmSnap x) : CallR Try.prog 9 [.agg [.int .i64 next, .slice false (avs xs)]] (.val (.bool (fewPins ⟨next, xs⟩))) := by
  refine CallR.go1 (T := T) Try.call9 Try.func9 rfl Try.ntmps9 (congrArg Array.toList Try.results9) (by decide) fun ts hn h0 => ?_
  (repeat' (first
    | with_reducible refine callX.by (few4_c _ ?_ ?_) ?_
    | with_reducible assumption
    | (with_reducible refine NxK.out hK _ ?_; clear hK K)
    | with_reducible refine NxK.out (by assumption) _ ?_
    | with_reducible refine Nx.out (by assumption) ?_
    | with_reducible refine SpecC.seqW fun K hK => ?_
    | with_reducible refine SpecC.regW T fun K hK => ?_
    | with_reducible refine SpecC.condW fun A B hA hB => ?_
    | with_reducible refine SpecC.block ?_
    | with_reducible refine SpecC.skip ?_
    | with_reducible refine SpecC.label ?_
    | with_reducible refine SpecC.exit ?_
    | with_reducible refine SpecC.goto ?_
    | with_reducible refine SpecC.ret ?_
    | ((with_reducible first | refine condK.split (fun hb => ?_) (fun hb => ?_) | refine gK.split_t (fun hb => ?_) (fun hb => ?_) | refine gK.split_f (fun hb => ?_) (fun hb => ?_)) <;> try simp only [decide_not, ilt_t, ilt_f, ile_t, ile_f, nlt_t, nlt_f, nle_t, nle_f, Bool.not_eq_true', Bool.not_eq_false', Int.ofNat_lt, Int.ofNat_le] at hb)
    | simp only [go_sem, ↓reduceIte, reduceIte, Nat.reduceEqDiff, String.reduceEq, Nat.reduceLT, Nat.reduceLeDiff, Nat.reduceAdd, Nat.reduceMul, Nat.reduceSub, Nat.reduceBEq, reduceCtorEq, *]
    | with_reducible refine fun (bn : Bool) hbn => ?_))
  refine SpecC.loopF [1] (fun m ts' => ∃ (i : Nat), m = xs.length - i ∧ i ≤ xs.length ∧ xs.all (fun s => fewAll s.l) = (xs.drop i).all (fun s => fewAll s.l) ∧ ts'.tmp 3 = .int .i64 i) xs.length ?_ ?_
  · refine ⟨0, ?_⟩
    simp only [go_sem, ↓reduceIte, reduceIte, Nat.reduceEqDiff, String.reduceEq, Nat.reduceLT, Nat.reduceLeDiff, Nat.reduceAdd, Nat.reduceMul, Nat.reduceSub, Nat.reduceBEq, reduceCtorEq, *]
  · rintro m A hM ts' hk ⟨i, hm, f1, f2, s1⟩
    simp only [go_sem, ↓reduceIte, reduceIte, Nat.reduceEqDiff, String.reduceEq, Nat.reduceLT, Nat.reduceLeDiff, Nat.reduceAdd, Nat.reduceMul, Nat.reduceSub, Nat.reduceBEq, reduceCtorEq, *] at hk
    by_cases hlt : i < xs.length
    · rw [List.drop_eq_getElem_cons hlt, List.all_cons] at f2
      obtain ⟨hs1, hs2⟩ := hs xs[i] (List.getElem_mem hlt)
      (repeat' (first
    | with_reducible refine callX.by (few4_c _ ?_ ?_) ?_
    | with_reducible assumption
    | (with_reducible refine NxK.out hK _ ?_; clear hK K)
    | with_reducible refine NxK.out (by assumption) _ ?_
    | with_reducible refine Nx.out (by assumption) ?_
    | with_reducible refine SpecC.seqW fun K hK => ?_
    | with_reducible refine SpecC.regW T fun K hK => ?_
    | with_reducible refine SpecC.condW fun A B hA hB => ?_
    | with_reducible refine SpecC.block ?_
    | with_reducible refine SpecC.skip ?_
    | with_reducible refine SpecC.label ?_
    | with_reducible refine SpecC.exit ?_
    | with_reducible refine SpecC.goto ?_
    | with_reducible refine SpecC.ret ?_
    | ((with_reducible first | refine condK.split (fun hb => ?_) (fun hb => ?_) | refine gK.split_t (fun hb => ?_) (fun hb => ?_) | refine gK.split_f (fun hb => ?_) (fun hb => ?_)) <;> try simp only [decide_not, ilt_t, ilt_f, ile_t, ile_f, nlt_t, nlt_f, nle_t, nle_f, Bool.not_eq_true', Bool.not_eq_false', Int.ofNat_lt, Int.ofNat_le] at hb)
    | simp only [go_sem, ↓reduceIte, reduceIte, Nat.reduceEqDiff, String.reduceEq, Nat.reduceLT, Nat.reduceLeDiff, Nat.reduceAdd, Nat.reduceMul, Nat.reduceSub, Nat.reduceBEq, reduceCtorEq, *]
    | with_reducible refine fun (bn : Bool) hbn => ?_))
      all_goals ((repeat clear hK); (repeat clear hA); (repeat clear hB))
      all_goals clear hs hs2
      all_goals first
        | (refine hM.on (xs.length - (i + 1)) (by omega) (by simp only [go_sem, ↓reduceIte, reduceIte, Nat.reduceEqDiff, String.reduceEq, Nat.reduceLT, Nat.reduceLeDiff, Nat.reduceAdd, Nat.reduceMul, Nat.reduceSub, Nat.reduceBEq, reduceCtorEq, *, w64_nat hlt hl, -f2]) ⟨i + 1, rfl, by omega, by clear hM; grind, ?_⟩; simp only [go_sem, ↓reduceIte, reduceIte, Nat.reduceEqDiff, String.reduceEq, Nat.reduceLT, Nat.reduceLeDiff, Nat.reduceAdd, Nat.reduceMul, Nat.reduceSub, Nat.reduceBEq, reduceCtorEq, *, w64_nat hlt hl, -f2]; done)
        | (clear hM; grind [fewPins])
    · rw [List.drop_eq_nil_of_le (by omega), List.all_nil] at f2
      (repeat' (first
    | with_reducible refine callX.by (few4_c _ ?_ ?_) ?_
    | with_reducible assumption
    | (with_reducible refine NxK.out hK _ ?_; clear hK K)
    | with_reducible refine NxK.out (by assumption) _ ?_
    | with_reducible refine Nx.out (by assumption) ?_
    | with_reducible refine SpecC.seqW fun K hK => ?_
    | with_reducible refine SpecC.regW T fun K hK => ?_
    | with_reducible refine SpecC.condW fun A B hA hB => ?_
    | with_reducible refine SpecC.block ?_
    | with_reducible refine SpecC.skip ?_
    | with_reducible refine SpecC.label ?_
    | with_reducible refine SpecC.exit ?_
    | with_reducible refine SpecC.goto ?_
    | with_reducible refine SpecC.ret ?_
    | ((with_reducible first | refine condK.split (fun hb => ?_) (fun hb => ?_) | refine gK.split_t (fun hb => ?_) (fun hb => ?_) | refine gK.split_f (fun hb => ?_) (fun hb => ?_)) <;> try simp only [decide_not, ilt_t, ilt_f, ile_t, ile_f, nlt_t, nlt_f, nle_t, nle_f, Bool.not_eq_true', Bool.not_eq_false', Int.ofNat_lt, Int.ofNat_le] at hb)
    | simp only [go_sem, ↓reduceIte, reduceIte, Nat.reduceEqDiff, String.reduceEq, Nat.reduceLT, Nat.reduceLeDiff, Nat.reduceAdd, Nat.reduceMul, Nat.reduceSub, Nat.reduceBEq, reduceCtorEq, *]
    | with_reducible refine fun (bn : Bool) hbn => ?_))
      all_goals ((repeat clear hK); (repeat clear hA); (repeat clear hB))
      all_goals (clear hM hs; grind [fewPins])
end Go.Proofs.Ytjmnokbbodcaaaa.Lg
