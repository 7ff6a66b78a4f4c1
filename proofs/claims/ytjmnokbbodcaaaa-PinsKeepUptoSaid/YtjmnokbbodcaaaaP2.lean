/- pins: idle, sane, place, Current, Get; res.Key. -/
import Derived.Test.YtjmnokbbodcaaaaP1
namespace Go.Proofs.Ytjmnokbbodcaaaa.Lg
set_option linter.unusedVariables false
set_option linter.unusedSimpArgs false
open Go

set_option maxRecDepth 30000 in
theorem idle_c (id pins : Int) (xs : List Res) : CallR Try.prog 47 [.agg [.int .i64 id, .int .i64 pins, .slice false (avs xs)]] (.val (.bool (decide (pins = 0)))) := by
  refine CallR.go1 (T := T) Try.call47 Try.func47 rfl Try.ntmps47 (congrArg Array.toList Try.results47) (by decide) fun ts hn h0 => ?_
  (repeat' (first
    | with_reducible assumption
    | (with_reducible refine NxK.out hK _ ?_; clear hK K)
    | with_reducible refine NxK.out (by assumption) _ ?_
    | with_reducible refine Nx.out (by assumption) ?_
    | with_reducible refine SpecC.seqW fun K hK => ?_
    | with_reducible refine SpecC.regW T fun K hK => ?_
    | with_reducible refine SpecC.condW fun A B hA hB => ?_
    | with_reducible refine SpecC.block ?_
    | with_reducible refine SpecC.skip ?_
    | with_reducible refine SpecC.label ?_
    | with_reducible refine SpecC.exit ?_
    | with_reducible refine SpecC.goto ?_
    | with_reducible refine SpecC.ret ?_
    | ((with_reducible first | refine condK.split (fun hb => ?_) (fun hb => ?_) | refine gK.split_t (fun hb => ?_) (fun hb => ?_) | refine gK.split_f (fun hb => ?_) (fun hb => ?_)) <;> try simp only [decide_not, ilt_t, ilt_f, ile_t, ile_f, nlt_t, nlt_f, nle_t, nle_f, Bool.not_eq_true', Bool.not_eq_false', Int.ofNat_lt, Int.ofNat_le] at hb)
    | simp only [go_sem, ↓reduceIte, reduceIte, Nat.reduceEqDiff, String.reduceEq, Nat.reduceLT, Nat.reduceLeDiff, Nat.reduceAdd, Nat.reduceMul, Nat.reduceSub, Nat.reduceBEq, reduceCtorEq, *]
    | with_reducible refine fun (bn : Bool) hbn => ?_))

def psane (p : Pins) : Pins := if pSane p then p else ⟨0, []⟩
theorem psane_small {p : Pins} (h : Small p.snaps.length) : Small (psane p).snaps.length := by
  unfold psane; split
  · exact h
  · simp [Small]

set_option maxRecDepth 30000 in
theorem psane_c (next : Int) (xs : List Snap) (hl : Small xs.length) : CallR Try.prog 35 [.agg [.int .i64 next, .slice false (avs xs)]] (.val (Dat.av (psane ⟨next, xs⟩))) := by
  refine CallR.go1 (T := T) Try.call35 Try.func35 rfl Try.ntmps35 (congrArg Array.toList Try.results35) (by decide) fun ts hn h0 => ?_
  (repeat' (first
    | with_reducible refine callX.by (pSane_c _ _ ?_) ?_
    | with_reducible assumption
    | (with_reducible refine NxK.out hK _ ?_; clear hK K)
    | with_reducible refine NxK.out (by assumption) _ ?_
    | with_reducible refine Nx.out (by assumption) ?_
    | with_reducible refine SpecC.seqW fun K hK => ?_
    | with_reducible refine SpecC.regW T fun K hK => ?_
    | with_reducible refine SpecC.condW fun A B hA hB => ?_
    | with_reducible refine SpecC.block ?_
    | with_reducible refine SpecC.skip ?_
    | with_reducible refine SpecC.label ?_
    | with_reducible refine SpecC.exit ?_
    | with_reducible refine SpecC.goto ?_
    | with_reducible refine SpecC.ret ?_
    | ((with_reducible first | refine condK.split (fun hb => ?_) (fun hb => ?_) | refine gK.split_t (fun hb => ?_) (fun hb => ?_) | refine gK.split_f (fun hb => ?_) (fun hb => ?_)) <;> try simp only [decide_not, ilt_t, ilt_f, ile_t, ile_f, nlt_t, nlt_f, nle_t, nle_f, Bool.not_eq_true', Bool.not_eq_false', Int.ofNat_lt, Int.ofNat_le] at hb)
    | simp only [go_sem, ↓reduceIte, reduceIte, Nat.reduceEqDiff, String.reduceEq, Nat.reduceLT, Nat.reduceLeDiff, Nat.reduceAdd, Nat.reduceMul, Nat.reduceSub, Nat.reduceBEq, reduceCtorEq, *]
    | with_reducible refine fun (bn : Bool) hbn => ?_))
  all_goals simp [psane, *, avs_nil, av_Pins]

set_option maxRecDepth 30000 in
theorem rkey_c (kind ver port : Int) (name to : List UInt8) (rs : List Rule) (hs : List Int) : CallR Try.prog 13 [.agg [.int .i64 kind, .str name, .int .i64 ver, .int .i64 port, .str to, .slice false (avs rs), .slice false (avs hs)]] (.val (.agg [.int .i64 kind, .str name])) := by
  refine CallR.go1 (T := T) Try.call13 Try.func13 rfl Try.ntmps13 (congrArg Array.toList Try.results13) (by decide) fun ts hn h0 => ?_
  (repeat' (first
    | with_reducible assumption
    | (with_reducible refine NxK.out hK _ ?_; clear hK K)
    | with_reducible refine NxK.out (by assumption) _ ?_
    | with_reducible refine Nx.out (by assumption) ?_
    | with_reducible refine SpecC.seqW fun K hK => ?_
    | with_reducible refine SpecC.regW T fun K hK => ?_
    | with_reducible refine SpecC.condW fun A B hA hB => ?_
    | with_reducible refine SpecC.block ?_
    | with_reducible refine SpecC.skip ?_
    | with_reducible refine SpecC.label ?_
    | with_reducible refine SpecC.exit ?_
    | with_reducible refine SpecC.goto ?_
    | with_reducible refine SpecC.ret ?_
    | ((with_reducible first | refine condK.split (fun hb => ?_) (fun hb => ?_) | refine gK.split_t (fun hb => ?_) (fun hb => ?_) | refine gK.split_f (fun hb => ?_) (fun hb => ?_)) <;> try simp only [decide_not, ilt_t, ilt_f, ile_t, ile_f, nlt_t, nlt_f, nle_t, nle_f, Bool.not_eq_true', Bool.not_eq_false', Int.ofNat_lt, Int.ofNat_le] at hb)
    | simp only [go_sem, ↓reduceIte, reduceIte, Nat.reduceEqDiff, String.reduceEq, Nat.reduceLT, Nat.reduceLeDiff, Nat.reduceAdd, Nat.reduceMul, Nat.reduceSub, Nat.reduceBEq, reduceCtorEq, *]
    | with_reducible refine fun (bn : Bool) hbn => ?_))

def placeN (xs : List Snap) (id : Int) : Nat → Int
  | 0 => -1
  | n + 1 => if (xs.getD n default).id = id then n else placeN xs id n

theorem placeN_pos {xs : List Snap} {id : Int} {k : Nat} (h0 : 0 < k) (hk : k ≤ xs.length) : placeN xs id k = if (xs[k - 1]'(by omega)).id = id then (k : Int) - 1 else placeN xs id (k - 1) := by
  obtain ⟨n, rfl⟩ : ∃ n, k = n + 1 := ⟨k - 1, by omega⟩
  rw [placeN]
  have e : xs.getD n default = xs[n] := by simp [show n < xs.length by omega]
  simp only [Nat.add_sub_cancel, e]
  split <;> simp
theorem placeN_lt (xs : List Snap) (id : Int) : ∀ k, placeN xs id k < k ∧ -1 ≤ placeN xs id k
  | 0 => by simp [placeN]
  | k + 1 => by
    have := placeN_lt xs id k
    rw [placeN]
    split <;> omega

set_option maxRecDepth 30000 in
theorem place_c (next id : Int) (xs : List Snap) (hl : Small xs.length) : CallR Try.prog 42 [.agg [.int .i64 next, .slice false (avs xs)], .int .i64 id] (.val (.int .i64 (placeN xs id xs.length))) := by
  refine CallR.go2 (T := T) Try.call42 Try.func42 rfl Try.ntmps42 (congrArg Array.toList Try.results42) (by decide) fun ts hn h0 h1 => ?_
  (repeat' (first
    | with_reducible refine callX.by (last_c _ _ ?_) ?_
    | with_reducible assumption
    | (with_reducible refine NxK.out hK _ ?_; clear hK K)
    | with_reducible refine NxK.out (by assumption) _ ?_
    | with_reducible refine Nx.out (by assumption) ?_
    | with_reducible refine SpecC.seqW fun K hK => ?_
    | with_reducible refine SpecC.regW T fun K hK => ?_
    | with_reducible refine SpecC.condW fun A B hA hB => ?_
    | with_reducible refine SpecC.block ?_
    | with_reducible refine SpecC.skip ?_
    | with_reducible refine SpecC.label ?_
    | with_reducible refine SpecC.exit ?_
    | with_reducible refine SpecC.goto ?_
    | with_reducible refine SpecC.ret ?_
    | ((with_reducible first | refine condK.split (fun hb => ?_) (fun hb => ?_) | refine gK.split_t (fun hb => ?_) (fun hb => ?_) | refine gK.split_f (fun hb => ?_) (fun hb => ?_)) <;> try simp only [decide_not, ilt_t, ilt_f, ile_t, ile_f, nlt_t, nlt_f, nle_t, nle_f, Bool.not_eq_true', Bool.not_eq_false', Int.ofNat_lt, Int.ofNat_le] at hb)
    | simp only [go_sem, ↓reduceIte, reduceIte, Nat.reduceEqDiff, String.reduceEq, Nat.reduceLT, Nat.reduceLeDiff, Nat.reduceAdd, Nat.reduceMul, Nat.reduceSub, Nat.reduceBEq, reduceCtorEq, *]
    | with_reducible refine fun (bn : Bool) hbn => ?_))
  refine SpecC.scopeF 0 [1, 2] (fun m ts' => ∃ (k : Nat), m = k ∧ k ≤ xs.length ∧ placeN xs id xs.length = placeN xs id k ∧ ts'.tmp 2 = .ref 2 (ts.gen 2 + 1) 0 ∧ ts'.gen 2 = ts.gen 2 + 1 ∧ ts'.obj 2 = .box [.int .i64 next, .slice false (avs xs)] ∧ ts'.tmp 5 = .int .i64 (k - 1)) (xs.length + 1) rfl ?_ ?_
  · intro J hM
    (repeat' (first
    | with_reducible refine callX.by (last_c _ _ ?_) ?_
    | with_reducible assumption
    | (with_reducible refine NxK.out hK _ ?_; clear hK K)
    | with_reducible refine NxK.out (by assumption) _ ?_
    | with_reducible refine Nx.out (by assumption) ?_
    | with_reducible refine SpecC.seqW fun K hK => ?_
    | with_reducible refine SpecC.regW T fun K hK => ?_
    | with_reducible refine SpecC.condW fun A B hA hB => ?_
    | with_reducible refine SpecC.block ?_
    | with_reducible refine SpecC.skip ?_
    | with_reducible refine SpecC.label ?_
    | with_reducible refine SpecC.exit ?_
    | with_reducible refine SpecC.goto ?_
    | with_reducible refine SpecC.ret ?_
    | ((with_reducible first | refine condK.split (fun hb => ?_) (fun hb => ?_) | refine gK.split_t (fun hb => ?_) (fun hb => ?_) | refine gK.split_f (fun hb => ?_) (fun hb => ?_)) <;> try simp only [decide_not, ilt_t, ilt_f, ile_t, ile_f, nlt_t, nlt_f, nle_t, nle_f, Bool.not_eq_true', Bool.not_eq_false', Int.ofNat_lt, Int.ofNat_le] at hb)
    | simp only [go_sem, ↓reduceIte, reduceIte, Nat.reduceEqDiff, String.reduceEq, Nat.reduceLT, Nat.reduceLeDiff, Nat.reduceAdd, Nat.reduceMul, Nat.reduceSub, Nat.reduceBEq, reduceCtorEq, *]
    | with_reducible refine fun (bn : Bool) hbn => ?_))
    all_goals ((repeat clear hK); (repeat clear hA); (repeat clear hB))
    · have hb0 : 0 < xs.length := by assumption
      have e := placeN_pos (id := id) hb0 (Nat.le_refl _)
      rw [if_neg (of_decide_eq_false hb)] at e
      (refine hM.on (xs.length - 1) (by omega) (by simp only [go_sem, ↓reduceIte, reduceIte, Nat.reduceEqDiff, String.reduceEq, Nat.reduceLT, Nat.reduceLeDiff, Nat.reduceAdd, Nat.reduceMul, Nat.reduceSub, Nat.reduceBEq, reduceCtorEq, *, w64_pred2 (Nat.le_refl _) hb0 hl, -e]) ⟨xs.length - 1, rfl, by omega, e, ?_⟩; simp only [go_sem, ↓reduceIte, reduceIte, Nat.reduceEqDiff, String.reduceEq, Nat.reduceLT, Nat.reduceLeDiff, Nat.reduceAdd, Nat.reduceMul, Nat.reduceSub, Nat.reduceBEq, reduceCtorEq, *, w64_pred2 (Nat.le_refl _) hb0 hl, -e]; done)
    · have hb0 : 0 < xs.length := by assumption
      rw [placeN_pos (id := id) hb0 (Nat.le_refl _), if_pos (of_decide_eq_true hb)]
    · have hb0 : xs.length = 0 := by omega
      rw [hb0]; rfl
  · rintro m A hM ts' hk ⟨k, hm, f1, f2, s1, s2, s3, s4⟩
    simp only [go_sem, ↓reduceIte, reduceIte, Nat.reduceEqDiff, String.reduceEq, Nat.reduceLT, Nat.reduceLeDiff, Nat.reduceAdd, Nat.reduceMul, Nat.reduceSub, Nat.reduceBEq, reduceCtorEq, *] at hk
    obtain rfl := hm
    (repeat' (first
    | with_reducible refine callX.by (last_c _ _ ?_) ?_
    | with_reducible assumption
    | (with_reducible refine NxK.out hK _ ?_; clear hK K)
    | with_reducible refine NxK.out (by assumption) _ ?_
    | with_reducible refine Nx.out (by assumption) ?_
    | with_reducible refine SpecC.seqW fun K hK => ?_
    | with_reducible refine SpecC.regW T fun K hK => ?_
    | with_reducible refine SpecC.condW fun A B hA hB => ?_
    | with_reducible refine SpecC.block ?_
    | with_reducible refine SpecC.skip ?_
    | with_reducible refine SpecC.label ?_
    | with_reducible refine SpecC.exit ?_
    | with_reducible refine SpecC.goto ?_
    | with_reducible refine SpecC.ret ?_
    | ((with_reducible first | refine condK.split (fun hb => ?_) (fun hb => ?_) | refine gK.split_t (fun hb => ?_) (fun hb => ?_) | refine gK.split_f (fun hb => ?_) (fun hb => ?_)) <;> try simp only [decide_not, ilt_t, ilt_f, ile_t, ile_f, nlt_t, nlt_f, nle_t, nle_f, Bool.not_eq_true', Bool.not_eq_false', Int.ofNat_lt, Int.ofNat_le] at hb)
    | simp only [go_sem, ↓reduceIte, reduceIte, Nat.reduceEqDiff, String.reduceEq, Nat.reduceLT, Nat.reduceLeDiff, Nat.reduceAdd, Nat.reduceMul, Nat.reduceSub, Nat.reduceBEq, reduceCtorEq, *]
    | with_reducible refine fun (bn : Bool) hbn => ?_))
    all_goals ((repeat clear hK); (repeat clear hA); (repeat clear hB))
    · have hb0 : 0 < m := by assumption
      have e := placeN_pos (id := id) hb0 f1
      rw [if_neg (of_decide_eq_false hb)] at e
      (refine hM.on (m - 1) (by omega) (by simp only [go_sem, ↓reduceIte, reduceIte, Nat.reduceEqDiff, String.reduceEq, Nat.reduceLT, Nat.reduceLeDiff, Nat.reduceAdd, Nat.reduceMul, Nat.reduceSub, Nat.reduceBEq, reduceCtorEq, *, w64_pred2 f1 hb0 hl, -e, -f2]) ⟨m - 1, rfl, by omega, f2.trans e, ?_⟩; simp only [go_sem, ↓reduceIte, reduceIte, Nat.reduceEqDiff, String.reduceEq, Nat.reduceLT, Nat.reduceLeDiff, Nat.reduceAdd, Nat.reduceMul, Nat.reduceSub, Nat.reduceBEq, reduceCtorEq, *, w64_pred2 f1 hb0 hl, -e, -f2]; done)
    · have hb0 : 0 < m := by assumption
      rw [placeN_pos (id := id) hb0 f1, if_pos (of_decide_eq_true hb)]
    · have hb0 : m = 0 := by omega
      rw [hb0]; rfl

def pcurrent (p : Pins) : Int × List Res × Bool :=
  match (psane p).snaps.getLast? with
  | none => (0, [], false)
  | some s => (s.id, s.l, true)

set_option maxRecDepth 30000 in
theorem current_c (next : Int) (xs : List Snap) (hl : Small xs.length) : CallR Try.prog 28 [.agg [.int .i64 next, .slice false (avs xs)]] (.val (.tup [.int .i64 (pcurrent ⟨next, xs⟩).1, .slice false (avs (pcurrent ⟨next, xs⟩).2.1), .bool (pcurrent ⟨next, xs⟩).2.2])) := by
  have hl2 : Small (psane ⟨next, xs⟩).snaps.length := psane_small hl
  refine CallR.go1 (T := T) Try.call28 Try.func28 rfl Try.ntmps28 (congrArg Array.toList Try.results28) (by decide) fun ts hn h0 => ?_
  (repeat' (first
    | with_reducible refine callX.by (psane_c _ _ ?_) ?_
    | with_reducible refine callX.by (last_c _ _ ?_) ?_
    | with_reducible assumption
    | (with_reducible refine NxK.out hK _ ?_; clear hK K)
    | with_reducible refine NxK.out (by assumption) _ ?_
    | with_reducible refine Nx.out (by assumption) ?_
    | with_reducible refine SpecC.seqW fun K hK => ?_
    | with_reducible refine SpecC.regW T fun K hK => ?_
    | with_reducible refine SpecC.drawW (id := 5) T mixed [([12], [14, 16, 17, 18, 19, 20, 21, 22, 23]), ([13], [14, 17, 18, 19, 20, 21, 22, 23]), ([14], [12, 13, 17, 18, 19, 20, 21, 22, 23]), ([15], [18, 19, 20, 21, 22, 23]), ([16], [12, 18, 19, 20, 21, 22, 23]), ([17], [12, 13, 14, 18, 19, 20, 21, 22, 23]), ([18], [12, 13, 14, 15, 16, 17, 20, 22, 23, 2]), ([19], [12, 13, 14, 15, 16, 17, 20, 23, 2]), ([20], [12, 13, 14, 15, 16, 17, 18, 19, 23, 2]), ([21], [12, 13, 14, 15, 16, 17, 2]), ([22], [12, 13, 14, 15, 16, 17, 18, 2]), ([23], [12, 13, 14, 15, 16, 17, 18, 19, 20, 2]), ([2], [18, 19, 20, 21, 22, 23])] (by kernel_rfl) fun K hK => ?_
    | with_reducible refine SpecC.condW fun A B hA hB => ?_
    | with_reducible refine SpecC.block ?_
    | with_reducible refine SpecC.skip ?_
    | with_reducible refine SpecC.label ?_
    | with_reducible refine SpecC.exit ?_
    | with_reducible refine SpecC.goto ?_
    | with_reducible refine SpecC.ret ?_
    | ((with_reducible first | refine condK.split (fun hb => ?_) (fun hb => ?_) | refine gK.split_t (fun hb => ?_) (fun hb => ?_) | refine gK.split_f (fun hb => ?_) (fun hb => ?_)) <;> try simp only [decide_not, ilt_t, ilt_f, ile_t, ile_f, nlt_t, nlt_f, nle_t, nle_f, Bool.not_eq_true', Bool.not_eq_false', Int.ofNat_lt, Int.ofNat_le] at hb)
    | simp only [go_sem, ↓reduceIte, reduceIte, Nat.reduceEqDiff, String.reduceEq, Nat.reduceLT, Nat.reduceLeDiff, Nat.reduceAdd, Nat.reduceMul, Nat.reduceSub, Nat.reduceBEq, reduceCtorEq, *]
    | with_reducible refine fun (bn : Bool) hbn => ?_))
  · have h0 : (psane ⟨next, xs⟩).snaps = [] := by simpa using hb
    simp [pcurrent, h0, avs_nil]
  · simp [pcurrent, List.getLast?_eq_getElem?, List.getElem?_eq_getElem (show (psane ⟨next, xs⟩).snaps.length - 1 < (psane ⟨next, xs⟩).snaps.length by omega)]

def pget (p : Pins) (id : Int) : List Res × Bool :=
  let q := psane p
  let k := placeN q.snaps id q.snaps.length
  if k < 0 then ([], false) else ((q.snaps.getD k.toNat default).l, true)

set_option maxRecDepth 30000 in
theorem pget_c (next id : Int) (xs : List Snap) (hl : Small xs.length) : CallR Try.prog 15 [.agg [.int .i64 next, .slice false (avs xs)], .int .i64 id] (.val (.tup [.slice false (avs (pget ⟨next, xs⟩ id).1), .bool (pget ⟨next, xs⟩ id).2])) := by
  have hl2 : Small (psane ⟨next, xs⟩).snaps.length := psane_small hl
  have hp := placeN_lt (psane ⟨next, xs⟩).snaps id (psane ⟨next, xs⟩).snaps.length
  refine CallR.go2 (T := T) Try.call15 Try.func15 rfl Try.ntmps15 (congrArg Array.toList Try.results15) (by decide) fun ts hn h0 h1 => ?_
  by_cases hneg : placeN (psane ⟨next, xs⟩).snaps id (psane ⟨next, xs⟩).snaps.length < 0
  · (repeat' (first
    | with_reducible refine callX.by (psane_c _ _ ?_) ?_
    | with_reducible refine callX.by (place_c _ _ _ ?_) ?_
    | with_reducible assumption
    | (with_reducible refine NxK.out hK _ ?_; clear hK K)
    | with_reducible refine NxK.out (by assumption) _ ?_
    | with_reducible refine Nx.out (by assumption) ?_
    | with_reducible refine SpecC.seqW fun K hK => ?_
    | with_reducible refine SpecC.regW T fun K hK => ?_
    | with_reducible refine SpecC.condW fun A B hA hB => ?_
    | with_reducible refine SpecC.block ?_
    | with_reducible refine SpecC.skip ?_
    | with_reducible refine SpecC.label ?_
    | with_reducible refine SpecC.exit ?_
    | with_reducible refine SpecC.goto ?_
    | with_reducible refine SpecC.ret ?_
    | ((with_reducible first | refine condK.split (fun hb => ?_) (fun hb => ?_) | refine gK.split_t (fun hb => ?_) (fun hb => ?_) | refine gK.split_f (fun hb => ?_) (fun hb => ?_)) <;> try simp only [decide_not, ilt_t, ilt_f, ile_t, ile_f, nlt_t, nlt_f, nle_t, nle_f, Bool.not_eq_true', Bool.not_eq_false', Int.ofNat_lt, Int.ofNat_le] at hb)
    | simp only [go_sem, ↓reduceIte, reduceIte, Nat.reduceEqDiff, String.reduceEq, Nat.reduceLT, Nat.reduceLeDiff, Nat.reduceAdd, Nat.reduceMul, Nat.reduceSub, Nat.reduceBEq, reduceCtorEq, *]
    | with_reducible refine fun (bn : Bool) hbn => ?_))
    all_goals simp [pget, hneg, avs_nil]
  · obtain ⟨k, hk⟩ : ∃ k : Nat, placeN (psane ⟨next, xs⟩).snaps id (psane ⟨next, xs⟩).snaps.length = k := ⟨_, (Int.toNat_of_nonneg (by omega)).symm⟩
    have hlt : k < (psane ⟨next, xs⟩).snaps.length := by omega
    (repeat' (first
    | with_reducible refine callX.by (psane_c _ _ ?_) ?_
    | with_reducible refine callX.by (place_c _ _ _ ?_) ?_
    | with_reducible assumption
    | (with_reducible refine NxK.out hK _ ?_; clear hK K)
    | with_reducible refine NxK.out (by assumption) _ ?_
    | with_reducible refine Nx.out (by assumption) ?_
    | with_reducible refine SpecC.seqW fun K hK => ?_
    | with_reducible refine SpecC.regW T fun K hK => ?_
    | with_reducible refine SpecC.condW fun A B hA hB => ?_
    | with_reducible refine SpecC.block ?_
    | with_reducible refine SpecC.skip ?_
    | with_reducible refine SpecC.label ?_
    | with_reducible refine SpecC.exit ?_
    | with_reducible refine SpecC.goto ?_
    | with_reducible refine SpecC.ret ?_
    | ((with_reducible first | refine condK.split (fun hb => ?_) (fun hb => ?_) | refine gK.split_t (fun hb => ?_) (fun hb => ?_) | refine gK.split_f (fun hb => ?_) (fun hb => ?_)) <;> try simp only [decide_not, ilt_t, ilt_f, ile_t, ile_f, nlt_t, nlt_f, nle_t, nle_f, Bool.not_eq_true', Bool.not_eq_false', Int.ofNat_lt, Int.ofNat_le] at hb)
    | simp only [go_sem, ↓reduceIte, reduceIte, Nat.reduceEqDiff, String.reduceEq, Nat.reduceLT, Nat.reduceLeDiff, Nat.reduceAdd, Nat.reduceMul, Nat.reduceSub, Nat.reduceBEq, reduceCtorEq, *]
    | with_reducible refine fun (bn : Bool) hbn => ?_))
    all_goals simp [pget, hk, hlt, natneg]
end Go.Proofs.Ytjmnokbbodcaaaa.Lg
