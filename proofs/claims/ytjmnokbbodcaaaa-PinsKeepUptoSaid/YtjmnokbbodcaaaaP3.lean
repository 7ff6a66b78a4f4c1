/- slices.Clone, table.Keys, pins.Pin; cmp and strings.Compare; res.Cmp; the reference's Key and Sane. -/
import Derived.Test.YtjmnokbbodcaaaaP2
import Derived.Lib.Bytealg
namespace Go.Proofs.Ytjmnokbbodcaaaa.Lg
set_option linter.unusedVariables false
set_option linter.unusedSimpArgs false
open Go

theorem room_of {n b : Nat} (h : Small n) (hb : b ≤ 16384) : Room (n + 1) b := room_small (by unfold Small at h; omega) hb

set_option maxRecDepth 30000 in
theorem clone_c (c : Bool) (xs : List Snap) (hl : Small xs.length) : CallR Try.prog 45 [.slice c (avs xs)] (.own 3 (avs xs)) := by
  have hr : Room xs.length 40 := room_small (by unfold Small at hl; omega) (by decide)
  refine CallR.go1 (T := T) Try.call45 Try.func45 rfl Try.ntmps45 (congrArg Array.toList Try.results45) (by decide) fun ts hn h0 => ?_
  (repeat' (first
    | with_reducible assumption
    | (with_reducible refine NxK.out hK _ ?_; clear hK K)
    | with_reducible refine NxK.out (by assumption) _ ?_
    | with_reducible refine Nx.out (by assumption) ?_
    | with_reducible refine SpecC.seqW fun K hK => ?_
    | with_reducible refine SpecC.regW T fun K hK => ?_
    | with_reducible refine SpecC.condW fun A B hA hB => ?_
    | with_reducible refine SpecC.block ?_
    | with_reducible refine SpecC.skip ?_
    | with_reducible refine SpecC.label ?_
    | with_reducible refine SpecC.exit ?_
    | with_reducible refine SpecC.goto ?_
    | with_reducible refine SpecC.ret ?_
    | ((with_reducible first | refine condK.split (fun hb => ?_) (fun hb => ?_) | refine gK.split_t (fun hb => ?_) (fun hb => ?_) | refine gK.split_f (fun hb => ?_) (fun hb => ?_)) <;> try simp only [decide_not, ilt_t, ilt_f, ile_t, ile_f, nlt_t, nlt_f, nle_t, nle_f, Bool.not_eq_true', Bool.not_eq_false', Int.ofNat_lt, Int.ofNat_le] at hb)
    | simp only [go_sem, ↓reduceIte, reduceIte, Nat.reduceEqDiff, String.reduceEq, Nat.reduceLT, Nat.reduceLeDiff, Nat.reduceAdd, Nat.reduceMul, Nat.reduceSub, Nat.reduceBEq, reduceCtorEq, *]
    | with_reducible refine fun (bn : Bool) hbn => ?_))

def keyOf (r : Res) : Key := ⟨r.kind, r.name⟩

set_option maxRecDepth 30000 in
theorem tkeys_c (xs : List Res) (hl : Small xs.length) : CallR Try.prog 36 [.slice false (avs xs)] (.own 2 (avs (xs.map keyOf))) := by
  refine CallR.go1 (T := T) Try.call36 Try.func36 rfl Try.ntmps36 (congrArg Array.toList Try.results36) (by decide) fun ts hn h0 => ?_
  (repeat' (first
    | with_reducible refine callX.by (rkey_c _ _ _ _ _ _ _) ?_
    | with_reducible assumption
    | (with_reducible refine NxK.out hK _ ?_; clear hK K)
    | with_reducible refine NxK.out (by assumption) _ ?_
    | with_reducible refine Nx.out (by assumption) ?_
    | with_reducible refine SpecC.seqW fun K hK => ?_
    | with_reducible refine SpecC.regW T fun K hK => ?_
    | with_reducible refine SpecC.condW fun A B hA hB => ?_
    | with_reducible refine SpecC.block ?_
    | with_reducible refine SpecC.skip ?_
    | with_reducible refine SpecC.label ?_
    | with_reducible refine SpecC.exit ?_
    | with_reducible refine SpecC.goto ?_
    | with_reducible refine SpecC.ret ?_
    | ((with_reducible first | refine condK.split (fun hb => ?_) (fun hb => ?_) | refine gK.split_t (fun hb => ?_) (fun hb => ?_) | refine gK.split_f (fun hb => ?_) (fun hb => ?_)) <;> try simp only [decide_not, ilt_t, ilt_f, ile_t, ile_f, nlt_t, nlt_f, nle_t, nle_f, Bool.not_eq_true', Bool.not_eq_false', Int.ofNat_lt, Int.ofNat_le] at hb)
    | simp only [go_sem, ↓reduceIte, reduceIte, Nat.reduceEqDiff, String.reduceEq, Nat.reduceLT, Nat.reduceLeDiff, Nat.reduceAdd, Nat.reduceMul, Nat.reduceSub, Nat.reduceBEq, reduceCtorEq, *]
    | with_reducible refine fun (bn : Bool) hbn => ?_))
  refine SpecC.virt 3 16 2 (by decide) (by simp only [go_sem, ↓reduceIte, reduceIte, Nat.reduceEqDiff, String.reduceEq, Nat.reduceLT, Nat.reduceLeDiff, Nat.reduceAdd, Nat.reduceMul, Nat.reduceSub, Nat.reduceBEq, reduceCtorEq, *]) ?_
  refine SpecC.loopF [6, 7] (fun m ts' => ∃ (i : Nat), ∃ (g : Nat), m = xs.length - i ∧ i ≤ xs.length ∧ ts'.tmp 3 = .os 16 g i ∧ ts'.gen 16 = g ∧ ts'.obj 16 = .arr 2 (avs ((xs.take i).map keyOf)) ∧ ts'.tmp 8 = .int .i64 i) xs.length ?_ ?_
  · refine ⟨0, ts.gen 16 + 1, ?_⟩
    simp only [go_sem, ↓reduceIte, reduceIte, Nat.reduceEqDiff, String.reduceEq, Nat.reduceLT, Nat.reduceLeDiff, Nat.reduceAdd, Nat.reduceMul, Nat.reduceSub, Nat.reduceBEq, reduceCtorEq, *, List.map_nil, avs_nil]
  · rintro m A hM ts' hk ⟨i, g, hm, f1, s1, s2, s3, s4⟩
    simp only [go_sem, ↓reduceIte, reduceIte, Nat.reduceEqDiff, String.reduceEq, Nat.reduceLT, Nat.reduceLeDiff, Nat.reduceAdd, Nat.reduceMul, Nat.reduceSub, Nat.reduceBEq, reduceCtorEq, *] at hk
    have hlen : (avs ((xs.take i).map keyOf)).length = i := by simp [avs, f1]
    have hr : Room (i + 1) 24 := room_small (by unfold Small at hl; omega) (by decide)
    have htk : (avs ((xs.take i).map keyOf)).take i = avs ((xs.take i).map keyOf) := List.take_of_length_le (by omega)
    (repeat' (first
    | with_reducible refine callX.by (rkey_c _ _ _ _ _ _ _) ?_
    | with_reducible assumption
    | (with_reducible refine NxK.out hK _ ?_; clear hK K)
    | with_reducible refine NxK.out (by assumption) _ ?_
    | with_reducible refine Nx.out (by assumption) ?_
    | with_reducible refine SpecC.seqW fun K hK => ?_
    | with_reducible refine SpecC.regW T fun K hK => ?_
    | with_reducible refine SpecC.condW fun A B hA hB => ?_
    | with_reducible refine SpecC.block ?_
    | with_reducible refine SpecC.skip ?_
    | with_reducible refine SpecC.label ?_
    | with_reducible refine SpecC.exit ?_
    | with_reducible refine SpecC.goto ?_
    | with_reducible refine SpecC.ret ?_
    | ((with_reducible first | refine condK.split (fun hb => ?_) (fun hb => ?_) | refine gK.split_t (fun hb => ?_) (fun hb => ?_) | refine gK.split_f (fun hb => ?_) (fun hb => ?_)) <;> try simp only [decide_not, ilt_t, ilt_f, ile_t, ile_f, nlt_t, nlt_f, nle_t, nle_f, Bool.not_eq_true', Bool.not_eq_false', Int.ofNat_lt, Int.ofNat_le] at hb)
    | simp only [go_sem, ↓reduceIte, reduceIte, Nat.reduceEqDiff, String.reduceEq, Nat.reduceLT, Nat.reduceLeDiff, Nat.reduceAdd, Nat.reduceMul, Nat.reduceSub, Nat.reduceBEq, reduceCtorEq, *]
    | with_reducible refine fun (bn : Bool) hbn => ?_))
    all_goals ((repeat clear hK); (repeat clear hA); (repeat clear hB))
    · have e : xs.take (i + 1) = xs.take i ++ [xs[i]] := by rw [List.take_add_one, List.getElem?_eq_getElem hb]; rfl
      (refine hM.on (xs.length - (i + 1)) (by omega) (by simp only [go_sem, ↓reduceIte, reduceIte, Nat.reduceEqDiff, String.reduceEq, Nat.reduceLT, Nat.reduceLeDiff, Nat.reduceAdd, Nat.reduceMul, Nat.reduceSub, Nat.reduceBEq, reduceCtorEq, *, w64_nat hb hl, e, List.map_append, keyOf]) ⟨i + 1, ts'.gen 16 + 1, rfl, by omega, ?_⟩; simp only [go_sem, ↓reduceIte, reduceIte, Nat.reduceEqDiff, String.reduceEq, Nat.reduceLT, Nat.reduceLeDiff, Nat.reduceAdd, Nat.reduceMul, Nat.reduceSub, Nat.reduceBEq, reduceCtorEq, *, w64_nat hb hl, e, List.map_append, keyOf]; done)
    · have hi2 : i = xs.length := by omega
      subst hi2
      simp [avs]

def ppin (p : Pins) : Pins × Int × Int :=
  let q := psane p
  match q.snaps.getLast? with
  | none => (q, 0, 10)
  | some s => if s.pins = 10000 then (q, 0, 14) else (⟨q.next', q.snaps.set (q.snaps.length - 1) ⟨s.id, IntKind.i64.wrap (s.pins + 1), s.l⟩⟩, s.id, 0)

set_option maxRecDepth 30000 in
theorem ppin_c (next : Int) (xs : List Snap) (hl : Small xs.length) : CallR Try.prog 19 [.agg [.int .i64 next, .slice false (avs xs)]] (.val (.tup [Dat.av (ppin ⟨next, xs⟩).1, .int .i64 (ppin ⟨next, xs⟩).2.1, .int .i64 (ppin ⟨next, xs⟩).2.2])) := by
  have hl2 : Small (psane ⟨next, xs⟩).snaps.length := psane_small hl
  have hset : ∀ (n : Nat) (a b : Int) (l : List Res), (avs (psane ⟨next, xs⟩).snaps).set n (.agg [.int .i64 a, .int .i64 b, .slice false (avs l)]) = avs ((psane ⟨next, xs⟩).snaps.set n ⟨a, b, l⟩) := fun n a b l => avs_set _ n (⟨a, b, l⟩ : Snap)
  refine CallR.go1 (T := T) Try.call19 Try.func19 rfl Try.ntmps19 (congrArg Array.toList Try.results19) (by decide) fun ts hn h0 => ?_
  (repeat' (first
    | with_reducible refine callX.by (psane_c _ _ ?_) ?_
    | with_reducible refine callX.by (last_c _ _ ?_) ?_
    | with_reducible refine callX.by (clone_c _ _ ?_) ?_
    | with_reducible assumption
    | (with_reducible refine NxK.out hK _ ?_; clear hK K)
    | with_reducible refine NxK.out (by assumption) _ ?_
    | with_reducible refine Nx.out (by assumption) ?_
    | with_reducible refine SpecC.seqW fun K hK => ?_
    | with_reducible refine SpecC.regW T fun K hK => ?_
    | with_reducible refine SpecC.drawW (id := 9) T mixed [([36], [37, 38, 39, 40, 41, 42]), ([37], [36, 39, 41, 42, 2]), ([38], [36, 39, 42, 2]), ([39], [36, 37, 38, 42, 2]), ([40], [36, 2]), ([41], [36, 37, 2]), ([42], [36, 37, 38, 39, 2]), ([2], [37, 38, 39, 40, 41, 42])] (by kernel_rfl) fun K hK => ?_
    | with_reducible refine SpecC.condW fun A B hA hB => ?_
    | with_reducible refine SpecC.block ?_
    | with_reducible refine SpecC.skip ?_
    | with_reducible refine SpecC.label ?_
    | with_reducible refine SpecC.exit ?_
    | with_reducible refine SpecC.goto ?_
    | with_reducible refine SpecC.ret ?_
    | ((with_reducible first | refine condK.split (fun hb => ?_) (fun hb => ?_) | refine gK.split_t (fun hb => ?_) (fun hb => ?_) | refine gK.split_f (fun hb => ?_) (fun hb => ?_)) <;> try simp only [decide_not, ilt_t, ilt_f, ile_t, ile_f, nlt_t, nlt_f, nle_t, nle_f, Bool.not_eq_true', Bool.not_eq_false', Int.ofNat_lt, Int.ofNat_le] at hb)
    | simp only [go_sem, ↓reduceIte, reduceIte, Nat.reduceEqDiff, String.reduceEq, Nat.reduceLT, Nat.reduceLeDiff, Nat.reduceAdd, Nat.reduceMul, Nat.reduceSub, Nat.reduceBEq, reduceCtorEq, *]
    | with_reducible refine fun (bn : Bool) hbn => ?_))
  · have h0 : (psane ⟨next, xs⟩).snaps = [] := by simpa using hb
    simp [ppin, h0]
  all_goals
    have h0 : (psane ⟨next, xs⟩).snaps.getLast? = some ((psane ⟨next, xs⟩).snaps[(psane ⟨next, xs⟩).snaps.length - 1]'(by omega)) := by rw [List.getLast?_eq_getElem?, List.getElem?_eq_getElem]
    simp only [ppin, h0]
  · rw [if_pos (of_decide_eq_true hb)]; simp
  · rw [if_neg (of_decide_eq_false hb)]; simp

set_option maxRecDepth 30000 in
theorem isNaN_c (n : Int) : CallR Try.prog 55 [.int .i64 n] (.val (.bool false)) := by
  refine CallR.go1 (T := T) Try.call55 Try.func55 rfl Try.ntmps55 (congrArg Array.toList Try.results55) (by decide) fun ts hn h0 => ?_
  (repeat' (first
    | with_reducible assumption
    | (with_reducible refine NxK.out hK _ ?_; clear hK K)
    | with_reducible refine NxK.out (by assumption) _ ?_
    | with_reducible refine Nx.out (by assumption) ?_
    | with_reducible refine SpecC.seqW fun K hK => ?_
    | with_reducible refine SpecC.regW T fun K hK => ?_
    | with_reducible refine SpecC.condW fun A B hA hB => ?_
    | with_reducible refine SpecC.block ?_
    | with_reducible refine SpecC.skip ?_
    | with_reducible refine SpecC.label ?_
    | with_reducible refine SpecC.exit ?_
    | with_reducible refine SpecC.goto ?_
    | with_reducible refine SpecC.ret ?_
    | ((with_reducible first | refine condK.split (fun hb => ?_) (fun hb => ?_) | refine gK.split_t (fun hb => ?_) (fun hb => ?_) | refine gK.split_f (fun hb => ?_) (fun hb => ?_)) <;> try simp only [decide_not, ilt_t, ilt_f, ile_t, ile_f, nlt_t, nlt_f, nle_t, nle_f, Bool.not_eq_true', Bool.not_eq_false', Int.ofNat_lt, Int.ofNat_le] at hb)
    | simp only [go_sem, ↓reduceIte, reduceIte, Nat.reduceEqDiff, String.reduceEq, Nat.reduceLT, Nat.reduceLeDiff, Nat.reduceAdd, Nat.reduceMul, Nat.reduceSub, Nat.reduceBEq, reduceCtorEq, *]
    | with_reducible refine fun (bn : Bool) hbn => ?_))

def icmp (a b : Int) : Int := if a < b then -1 else if b < a then 1 else 0

set_option maxRecDepth 30000 in
theorem icmp_c (a b : Int) : CallR Try.prog 40 [.int .i64 a, .int .i64 b] (.val (.int .i64 (icmp a b))) := by
  refine CallR.go2 (T := T) Try.call40 Try.func40 rfl Try.ntmps40 (congrArg Array.toList Try.results40) (by decide) fun ts hn h0 h1 => ?_
  (repeat' (first
    | with_reducible refine callX.by (isNaN_c _) ?_
    | with_reducible assumption
    | (with_reducible refine NxK.out hK _ ?_; clear hK K)
    | with_reducible refine NxK.out (by assumption) _ ?_
    | with_reducible refine Nx.out (by assumption) ?_
    | with_reducible refine SpecC.seqW fun K hK => ?_
    | with_reducible refine SpecC.regW T fun K hK => ?_
    | with_reducible refine SpecC.condW fun A B hA hB => ?_
    | with_reducible refine SpecC.block ?_
    | with_reducible refine SpecC.skip ?_
    | with_reducible refine SpecC.label ?_
    | with_reducible refine SpecC.exit ?_
    | with_reducible refine SpecC.goto ?_
    | with_reducible refine SpecC.ret ?_
    | ((with_reducible first | refine condK.split (fun hb => ?_) (fun hb => ?_) | refine gK.split_t (fun hb => ?_) (fun hb => ?_) | refine gK.split_f (fun hb => ?_) (fun hb => ?_)) <;> try simp only [decide_not, ilt_t, ilt_f, ile_t, ile_f, nlt_t, nlt_f, nle_t, nle_f, Bool.not_eq_true', Bool.not_eq_false', Int.ofNat_lt, Int.ofNat_le] at hb)
    | simp only [go_sem, ↓reduceIte, reduceIte, Nat.reduceEqDiff, String.reduceEq, Nat.reduceLT, Nat.reduceLeDiff, Nat.reduceAdd, Nat.reduceMul, Nat.reduceSub, Nat.reduceBEq, reduceCtorEq, *]
    | with_reducible refine fun (bn : Bool) hbn => ?_))
  all_goals simp [icmp, *]

set_option maxRecDepth 30000 in
theorem rkey3_c (kind ver port : Int) (name to : List UInt8) (rs : List Rule) (hs : List Int) : CallR Try.prog 52 [.agg [.int .i64 kind, .str name, .int .i64 ver, .int .i64 port, .str to, .slice false (avs rs), .slice false (avs hs)]] (.val (.agg [.int .i64 kind, .str name])) := by
  refine CallR.go1 (T := T) Try.call52 Try.func52 rfl Try.ntmps52 (congrArg Array.toList Try.results52) (by decide) fun ts hn h0 => ?_
  (repeat' (first
    | with_reducible assumption
    | (with_reducible refine NxK.out hK _ ?_; clear hK K)
    | with_reducible refine NxK.out (by assumption) _ ?_
    | with_reducible refine Nx.out (by assumption) ?_
    | with_reducible refine SpecC.seqW fun K hK => ?_
    | with_reducible refine SpecC.regW T fun K hK => ?_
    | with_reducible refine SpecC.condW fun A B hA hB => ?_
    | with_reducible refine SpecC.block ?_
    | with_reducible refine SpecC.skip ?_
    | with_reducible refine SpecC.label ?_
    | with_reducible refine SpecC.exit ?_
    | with_reducible refine SpecC.goto ?_
    | with_reducible refine SpecC.ret ?_
    | ((with_reducible first | refine condK.split (fun hb => ?_) (fun hb => ?_) | refine gK.split_t (fun hb => ?_) (fun hb => ?_) | refine gK.split_f (fun hb => ?_) (fun hb => ?_)) <;> try simp only [decide_not, ilt_t, ilt_f, ile_t, ile_f, nlt_t, nlt_f, nle_t, nle_f, Bool.not_eq_true', Bool.not_eq_false', Int.ofNat_lt, Int.ofNat_le] at hb)
    | simp only [go_sem, ↓reduceIte, reduceIte, Nat.reduceEqDiff, String.reduceEq, Nat.reduceLT, Nat.reduceLeDiff, Nat.reduceAdd, Nat.reduceMul, Nat.reduceSub, Nat.reduceBEq, reduceCtorEq, *]
    | with_reducible refine fun (bn : Bool) hbn => ?_))

def scmp (a b : List UInt8) : Int := Lib.compareBytes a b

theorem cmpstring_c (a b : List UInt8) : CallR Try.prog 78 [.str a, .str b] (.val (.int .i64 (scmp a b))) := by
  refine CallP.extn rfl fun vals w c hs hv => ?_
  have h0 := hv 0
  have h1 := hv 1
  obtain ⟨s, e0, hs0⟩ := rep_str h0
  obtain ⟨t, e1, hs1⟩ := rep_str h1
  have hvals : vals = #[.string s, .string t] := by
    apply Array.ext
    · simpa using hs
    · intro i h1 h2
      have hi : i < 2 := by rw [hs] at h1; simpa using h1
      match i, hi with
      | 0, _ => rw [Array.getD_eq_getD_getElem?, Array.getElem?_eq_getElem h1] at e0; simpa using e0
      | 1, _ => rw [Array.getD_eq_getD_getElem?, Array.getElem?_eq_getElem h1] at e1; simpa using e1
  refine ⟨_, ?_, .int _ _⟩
  rw [hvals, run_callFunc_extern Try.func78 (by kernel_rfl) (by kernel_rfl) (by kernel_rfl) (e := Extern.BytealgCompare.compare) (by kernel_rfl), Lib.run_compareString]
  simp only [Result.andThen, scmp, hs0, hs1]

set_option maxRecDepth 30000 in
theorem cmpString_c (a b : List UInt8) : CallR Try.prog 70 [.str a, .str b] (.val (.int .i64 (scmp a b))) := by
  refine CallR.go2 (T := T) Try.call70 Try.func70 rfl Try.ntmps70 (congrArg Array.toList Try.results70) (by decide) fun ts hn h0 h1 => ?_
  (repeat' (first
    | with_reducible refine callX.by (cmpstring_c _ _) ?_
    | with_reducible assumption
    | (with_reducible refine NxK.out hK _ ?_; clear hK K)
    | with_reducible refine NxK.out (by assumption) _ ?_
    | with_reducible refine Nx.out (by assumption) ?_
    | with_reducible refine SpecC.seqW fun K hK => ?_
    | with_reducible refine SpecC.regW T fun K hK => ?_
    | with_reducible refine SpecC.condW fun A B hA hB => ?_
    | with_reducible refine SpecC.block ?_
    | with_reducible refine SpecC.skip ?_
    | with_reducible refine SpecC.label ?_
    | with_reducible refine SpecC.exit ?_
    | with_reducible refine SpecC.goto ?_
    | with_reducible refine SpecC.ret ?_
    | ((with_reducible first | refine condK.split (fun hb => ?_) (fun hb => ?_) | refine gK.split_t (fun hb => ?_) (fun hb => ?_) | refine gK.split_f (fun hb => ?_) (fun hb => ?_)) <;> try simp only [decide_not, ilt_t, ilt_f, ile_t, ile_f, nlt_t, nlt_f, nle_t, nle_f, Bool.not_eq_true', Bool.not_eq_false', Int.ofNat_lt, Int.ofNat_le] at hb)
    | simp only [go_sem, ↓reduceIte, reduceIte, Nat.reduceEqDiff, String.reduceEq, Nat.reduceLT, Nat.reduceLeDiff, Nat.reduceAdd, Nat.reduceMul, Nat.reduceSub, Nat.reduceBEq, reduceCtorEq, *]
    | with_reducible refine fun (bn : Bool) hbn => ?_))

set_option maxRecDepth 30000 in
theorem sCompare_c (a b : List UInt8) : CallR Try.prog 56 [.str a, .str b] (.val (.int .i64 (scmp a b))) := by
  refine CallR.go2 (T := T) Try.call56 Try.func56 rfl Try.ntmps56 (congrArg Array.toList Try.results56) (by decide) fun ts hn h0 h1 => ?_
  (repeat' (first
    | with_reducible refine callX.by (cmpString_c _ _) ?_
    | with_reducible assumption
    | (with_reducible refine NxK.out hK _ ?_; clear hK K)
    | with_reducible refine NxK.out (by assumption) _ ?_
    | with_reducible refine Nx.out (by assumption) ?_
    | with_reducible refine SpecC.seqW fun K hK => ?_
    | with_reducible refine SpecC.regW T fun K hK => ?_
    | with_reducible refine SpecC.condW fun A B hA hB => ?_
    | with_reducible refine SpecC.block ?_
    | with_reducible refine SpecC.skip ?_
    | with_reducible refine SpecC.label ?_
    | with_reducible refine SpecC.exit ?_
    | with_reducible refine SpecC.goto ?_
    | with_reducible refine SpecC.ret ?_
    | ((with_reducible first | refine condK.split (fun hb => ?_) (fun hb => ?_) | refine gK.split_t (fun hb => ?_) (fun hb => ?_) | refine gK.split_f (fun hb => ?_) (fun hb => ?_)) <;> try simp only [decide_not, ilt_t, ilt_f, ile_t, ile_f, nlt_t, nlt_f, nle_t, nle_f, Bool.not_eq_true', Bool.not_eq_false', Int.ofNat_lt, Int.ofNat_le] at hb)
    | simp only [go_sem, ↓reduceIte, reduceIte, Nat.reduceEqDiff, String.reduceEq, Nat.reduceLT, Nat.reduceLeDiff, Nat.reduceAdd, Nat.reduceMul, Nat.reduceSub, Nat.reduceBEq, reduceCtorEq, *]
    | with_reducible refine fun (bn : Bool) hbn => ?_))

set_option maxRecDepth 30000 in
theorem nCmp_c (a b : List UInt8) : CallR Try.prog 41 [.str a, .str b] (.val (.int .i64 (scmp a b))) := by
  refine CallR.go2 (T := T) Try.call41 Try.func41 rfl Try.ntmps41 (congrArg Array.toList Try.results41) (by decide) fun ts hn h0 h1 => ?_
  (repeat' (first
    | with_reducible refine callX.by (sCompare_c _ _) ?_
    | with_reducible assumption
    | (with_reducible refine NxK.out hK _ ?_; clear hK K)
    | with_reducible refine NxK.out (by assumption) _ ?_
    | with_reducible refine Nx.out (by assumption) ?_
    | with_reducible refine SpecC.seqW fun K hK => ?_
    | with_reducible refine SpecC.regW T fun K hK => ?_
    | with_reducible refine SpecC.condW fun A B hA hB => ?_
    | with_reducible refine SpecC.block ?_
    | with_reducible refine SpecC.skip ?_
    | with_reducible refine SpecC.label ?_
    | with_reducible refine SpecC.exit ?_
    | with_reducible refine SpecC.goto ?_
    | with_reducible refine SpecC.ret ?_
    | ((with_reducible first | refine condK.split (fun hb => ?_) (fun hb => ?_) | refine gK.split_t (fun hb => ?_) (fun hb => ?_) | refine gK.split_f (fun hb => ?_) (fun hb => ?_)) <;> try simp only [decide_not, ilt_t, ilt_f, ile_t, ile_f, nlt_t, nlt_f, nle_t, nle_f, Bool.not_eq_true', Bool.not_eq_false', Int.ofNat_lt, Int.ofNat_le] at hb)
    | simp only [go_sem, ↓reduceIte, reduceIte, Nat.reduceEqDiff, String.reduceEq, Nat.reduceLT, Nat.reduceLeDiff, Nat.reduceAdd, Nat.reduceMul, Nat.reduceSub, Nat.reduceBEq, reduceCtorEq, *]
    | with_reducible refine fun (bn : Bool) hbn => ?_))

def ior : List Int → Int
  | [] => 0
  | x :: r => if x = 0 then ior r else x

set_option maxRecDepth 30000 in
theorem ior_c (xs : List Int) (hl : Small xs.length) : CallR Try.prog 39 [.slice false (avs xs)] (.val (.int .i64 (ior xs))) := by
  refine CallR.go1 (T := T) Try.call39 Try.func39 rfl Try.ntmps39 (congrArg Array.toList Try.results39) (by decide) fun ts hn h0 => ?_
  (repeat' (first
    | with_reducible assumption
    | (with_reducible refine NxK.out hK _ ?_; clear hK K)
    | with_reducible refine NxK.out (by assumption) _ ?_
    | with_reducible refine Nx.out (by assumption) ?_
    | with_reducible refine SpecC.seqW fun K hK => ?_
    | with_reducible refine SpecC.regW T fun K hK => ?_
    | with_reducible refine SpecC.condW fun A B hA hB => ?_
    | with_reducible refine SpecC.block ?_
    | with_reducible refine SpecC.skip ?_
    | with_reducible refine SpecC.label ?_
    | with_reducible refine SpecC.exit ?_
    | with_reducible refine SpecC.goto ?_
    | with_reducible refine SpecC.ret ?_
    | ((with_reducible first | refine condK.split (fun hb => ?_) (fun hb => ?_) | refine gK.split_t (fun hb => ?_) (fun hb => ?_) | refine gK.split_f (fun hb => ?_) (fun hb => ?_)) <;> try simp only [decide_not, ilt_t, ilt_f, ile_t, ile_f, nlt_t, nlt_f, nle_t, nle_f, Bool.not_eq_true', Bool.not_eq_false', Int.ofNat_lt, Int.ofNat_le] at hb)
    | simp only [go_sem, ↓reduceIte, reduceIte, Nat.reduceEqDiff, String.reduceEq, Nat.reduceLT, Nat.reduceLeDiff, Nat.reduceAdd, Nat.reduceMul, Nat.reduceSub, Nat.reduceBEq, reduceCtorEq, *]
    | with_reducible refine fun (bn : Bool) hbn => ?_))
  refine SpecC.loopF [3, 6, 7] (fun m ts' => ∃ (i : Nat), m = xs.length - i ∧ i ≤ xs.length ∧ ior xs = ior (xs.drop i) ∧ ts'.tmp 8 = .int .i64 i) xs.length ?_ ?_
  · refine ⟨0, ?_⟩
    simp only [go_sem, ↓reduceIte, reduceIte, Nat.reduceEqDiff, String.reduceEq, Nat.reduceLT, Nat.reduceLeDiff, Nat.reduceAdd, Nat.reduceMul, Nat.reduceSub, Nat.reduceBEq, reduceCtorEq, *]
  · rintro m A hM ts' hk ⟨i, hm, f1, f2, s1⟩
    simp only [go_sem, ↓reduceIte, reduceIte, Nat.reduceEqDiff, String.reduceEq, Nat.reduceLT, Nat.reduceLeDiff, Nat.reduceAdd, Nat.reduceMul, Nat.reduceSub, Nat.reduceBEq, reduceCtorEq, *] at hk
    by_cases hlt : i < xs.length
    · rw [List.drop_eq_getElem_cons hlt, ior] at f2
      (repeat' (first
    | with_reducible assumption
    | (with_reducible refine NxK.out hK _ ?_; clear hK K)
    | with_reducible refine NxK.out (by assumption) _ ?_
    | with_reducible refine Nx.out (by assumption) ?_
    | with_reducible refine SpecC.seqW fun K hK => ?_
    | with_reducible refine SpecC.regW T fun K hK => ?_
    | with_reducible refine SpecC.condW fun A B hA hB => ?_
    | with_reducible refine SpecC.block ?_
    | with_reducible refine SpecC.skip ?_
    | with_reducible refine SpecC.label ?_
    | with_reducible refine SpecC.exit ?_
    | with_reducible refine SpecC.goto ?_
    | with_reducible refine SpecC.ret ?_
    | ((with_reducible first | refine condK.split (fun hb => ?_) (fun hb => ?_) | refine gK.split_t (fun hb => ?_) (fun hb => ?_) | refine gK.split_f (fun hb => ?_) (fun hb => ?_)) <;> try simp only [decide_not, ilt_t, ilt_f, ile_t, ile_f, nlt_t, nlt_f, nle_t, nle_f, Bool.not_eq_true', Bool.not_eq_false', Int.ofNat_lt, Int.ofNat_le] at hb)
    | simp only [go_sem, ↓reduceIte, reduceIte, Nat.reduceEqDiff, String.reduceEq, Nat.reduceLT, Nat.reduceLeDiff, Nat.reduceAdd, Nat.reduceMul, Nat.reduceSub, Nat.reduceBEq, reduceCtorEq, *]
    | with_reducible refine fun (bn : Bool) hbn => ?_))
      all_goals ((repeat clear hK); (repeat clear hA); (repeat clear hB))
      · simp [of_decide_eq_false hb]
      · rw [if_pos (of_decide_eq_true hb)] at f2
        (refine hM.on (xs.length - (i + 1)) (by omega) (by simp only [go_sem, ↓reduceIte, reduceIte, Nat.reduceEqDiff, String.reduceEq, Nat.reduceLT, Nat.reduceLeDiff, Nat.reduceAdd, Nat.reduceMul, Nat.reduceSub, Nat.reduceBEq, reduceCtorEq, *, w64_nat hlt hl, -f2]) ⟨i + 1, rfl, by omega, f2, ?_⟩; simp only [go_sem, ↓reduceIte, reduceIte, Nat.reduceEqDiff, String.reduceEq, Nat.reduceLT, Nat.reduceLeDiff, Nat.reduceAdd, Nat.reduceMul, Nat.reduceSub, Nat.reduceBEq, reduceCtorEq, *, w64_nat hlt hl, -f2]; done)
    · rw [List.drop_eq_nil_of_le (by omega), ior] at f2
      (repeat' (first
    | with_reducible assumption
    | (with_reducible refine NxK.out hK _ ?_; clear hK K)
    | with_reducible refine NxK.out (by assumption) _ ?_
    | with_reducible refine Nx.out (by assumption) ?_
    | with_reducible refine SpecC.seqW fun K hK => ?_
    | with_reducible refine SpecC.regW T fun K hK => ?_
    | with_reducible refine SpecC.condW fun A B hA hB => ?_
    | with_reducible refine SpecC.block ?_
    | with_reducible refine SpecC.skip ?_
    | with_reducible refine SpecC.label ?_
    | with_reducible refine SpecC.exit ?_
    | with_reducible refine SpecC.goto ?_
    | with_reducible refine SpecC.ret ?_
    | ((with_reducible first | refine condK.split (fun hb => ?_) (fun hb => ?_) | refine gK.split_t (fun hb => ?_) (fun hb => ?_) | refine gK.split_f (fun hb => ?_) (fun hb => ?_)) <;> try simp only [decide_not, ilt_t, ilt_f, ile_t, ile_f, nlt_t, nlt_f, nle_t, nle_f, Bool.not_eq_true', Bool.not_eq_false', Int.ofNat_lt, Int.ofNat_le] at hb)
    | simp only [go_sem, ↓reduceIte, reduceIte, Nat.reduceEqDiff, String.reduceEq, Nat.reduceLT, Nat.reduceLeDiff, Nat.reduceAdd, Nat.reduceMul, Nat.reduceSub, Nat.reduceBEq, reduceCtorEq, *]
    | with_reducible refine fun (bn : Bool) hbn => ?_))

def kcmp (a b : Key) : Int := ior [icmp a.kind b.kind, scmp a.name b.name]

set_option maxRecDepth 30000 in
theorem kcmp_c (k1 k2 : Int) (n1 n2 : List UInt8) : CallR Try.prog 14 [.agg [.int .i64 k1, .str n1], .agg [.int .i64 k2, .str n2]] (.val (.int .i64 (kcmp ⟨k1, n1⟩ ⟨k2, n2⟩))) := by
  have hor := ior_c [icmp k1 k2, scmp n1 n2] (by simp [Small])
  simp only [avs, List.map_cons, List.map_nil, av_int] at hor
  refine CallR.go2 (T := T) Try.call14 Try.func14 rfl Try.ntmps14 (congrArg Array.toList Try.results14) (by decide) fun ts hn h0 h1 => ?_
  (repeat' (first
    | with_reducible refine callX.by (hor) ?_
    | with_reducible refine callX.by (icmp_c _ _) ?_
    | with_reducible refine callX.by (nCmp_c _ _) ?_
    | with_reducible refine callX.by (ior_c _ ?_) ?_
    | with_reducible assumption
    | (with_reducible refine NxK.out hK _ ?_; clear hK K)
    | with_reducible refine NxK.out (by assumption) _ ?_
    | with_reducible refine Nx.out (by assumption) ?_
    | with_reducible refine SpecC.seqW fun K hK => ?_
    | with_reducible refine SpecC.regW T fun K hK => ?_
    | with_reducible refine SpecC.drawW (id := 1) T mixed [([5], [7, 8, 10, 11, 12, 13, 14, 15, 16]), ([6], [7, 8, 10, 11, 12, 13, 16]), ([7], [5, 6, 10, 11, 12, 13, 14, 15, 16]), ([8], [5, 6, 10, 11, 12, 13, 16]), ([9], [10, 11, 12, 13]), ([10], [5, 6, 7, 8, 9, 12, 13, 15, 16]), ([11], [5, 6, 7, 8, 9, 12, 13]), ([12], [5, 6, 7, 8, 9, 10, 11, 15, 16]), ([13], [5, 6, 7, 8, 9, 10, 11]), ([14], [5, 7]), ([15], [5, 7, 10, 12]), ([16], [5, 6, 7, 8, 10, 12])] (by kernel_rfl) fun K hK => ?_
    | with_reducible refine SpecC.condW fun A B hA hB => ?_
    | with_reducible refine SpecC.block ?_
    | with_reducible refine SpecC.skip ?_
    | with_reducible refine SpecC.label ?_
    | with_reducible refine SpecC.exit ?_
    | with_reducible refine SpecC.goto ?_
    | with_reducible refine SpecC.ret ?_
    | ((with_reducible first | refine condK.split (fun hb => ?_) (fun hb => ?_) | refine gK.split_t (fun hb => ?_) (fun hb => ?_) | refine gK.split_f (fun hb => ?_) (fun hb => ?_)) <;> try simp only [decide_not, ilt_t, ilt_f, ile_t, ile_f, nlt_t, nlt_f, nle_t, nle_f, Bool.not_eq_true', Bool.not_eq_false', Int.ofNat_lt, Int.ofNat_le] at hb)
    | simp only [go_sem, ↓reduceIte, reduceIte, Nat.reduceEqDiff, String.reduceEq, Nat.reduceLT, Nat.reduceLeDiff, Nat.reduceAdd, Nat.reduceMul, Nat.reduceSub, Nat.reduceBEq, reduceCtorEq, *]
    | with_reducible refine fun (bn : Bool) hbn => ?_))
  all_goals rfl

def rSaneL (next : Int) : List Snap → Int → Bool
  | [], _ => true
  | s :: r, last => !(decide (s.id ≤ last) || decide (next < s.id) || decide (s.pins < 0) || decide (10000 < s.pins) || (decide (s.pins = 0) && decide (r ≠ []))) && rSaneL next r s.id
def rSane (p : Pins) : Bool := !(decide (p.next' < 0) || decide (2147483647 < p.next') || decide (1000 < p.snaps.length)) && rSaneL p.next' p.snaps 0

set_option maxRecDepth 30000 in
theorem rSane_c (next : Int) (xs : List Snap) (hl : Small xs.length) : CallR Try.prog 32 [.agg [.int .i64 next, .slice false (avs xs)]] (.val (.bool (rSane ⟨next, xs⟩))) := by
  refine CallR.go1 (T := T) Try.call32 Try.func32 rfl Try.ntmps32 (congrArg Array.toList Try.results32) (by decide) fun ts hn h0 => ?_
  (repeat' (first
    | with_reducible assumption
    | (with_reducible refine NxK.out hK _ ?_; clear hK K)
    | with_reducible refine NxK.out (by assumption) _ ?_
    | with_reducible refine Nx.out (by assumption) ?_
    | with_reducible refine SpecC.seqW fun K hK => ?_
    | with_reducible refine SpecC.regW T fun K hK => ?_
    | with_reducible refine SpecC.condW fun A B hA hB => ?_
    | with_reducible refine SpecC.block ?_
    | with_reducible refine SpecC.skip ?_
    | with_reducible refine SpecC.label ?_
    | with_reducible refine SpecC.exit ?_
    | with_reducible refine SpecC.goto ?_
    | with_reducible refine SpecC.ret ?_
    | ((with_reducible first | refine condK.split (fun hb => ?_) (fun hb => ?_) | refine gK.split_t (fun hb => ?_) (fun hb => ?_) | refine gK.split_f (fun hb => ?_) (fun hb => ?_)) <;> try simp only [decide_not, ilt_t, ilt_f, ile_t, ile_f, nlt_t, nlt_f, nle_t, nle_f, Bool.not_eq_true', Bool.not_eq_false', Int.ofNat_lt, Int.ofNat_le] at hb)
    | simp only [go_sem, ↓reduceIte, reduceIte, Nat.reduceEqDiff, String.reduceEq, Nat.reduceLT, Nat.reduceLeDiff, Nat.reduceAdd, Nat.reduceMul, Nat.reduceSub, Nat.reduceBEq, reduceCtorEq, *, w64_pred hl]
    | with_reducible refine fun (bn : Bool) hbn => ?_))
  all_goals try (all_goals ((repeat clear hK); (repeat clear hA); (repeat clear hB)); simp [rSane, *]; done)
  refine SpecC.loopF [1] (fun m ts' => ∃ (i : Nat), ∃ (a : Int), m = xs.length - i ∧ i ≤ xs.length ∧ rSaneL next xs 0 = rSaneL next (xs.drop i) a ∧ ts'.tmp 3 = .int .i64 a ∧ ts'.tmp 4 = .int .i64 i) xs.length ?_ ?_
  · refine ⟨0, 0, ?_⟩
    simp only [go_sem, ↓reduceIte, reduceIte, Nat.reduceEqDiff, String.reduceEq, Nat.reduceLT, Nat.reduceLeDiff, Nat.reduceAdd, Nat.reduceMul, Nat.reduceSub, Nat.reduceBEq, reduceCtorEq, *]
  · rintro m A hM ts' hk ⟨i, a, hm, f1, f2, s1, s2⟩
    simp only [go_sem, ↓reduceIte, reduceIte, Nat.reduceEqDiff, String.reduceEq, Nat.reduceLT, Nat.reduceLeDiff, Nat.reduceAdd, Nat.reduceMul, Nat.reduceSub, Nat.reduceBEq, reduceCtorEq, *] at hk
    by_cases hlt : i < xs.length
    · rw [List.drop_eq_getElem_cons hlt, rSaneL] at f2
      have hr : (xs.drop (i + 1) ≠ []) = ((i : Int) < xs.length - 1) := by rw [ne_eq, List.drop_eq_nil_iff]; apply propext; omega
      simp only [hr] at f2
      (repeat' (first
    | with_reducible assumption
    | (with_reducible refine NxK.out hK _ ?_; clear hK K)
    | with_reducible refine NxK.out (by assumption) _ ?_
    | with_reducible refine Nx.out (by assumption) ?_
    | with_reducible refine SpecC.seqW fun K hK => ?_
    | with_reducible refine SpecC.regW T fun K hK => ?_
    | with_reducible refine SpecC.condW fun A B hA hB => ?_
    | with_reducible refine SpecC.block ?_
    | with_reducible refine SpecC.skip ?_
    | with_reducible refine SpecC.label ?_
    | with_reducible refine SpecC.exit ?_
    | with_reducible refine SpecC.goto ?_
    | with_reducible refine SpecC.ret ?_
    | ((with_reducible first | refine condK.split (fun hb => ?_) (fun hb => ?_) | refine gK.split_t (fun hb => ?_) (fun hb => ?_) | refine gK.split_f (fun hb => ?_) (fun hb => ?_)) <;> try simp only [decide_not, ilt_t, ilt_f, ile_t, ile_f, nlt_t, nlt_f, nle_t, nle_f, Bool.not_eq_true', Bool.not_eq_false', Int.ofNat_lt, Int.ofNat_le] at hb)
    | simp only [go_sem, ↓reduceIte, reduceIte, Nat.reduceEqDiff, String.reduceEq, Nat.reduceLT, Nat.reduceLeDiff, Nat.reduceAdd, Nat.reduceMul, Nat.reduceSub, Nat.reduceBEq, reduceCtorEq, *, w64_pred hl]
    | with_reducible refine fun (bn : Bool) hbn => ?_))
      all_goals ((repeat clear hK); (repeat clear hA); (repeat clear hB))
      all_goals first
        | (clear hM; simp_all [rSane]; done)
        | (refine hM.on (xs.length - (i + 1)) (by omega) (by simp only [go_sem, ↓reduceIte, reduceIte, Nat.reduceEqDiff, String.reduceEq, Nat.reduceLT, Nat.reduceLeDiff, Nat.reduceAdd, Nat.reduceMul, Nat.reduceSub, Nat.reduceBEq, reduceCtorEq, *, w64_nat hlt hl]) ⟨i + 1, xs[i].id, rfl, by omega, by simp_all, ?_⟩; simp only [go_sem, ↓reduceIte, reduceIte, Nat.reduceEqDiff, String.reduceEq, Nat.reduceLT, Nat.reduceLeDiff, Nat.reduceAdd, Nat.reduceMul, Nat.reduceSub, Nat.reduceBEq, reduceCtorEq, *, w64_nat hlt hl]; done)
    · rw [List.drop_eq_nil_of_le (by omega), rSaneL] at f2
      (repeat' (first
    | with_reducible assumption
    | (with_reducible refine NxK.out hK _ ?_; clear hK K)
    | with_reducible refine NxK.out (by assumption) _ ?_
    | with_reducible refine Nx.out (by assumption) ?_
    | with_reducible refine SpecC.seqW fun K hK => ?_
    | with_reducible refine SpecC.regW T fun K hK => ?_
    | with_reducible refine SpecC.condW fun A B hA hB => ?_
    | with_reducible refine SpecC.block ?_
    | with_reducible refine SpecC.skip ?_
    | with_reducible refine SpecC.label ?_
    | with_reducible refine SpecC.exit ?_
    | with_reducible refine SpecC.goto ?_
    | with_reducible refine SpecC.ret ?_
    | ((with_reducible first | refine condK.split (fun hb => ?_) (fun hb => ?_) | refine gK.split_t (fun hb => ?_) (fun hb => ?_) | refine gK.split_f (fun hb => ?_) (fun hb => ?_)) <;> try simp only [decide_not, ilt_t, ilt_f, ile_t, ile_f, nlt_t, nlt_f, nle_t, nle_f, Bool.not_eq_true', Bool.not_eq_false', Int.ofNat_lt, Int.ofNat_le] at hb)
    | simp only [go_sem, ↓reduceIte, reduceIte, Nat.reduceEqDiff, String.reduceEq, Nat.reduceLT, Nat.reduceLeDiff, Nat.reduceAdd, Nat.reduceMul, Nat.reduceSub, Nat.reduceBEq, reduceCtorEq, *, w64_pred hl]
    | with_reducible refine fun (bn : Bool) hbn => ?_))
      all_goals ((repeat clear hK); (repeat clear hA); (repeat clear hB))
      all_goals (clear hM; simp_all [rSane])
end Go.Proofs.Ytjmnokbbodcaaaa.Lg
