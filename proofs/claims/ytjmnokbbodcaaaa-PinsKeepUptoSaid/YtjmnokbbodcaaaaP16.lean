/- The laws' awake. -/
import Derived.Test.YtjmnokbbodcaaaaP14
import Derived.Test.YtjmnokbbodcaaaaP15
namespace Go.Proofs.Ytjmnokbbodcaaaa.Lg
set_option linter.unusedVariables false
set_option linter.unusedSimpArgs false
open Go

def awr : Res := ⟨3, [101], 0, 0, [], [], []⟩
def awp1 : Pins := ⟨1, [⟨1, 0, [awr]⟩]⟩
def awp2 : Pins := ⟨1, [⟨1, 1, [awr]⟩]⟩
def awp3 : Pins := ⟨2, [⟨1, 1, [awr]⟩, ⟨2, 0, []⟩]⟩
def awp5 : Pins := ⟨2, [⟨2, 0, []⟩]⟩
theorem aw1 : ppublish ⟨0, []⟩ [awr] = (awp1, 1, 0) := by decide
theorem aw2 : ppin awp1 = (awp2, 1, 0) := by decide
theorem aw3 : ppublish awp2 [] = (awp3, 2, 0) := by decide
theorem aw4 : pget awp3 1 = ([awr], true) := by decide
theorem aw5 : prelease awp3 1 = (awp5, 0) := by decide
theorem aw6 : pget awp5 1 = ([], false) := by decide
theorem aw7 : (pheld awp3).length = 1 := by
  have e : heldL (psane awp3).snaps = [keyOf awr] := by decide
  rw [pheld, e]
  have e2 : ksort [keyOf awr] = [keyOf awr] := by simp [ksort]
  rw [e2]; rfl
theorem aw8 : (pheld awp5).length = 0 := by
  have e : heldL (psane awp5).snaps = [] := by decide
  rw [pheld, e]
  have e2 : ksort [] = [] := by simp [ksort]
  rw [e2]; rfl
theorem aw9 : pSane awp5 = true := by decide

theorem awc1 : CallR Try.prog 20 [.agg [.int .i64 0, .slice false []], .slice false [.agg [.int .i64 3, .str [101], .int .i64 0, .int .i64 0, .str [], .slice false [], .slice false []]]] (.val (.tup [Dat.av awp1, .int .i64 1, .int .i64 0])) := by
  have h := ppublish_c 0 [] [awr] (by simp [Small])
  rw [aw1] at h; exact h
theorem awc2 : CallR Try.prog 19 [.agg [.int .i64 awp1.next', .slice false (avs awp1.snaps)]] (.val (.tup [Dat.av awp2, .int .i64 1, .int .i64 0])) := by
  have h := ppin_c awp1.next' awp1.snaps (by simp [Small, awp1])
  rw [eta_Pins, aw2] at h; exact h
theorem awc3 : CallR Try.prog 20 [.agg [.int .i64 awp2.next', .slice false (avs awp2.snaps)], .slice false []] (.val (.tup [Dat.av awp3, .int .i64 2, .int .i64 0])) := by
  have h := ppublish_c awp2.next' awp2.snaps [] (by simp [Small, awp2])
  rw [eta_Pins, aw3] at h; exact h
theorem awc4 : CallR Try.prog 15 [.agg [.int .i64 awp3.next', .slice false (avs awp3.snaps)], .int .i64 1] (.val (.tup [.slice false (avs [awr]), .bool true])) := by
  have h := pget_c awp3.next' 1 awp3.snaps (by simp [Small, awp3])
  rw [eta_Pins, aw4] at h; exact h
theorem awc5 : CallR Try.prog 21 [.agg [.int .i64 awp3.next', .slice false (avs awp3.snaps)], .int .i64 1] (.val (.tup [Dat.av awp5, .int .i64 0])) := by
  have h := prelease_c awp3.next' 1 awp3.snaps (by simp [Small, awp3])
  rw [eta_Pins, aw5] at h; exact h
theorem awc6 : CallR Try.prog 15 [.agg [.int .i64 awp5.next', .slice false (avs awp5.snaps)], .int .i64 1] (.val (.tup [.slice false (avs ([] : List Res)), .bool false])) := by
  have h := pget_c awp5.next' 1 awp5.snaps (by simp [Small, awp5])
  rw [eta_Pins, aw6] at h; exact h
theorem awc7 : CallR Try.prog 12 [.agg [.int .i64 awp3.next', .slice false (avs awp3.snaps)]] (.own 2 (avs (pheld awp3))) :=
  pheld_c awp3.next' awp3.snaps (by simp [Small, awp3]) (by simp [awp3, SmSnap, SmRes, Small, awr]) (by simp [Small, awp3, heldL])
theorem awc8 : CallR Try.prog 12 [.agg [.int .i64 awp5.next', .slice false (avs awp5.snaps)]] (.own 2 (avs (pheld awp5))) :=
  pheld_c awp5.next' awp5.snaps (by simp [Small, awp5]) (by simp [awp5, SmSnap, SmRes, Small, awr]) (by simp [Small, awp5, heldL])

set_option maxRecDepth 30000 in
theorem awake_c : CallR Try.prog 8 [] (.val (.bool true)) := by
  have hz : Small awp5.snaps.length := by simp [Small, awp5]
  refine CallR.go0 (T := T) Try.call8 Try.func8 rfl Try.ntmps8 (congrArg Array.toList Try.results8) fun ts hn => ?_
  (repeat' (first
    | with_reducible refine callX.fz (awc1) ?_
    | with_reducible refine callX.by (awc2) ?_
    | with_reducible refine callX.by (awc3) ?_
    | with_reducible refine callX.by (awc4) ?_
    | with_reducible refine callX.by (awc5) ?_
    | with_reducible refine callX.by (awc6) ?_
    | with_reducible refine callX.by (awc7) ?_
    | with_reducible refine callX.by (awc8) ?_
    | with_reducible refine callX.by awc1 ?_
    | with_reducible refine callX.by awc3 ?_
    | with_reducible refine callX.by (ppublish_c _ _ _ ?_) ?_
    | with_reducible refine callX.by awc2 ?_
    | with_reducible refine callX.by (ppin_c _ _ ?_) ?_
    | with_reducible refine callX.by awc4 ?_
    | with_reducible refine callX.by awc6 ?_
    | with_reducible refine callX.by (pget_c _ _ _ ?_) ?_
    | with_reducible refine callX.by awc5 ?_
    | with_reducible refine callX.by (prelease_c _ _ _ ?_) ?_
    | with_reducible refine callX.by (pheld_c _ _ ?_ ?_ ?_) ?_
    | with_reducible refine callX.by awc7 ?_
    | with_reducible refine callX.by awc8 ?_
    | with_reducible refine callX.by (pSane_c _ _ ?_) ?_
    | with_reducible assumption
    | (with_reducible refine NxK.out hK _ ?_; clear hK K)
    | with_reducible refine NxK.out (by assumption) _ ?_
    | with_reducible refine Nx.out (by assumption) ?_
    | with_reducible refine SpecC.seqW fun K hK => ?_
    | with_reducible refine SpecC.regW T fun K hK => ?_
    | with_reducible refine SpecC.condW fun A B hA hB => ?_
    | with_reducible refine SpecC.block ?_
    | with_reducible refine SpecC.skip ?_
    | with_reducible refine SpecC.label ?_
    | with_reducible refine SpecC.exit ?_
    | with_reducible refine SpecC.goto ?_
    | with_reducible refine SpecC.ret ?_
    | ((with_reducible first | refine condK.split (fun hb => ?_) (fun hb => ?_) | refine gK.split_t (fun hb => ?_) (fun hb => ?_) | refine gK.split_f (fun hb => ?_) (fun hb => ?_)) <;> try simp only [decide_not, ilt_t, ilt_f, ile_t, ile_f, nlt_t, nlt_f, nle_t, nle_f, Bool.not_eq_true', Bool.not_eq_false', Int.ofNat_lt, Int.ofNat_le] at hb)
    | simp only [go_sem, ↓reduceIte, reduceIte, Nat.reduceEqDiff, String.reduceEq, Nat.reduceLT, Nat.reduceLeDiff, Nat.reduceAdd, Nat.reduceMul, Nat.reduceSub, Nat.reduceBEq, reduceCtorEq, *, aw7, aw8, aw9]
    | with_reducible refine fun (bn : Bool) hbn => ?_))
end Go.Proofs.Ytjmnokbbodcaaaa.Lg
