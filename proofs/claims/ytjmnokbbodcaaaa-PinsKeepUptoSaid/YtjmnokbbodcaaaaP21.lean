/- The law PinsKeep. -/
import Derived.Test.YtjmnokbbodcaaaaPL4
import Derived.Test.YtjmnokbbodcaaaaLg27
namespace Go.Proofs.Ytjmnokbbodcaaaa.Lg
set_option linter.unusedVariables false
set_option linter.unusedSimpArgs false
open Go

/-- What the end of a round asks of the state that it has come to. -/
theorem kafter {p : Pins} {id cnt : Int} {was : List Res} {k : Nat} (h : KInv p id cnt was k) (hs : SmP p) :
    pSane p = true ∧ (pcurrent p).1 = p.next' ∧ (pget p id).2 = (decide (0 < cnt) || ((pcurrent p).2.2 && decide (p.next' = id))) ∧ ((pget p id).2 = true → (pget p id).1 = was) ∧
      Small p.snaps.length ∧ Small (pget p id).1.length ∧ (∀ y ∈ (pget p id).1, SmRes y) := by
  obtain ⟨h1, h2⟩ := kget h
  obtain ⟨h3, h4⟩ := kcur h
  obtain ⟨h5, h6⟩ := smP_get (id := id) hs
  rw [pget_eq, pcurrent_eq]
  refine ⟨(pSane_iff p).2 h.ok, h3, ?_, h2, h.ok.small, h5, h6⟩
  rw [h1, h3]

theorem kcnt {p : Pins} {id cnt : Int} {was : List Res} {k : Nat} (h : KInv p id cnt was k) : cnt ≤ k := by
  rcases h.at' with hm | ⟨_, hc⟩
  · exact h.pn _ hm
  · omega

theorem kpin2 {p : Pins} {id cnt : Int} {was : List Res} {k : Nat} (h : KInv p id cnt was k) (hk : k < 1000) :
    ∃ p' n e, rpin p = (p', n, e) ∧ (e = 0 → n = p.next') ∧ (e ≠ 0 → p.next' = 0) ∧ KInv p' id (if e = 0 ∧ n = id then cnt + 1 else cnt) was (k + 1) := by
  rcases kpin h hk with ⟨hz, he, hk'⟩ | ⟨p', he, hk'⟩
  · exact ⟨_, _, _, he, by simp, fun _ => hz, by rw [if_neg (by simp)]; exact hk'⟩
  · refine ⟨_, _, _, he, fun _ => rfl, by simp, ?_⟩
    by_cases hid : p.next' = id
    · rw [if_pos hid] at hk'; rw [if_pos ⟨rfl, hid⟩]; exact hk'
    · rw [if_neg hid] at hk'; rw [if_neg (fun h => hid h.2)]; exact hk'

set_option maxRecDepth 30000 in
set_option maxHeartbeats 16000000 in
theorem keep_c (xs : List Act) (id : Int) (hl : Small xs.length) (hs : ∀ x ∈ xs, SmAct x) : CallR Try.prog 6 [.slice false (avs xs), .int .i64 id] (.val (.bool true)) := by
  by_cases h60 : 60 < xs.length
  · refine CallR.go2 (T := T) Try.call6 Try.func6 rfl Try.ntmps6 (congrArg Array.toList Try.results6) (by decide) fun ts hn h0 h1 => ?_
    (repeat' (first
    | with_reducible refine callX.by awake_c ?_
    | with_reducible refine callX.by (few4_c _ ?_ ?_) ?_
    | with_reducible refine callX.by (current_c _ _ ?_) ?_
    | with_reducible refine callX.by awc1 ?_
    | with_reducible refine callX.by awc3 ?_
    | with_reducible refine callX.by (ppublish_c _ _ _ ?_) ?_
    | with_reducible refine callX.by awc2 ?_
    | with_reducible refine callX.by (ppin_c _ _ ?_) ?_
    | with_reducible refine callX.by awc5 ?_
    | with_reducible refine callX.by (prelease_c _ _ _ ?_) ?_
    | with_reducible refine callX.by awc4 ?_
    | with_reducible refine callX.by awc6 ?_
    | with_reducible refine callX.by (pget_c _ _ _ ?_) ?_
    | with_reducible refine callX.by (all4_c _ _ ?_ ?_) ?_
    | with_reducible refine callX.by (pSane_c _ _ ?_) ?_
    | with_reducible assumption
    | (with_reducible refine NxK.out hK _ ?_; clear hK K)
    | with_reducible refine NxK.out (by assumption) _ ?_
    | with_reducible refine Nx.out (by assumption) ?_
    | with_reducible refine SpecC.seqW fun K hK => ?_
    | with_reducible refine SpecC.regW T fun K hK => ?_
    | with_reducible refine SpecC.drawW (id := 21) T mixed [([85], [86, 87, 88, 89, 90, 92, 93, 94, 13]), ([86], [85, 87, 90, 91, 84, 92, 93, 94, 13]), ([87], [85, 86, 90, 91, 84, 92, 93, 94, 13]), ([88], [85, 91, 84, 92, 93, 94, 13]), ([89], [85, 84, 92, 93, 94, 13]), ([90], [85, 86, 87, 92, 93, 94, 13]), ([91], [86, 87, 88, 13]), ([84], [86, 87, 88, 89, 13]), ([92], [85, 86, 87, 88, 89, 90, 93, 94, 13]), ([93], [85, 86, 87, 88, 89, 90, 92, 94, 13]), ([94], [85, 86, 87, 88, 89, 90, 92, 93, 13, 14]), ([13], [85, 86, 87, 88, 89, 90, 91, 84, 92, 93, 94]), ([13], [93, 94]), ([14], [94])] (by kernel_rfl) fun K hK => ?_
    | with_reducible refine SpecC.drawW (id := 14) T mixed [([57], [58, 59, 60, 61, 62, 64, 65, 19]), ([58], [57, 59, 62, 63, 56, 64, 65, 19]), ([59], [57, 58, 62, 63, 56, 64, 65, 19]), ([60], [57, 63, 56, 64, 65, 19]), ([61], [57, 56, 64, 65, 19]), ([62], [57, 58, 59, 64, 65, 19]), ([63], [58, 59, 60, 19]), ([56], [58, 59, 60, 61, 19]), ([64], [57, 58, 59, 60, 61, 62, 65, 19]), ([65], [57, 58, 59, 60, 61, 62, 64, 19]), ([19], [57, 58, 59, 60, 61, 62, 63, 56, 64, 65]), ([19], [65])] (by kernel_rfl) fun K hK => ?_
    | with_reducible refine SpecC.condW fun A B hA hB => ?_
    | with_reducible refine SpecC.block ?_
    | with_reducible refine SpecC.skip ?_
    | with_reducible refine SpecC.label ?_
    | with_reducible refine SpecC.exit ?_
    | with_reducible refine SpecC.goto ?_
    | with_reducible refine SpecC.ret ?_
    | ((with_reducible first | refine condK.split (fun hb => ?_) (fun hb => ?_) | refine gK.split_t (fun hb => ?_) (fun hb => ?_) | refine gK.split_f (fun hb => ?_) (fun hb => ?_)) <;> try simp only [decide_not, ilt_t, ilt_f, ile_t, ile_f, nlt_t, nlt_f, nle_t, nle_f, Bool.not_eq_true', Bool.not_eq_false', Int.ofNat_lt, Int.ofNat_le] at hb)
    | simp only [go_sem, ↓reduceIte, reduceIte, Nat.reduceEqDiff, String.reduceEq, Nat.reduceLT, Nat.reduceLeDiff, Nat.reduceAdd, Nat.reduceMul, Nat.reduceSub, Nat.reduceBEq, reduceCtorEq, *]
    | with_reducible refine fun (bn : Bool) hbn => ?_))
    all_goals simp_all
  have h60i : ¬ (60 : Int) < (xs.length : Int) := by omega
  refine CallR.go2 (T := T) Try.call6 Try.func6 rfl Try.ntmps6 (congrArg Array.toList Try.results6) (by decide) fun ts hn h0 h1 => ?_
  (repeat' (first
    | with_reducible refine callX.by awake_c ?_
    | with_reducible refine callX.by (few4_c _ ?_ ?_) ?_
    | with_reducible refine callX.by (current_c _ _ ?_) ?_
    | with_reducible refine callX.by awc1 ?_
    | with_reducible refine callX.by awc3 ?_
    | with_reducible refine callX.by (ppublish_c _ _ _ ?_) ?_
    | with_reducible refine callX.by awc2 ?_
    | with_reducible refine callX.by (ppin_c _ _ ?_) ?_
    | with_reducible refine callX.by awc5 ?_
    | with_reducible refine callX.by (prelease_c _ _ _ ?_) ?_
    | with_reducible refine callX.by awc4 ?_
    | with_reducible refine callX.by awc6 ?_
    | with_reducible refine callX.by (pget_c _ _ _ ?_) ?_
    | with_reducible refine callX.by (all4_c _ _ ?_ ?_) ?_
    | with_reducible refine callX.by (pSane_c _ _ ?_) ?_
    | with_reducible assumption
    | (with_reducible refine NxK.out hK _ ?_; clear hK K)
    | with_reducible refine NxK.out (by assumption) _ ?_
    | with_reducible refine Nx.out (by assumption) ?_
    | with_reducible refine SpecC.seqW fun K hK => ?_
    | with_reducible refine SpecC.regW T fun K hK => ?_
    | with_reducible refine SpecC.drawW (id := 21) T mixed [([85], [86, 87, 88, 89, 90, 92, 93, 94, 13]), ([86], [85, 87, 90, 91, 84, 92, 93, 94, 13]), ([87], [85, 86, 90, 91, 84, 92, 93, 94, 13]), ([88], [85, 91, 84, 92, 93, 94, 13]), ([89], [85, 84, 92, 93, 94, 13]), ([90], [85, 86, 87, 92, 93, 94, 13]), ([91], [86, 87, 88, 13]), ([84], [86, 87, 88, 89, 13]), ([92], [85, 86, 87, 88, 89, 90, 93, 94, 13]), ([93], [85, 86, 87, 88, 89, 90, 92, 94, 13]), ([94], [85, 86, 87, 88, 89, 90, 92, 93, 13, 14]), ([13], [85, 86, 87, 88, 89, 90, 91, 84, 92, 93, 94]), ([13], [93, 94]), ([14], [94])] (by kernel_rfl) fun K hK => ?_
    | with_reducible refine SpecC.drawW (id := 14) T mixed [([57], [58, 59, 60, 61, 62, 64, 65, 19]), ([58], [57, 59, 62, 63, 56, 64, 65, 19]), ([59], [57, 58, 62, 63, 56, 64, 65, 19]), ([60], [57, 63, 56, 64, 65, 19]), ([61], [57, 56, 64, 65, 19]), ([62], [57, 58, 59, 64, 65, 19]), ([63], [58, 59, 60, 19]), ([56], [58, 59, 60, 61, 19]), ([64], [57, 58, 59, 60, 61, 62, 65, 19]), ([65], [57, 58, 59, 60, 61, 62, 64, 19]), ([19], [57, 58, 59, 60, 61, 62, 63, 56, 64, 65]), ([19], [65])] (by kernel_rfl) fun K hK => ?_
    | with_reducible refine SpecC.condW fun A B hA hB => ?_
    | with_reducible refine SpecC.block ?_
    | with_reducible refine SpecC.skip ?_
    | with_reducible refine SpecC.label ?_
    | with_reducible refine SpecC.exit ?_
    | with_reducible refine SpecC.goto ?_
    | with_reducible refine SpecC.ret ?_
    | ((with_reducible first | refine condK.split (fun hb => ?_) (fun hb => ?_) | refine gK.split_t (fun hb => ?_) (fun hb => ?_) | refine gK.split_f (fun hb => ?_) (fun hb => ?_)) <;> try simp only [decide_not, ilt_t, ilt_f, ile_t, ile_f, nlt_t, nlt_f, nle_t, nle_f, Bool.not_eq_true', Bool.not_eq_false', Int.ofNat_lt, Int.ofNat_le] at hb)
    | simp only [go_sem, ↓reduceIte, reduceIte, Nat.reduceEqDiff, String.reduceEq, Nat.reduceLT, Nat.reduceLeDiff, Nat.reduceAdd, Nat.reduceMul, Nat.reduceSub, Nat.reduceBEq, reduceCtorEq, *, -hs]
    | with_reducible refine fun (bn : Bool) hbn => ?_))
  refine SpecC.loopF [0, 1, 5] (fun m ts' => ∃ (i : Nat), ∃ (u : Nat), ∃ (cp : Bool), ∃ (cq : Bool), ∃ (q : Pins), ∃ (cnt : Int), ∃ (was : List Res), m = xs.length - i ∧ i ≤ xs.length ∧ KInv q id cnt was i ∧ SmP q ∧ ts'.tmp 9 = .int .i64 i ∧ ts'.tmp 8 = .int .i64 cnt ∧ ts'.tmp 7 = .slice cq (avs was) ∧ ts'.tmp 6 = .ref 6 u 0 ∧ ts'.gen 6 = u ∧ ts'.obj 6 = .box [.int .i64 q.next', .slice cp (avs q.snaps)]) xs.length ?_ ?_
  · refine ⟨0, ts.gen 6 + 1, true, true, ⟨0, []⟩, 0, [], rfl, Nat.zero_le _, kinv0 id, (fun x hx => by simp at hx), ?_⟩
    simp only [go_sem, ↓reduceIte, reduceIte, Nat.reduceEqDiff, String.reduceEq, Nat.reduceLT, Nat.reduceLeDiff, Nat.reduceAdd, Nat.reduceMul, Nat.reduceSub, Nat.reduceBEq, reduceCtorEq, *, -hs, avs_nil]
  · rintro m A hM ts' hk ⟨i, u, cp, cq, q, cnt, was, hm, f1, f2, f3, s1, s2, s3, s4, s5, s6⟩
    simp only [go_sem, ↓reduceIte, reduceIte, Nat.reduceEqDiff, String.reduceEq, Nat.reduceLT, Nat.reduceLeDiff, Nat.reduceAdd, Nat.reduceMul, Nat.reduceSub, Nat.reduceBEq, reduceCtorEq, *] at hk
    by_cases hlt : i < xs.length
    · obtain ⟨hsi, hsj⟩ := hs _ (List.getElem_mem hlt)
      by_cases hfew : fewAll xs[i].l = true
      · have hq1 := f2.ok.small
        obtain ⟨_, hcur, _⟩ := kafter f2 f3
        have hnx := f2.nx
        have hn0 := f2.ok.lo
        have hcl := kcnt f2
        have hc0 := f2.c0
        have hw1 : IntKind.i64.wrap (q.next' + 1) = q.next' + 1 := IntWalk.i64_in _ (by omega)
        have hwc : IntKind.i64.wrap (cnt + 1) = cnt + 1 := IntWalk.i64_in _ (by omega)
        have hwd : IntKind.i64.wrap (cnt - 1) = cnt - 1 := IntWalk.i64_in _ (by omega)
        obtain ⟨p0, he0, hk0⟩ := kpub (L := xs[i].l) f2 (by omega)
        obtain ⟨p1, n1, e1, he1, h1a, h1b, hk1⟩ := kpin2 f2 (by omega)
        obtain ⟨p2, e2, he2, hk2, h2a⟩ := krel xs[i].id f2 (by omega)
        have hs0 := smP_publish (l := xs[i].l) f3 hsi hsj
        have hs1 := smP_pin f3
        have hs2 := smP_release (id := xs[i].id) f3
        rw [he0] at hs0
        rw [he1] at hs1
        rw [he2] at hs2
        rw [← ppublish_eq] at he0
        rw [← ppin_eq] at he1
        rw [← prelease_eq] at he2
        clear hnx hn0 hcl hc0
        (repeat' (first
    | with_reducible refine SpecC.cutAt 34 [0, 1, 5, 9] (fun ts' => ∃ (u : Nat), ∃ (cp : Bool), ∃ (cq : Bool), ∃ (q : Pins), ∃ (cnt : Int), ∃ (was : List Res), KInv q id cnt was (i + 1) ∧ SmP q ∧ ts'.tmp 8 = .int .i64 cnt ∧ ts'.tmp 7 = .slice cq (avs was) ∧ ts'.tmp 6 = .ref 6 u 0 ∧ ts'.gen 6 = u ∧ ts'.obj 6 = .box [.int .i64 q.next', .slice cp (avs q.snaps)]) ?_ ?_
    | with_reducible refine callX.by awake_c ?_
    | with_reducible refine callX.by (few4_c _ ?_ ?_) ?_
    | with_reducible refine callX.by (current_c _ _ ?_) ?_
    | with_reducible refine callX.by awc1 ?_
    | with_reducible refine callX.by awc3 ?_
    | with_reducible refine callX.by (ppublish_c _ _ _ ?_) ?_
    | with_reducible refine callX.by awc2 ?_
    | with_reducible refine callX.by (ppin_c _ _ ?_) ?_
    | with_reducible refine callX.by awc5 ?_
    | with_reducible refine callX.by (prelease_c _ _ _ ?_) ?_
    | with_reducible refine callX.by awc4 ?_
    | with_reducible refine callX.by awc6 ?_
    | with_reducible refine callX.by (pget_c _ _ _ ?_) ?_
    | with_reducible refine callX.by (all4_c _ _ ?_ ?_) ?_
    | with_reducible refine callX.by (pSane_c _ _ ?_) ?_
    | with_reducible assumption
    | (with_reducible refine NxK.out hK _ ?_; clear hK K)
    | with_reducible refine NxK.out (by assumption) _ ?_
    | with_reducible refine Nx.out (by assumption) ?_
    | with_reducible refine SpecC.seqW fun K hK => ?_
    | with_reducible refine SpecC.regW T fun K hK => ?_
    | with_reducible refine SpecC.drawW (id := 21) T mixed [([85], [86, 87, 88, 89, 90, 92, 93, 94, 13]), ([86], [85, 87, 90, 91, 84, 92, 93, 94, 13]), ([87], [85, 86, 90, 91, 84, 92, 93, 94, 13]), ([88], [85, 91, 84, 92, 93, 94, 13]), ([89], [85, 84, 92, 93, 94, 13]), ([90], [85, 86, 87, 92, 93, 94, 13]), ([91], [86, 87, 88, 13]), ([84], [86, 87, 88, 89, 13]), ([92], [85, 86, 87, 88, 89, 90, 93, 94, 13]), ([93], [85, 86, 87, 88, 89, 90, 92, 94, 13]), ([94], [85, 86, 87, 88, 89, 90, 92, 93, 13, 14]), ([13], [85, 86, 87, 88, 89, 90, 91, 84, 92, 93, 94]), ([13], [93, 94]), ([14], [94])] (by kernel_rfl) fun K hK => ?_
    | with_reducible refine SpecC.drawW (id := 14) T mixed [([57], [58, 59, 60, 61, 62, 64, 65, 19]), ([58], [57, 59, 62, 63, 56, 64, 65, 19]), ([59], [57, 58, 62, 63, 56, 64, 65, 19]), ([60], [57, 63, 56, 64, 65, 19]), ([61], [57, 56, 64, 65, 19]), ([62], [57, 58, 59, 64, 65, 19]), ([63], [58, 59, 60, 19]), ([56], [58, 59, 60, 61, 19]), ([64], [57, 58, 59, 60, 61, 62, 65, 19]), ([65], [57, 58, 59, 60, 61, 62, 64, 19]), ([19], [57, 58, 59, 60, 61, 62, 63, 56, 64, 65]), ([19], [65])] (by kernel_rfl) fun K hK => ?_
    | with_reducible refine SpecC.condW fun A B hA hB => ?_
    | with_reducible refine SpecC.block ?_
    | with_reducible refine SpecC.skip ?_
    | with_reducible refine SpecC.label ?_
    | with_reducible refine SpecC.exit ?_
    | with_reducible refine SpecC.goto ?_
    | with_reducible refine SpecC.ret ?_
    | ((with_reducible first | refine condK.split (fun hb => ?_) (fun hb => ?_) | refine gK.split_t (fun hb => ?_) (fun hb => ?_) | refine gK.split_f (fun hb => ?_) (fun hb => ?_)) <;> try simp only [decide_not, ilt_t, ilt_f, ile_t, ile_f, nlt_t, nlt_f, nle_t, nle_f, Bool.not_eq_true', Bool.not_eq_false', Int.ofNat_lt, Int.ofNat_le] at hb)
    | simp only [go_sem, ↓reduceIte, reduceIte, Nat.reduceEqDiff, String.reduceEq, Nat.reduceLT, Nat.reduceLeDiff, Nat.reduceAdd, Nat.reduceMul, Nat.reduceSub, Nat.reduceBEq, reduceCtorEq, *, -hs, -f2, -f3, -hk0, -hk1, -hk2, -hs0, -hs1, -hs2, -h1a, -h1b, -h2a]
    | with_reducible refine fun (bn : Bool) hbn => ?_))
        · rw [if_pos (of_decide_eq_true hb)] at hk0
          (repeat clear hK); (repeat clear hA); (repeat clear hB)
          (refine ⟨by simp only [go_sem, ↓reduceIte, reduceIte, Nat.reduceEqDiff, String.reduceEq, Nat.reduceLT, Nat.reduceLeDiff, Nat.reduceAdd, Nat.reduceMul, Nat.reduceSub, Nat.reduceBEq, reduceCtorEq, *, -hs, -f2, -f3, -hk0, -hk1, -hk2, -hs0, -hs1, -hs2, -h1a, -h1b, -h2a]; done, ⟨u, false, false, p0, cnt, xs[i].l, hk0, hs0, ?_⟩⟩; simp only [go_sem, ↓reduceIte, reduceIte, Nat.reduceEqDiff, String.reduceEq, Nat.reduceLT, Nat.reduceLeDiff, Nat.reduceAdd, Nat.reduceMul, Nat.reduceSub, Nat.reduceBEq, reduceCtorEq, *, -hs, -f2, -f3, -hk0, -hk1, -hk2, -hs0, -hs1, -hs2, -h1a, -h1b, -h2a]; done)
        · rw [if_neg (of_decide_eq_false hb)] at hk0
          (repeat clear hK); (repeat clear hA); (repeat clear hB)
          (refine ⟨by simp only [go_sem, ↓reduceIte, reduceIte, Nat.reduceEqDiff, String.reduceEq, Nat.reduceLT, Nat.reduceLeDiff, Nat.reduceAdd, Nat.reduceMul, Nat.reduceSub, Nat.reduceBEq, reduceCtorEq, *, -hs, -f2, -f3, -hk0, -hk1, -hk2, -hs0, -hs1, -hs2, -h1a, -h1b, -h2a]; done, ⟨u, false, cq, p0, cnt, was, hk0, hs0, ?_⟩⟩; simp only [go_sem, ↓reduceIte, reduceIte, Nat.reduceEqDiff, String.reduceEq, Nat.reduceLT, Nat.reduceLeDiff, Nat.reduceAdd, Nat.reduceMul, Nat.reduceSub, Nat.reduceBEq, reduceCtorEq, *, -hs, -f2, -f3, -hk0, -hk1, -hk2, -hs0, -hs1, -hs2, -h1a, -h1b, -h2a]; done)
        · exact (of_decide_eq_false hb) (h1a (of_decide_eq_true (by assumption)))
        · rw [if_pos ⟨of_decide_eq_true (by assumption), of_decide_eq_true hb⟩] at hk1
          (repeat clear hK); (repeat clear hA); (repeat clear hB)
          (refine ⟨by simp only [go_sem, ↓reduceIte, reduceIte, Nat.reduceEqDiff, String.reduceEq, Nat.reduceLT, Nat.reduceLeDiff, Nat.reduceAdd, Nat.reduceMul, Nat.reduceSub, Nat.reduceBEq, reduceCtorEq, *, -hs, -f2, -f3, -hk0, -hk1, -hk2, -hs0, -hs1, -hs2, -h1a, -h1b, -h2a]; done, ⟨u, false, cq, p1, cnt + 1, was, hk1, hs1, ?_⟩⟩; simp only [go_sem, ↓reduceIte, reduceIte, Nat.reduceEqDiff, String.reduceEq, Nat.reduceLT, Nat.reduceLeDiff, Nat.reduceAdd, Nat.reduceMul, Nat.reduceSub, Nat.reduceBEq, reduceCtorEq, *, -hs, -f2, -f3, -hk0, -hk1, -hk2, -hs0, -hs1, -hs2, -h1a, -h1b, -h2a]; done)
        · rw [if_neg (fun h => of_decide_eq_false hb h.2)] at hk1
          (repeat clear hK); (repeat clear hA); (repeat clear hB)
          (refine ⟨by simp only [go_sem, ↓reduceIte, reduceIte, Nat.reduceEqDiff, String.reduceEq, Nat.reduceLT, Nat.reduceLeDiff, Nat.reduceAdd, Nat.reduceMul, Nat.reduceSub, Nat.reduceBEq, reduceCtorEq, *, -hs, -f2, -f3, -hk0, -hk1, -hk2, -hs0, -hs1, -hs2, -h1a, -h1b, -h2a]; done, ⟨u, false, cq, p1, cnt, was, hk1, hs1, ?_⟩⟩; simp only [go_sem, ↓reduceIte, reduceIte, Nat.reduceEqDiff, String.reduceEq, Nat.reduceLT, Nat.reduceLeDiff, Nat.reduceAdd, Nat.reduceMul, Nat.reduceSub, Nat.reduceBEq, reduceCtorEq, *, -hs, -f2, -f3, -hk0, -hk1, -hk2, -hs0, -hs1, -hs2, -h1a, -h1b, -h2a]; done)
        · exact (of_decide_eq_false hb) (h1b (of_decide_eq_false (by assumption)))
        · rw [if_neg (fun h => (of_decide_eq_false (by assumption : decide (e1 = 0) = false)) h.1)] at hk1
          (repeat clear hK); (repeat clear hA); (repeat clear hB)
          (refine ⟨by simp only [go_sem, ↓reduceIte, reduceIte, Nat.reduceEqDiff, String.reduceEq, Nat.reduceLT, Nat.reduceLeDiff, Nat.reduceAdd, Nat.reduceMul, Nat.reduceSub, Nat.reduceBEq, reduceCtorEq, *, -hs, -f2, -f3, -hk0, -hk1, -hk2, -hs0, -hs1, -hs2, -h1a, -h1b, -h2a]; done, ⟨u, false, cq, p1, cnt, was, hk1, hs1, ?_⟩⟩; simp only [go_sem, ↓reduceIte, reduceIte, Nat.reduceEqDiff, String.reduceEq, Nat.reduceLT, Nat.reduceLeDiff, Nat.reduceAdd, Nat.reduceMul, Nat.reduceSub, Nat.reduceBEq, reduceCtorEq, *, -hs, -f2, -f3, -hk0, -hk1, -hk2, -hs0, -hs1, -hs2, -h1a, -h1b, -h2a]; done)
        · exact (of_decide_eq_false hb) (decide_eq_decide.2 (h2a (of_decide_eq_true (by assumption))))
        · rw [if_pos (of_decide_eq_true (by assumption))] at hk2
          (repeat clear hK); (repeat clear hA); (repeat clear hB)
          (refine ⟨by simp only [go_sem, ↓reduceIte, reduceIte, Nat.reduceEqDiff, String.reduceEq, Nat.reduceLT, Nat.reduceLeDiff, Nat.reduceAdd, Nat.reduceMul, Nat.reduceSub, Nat.reduceBEq, reduceCtorEq, *, -hs, -f2, -f3, -hk0, -hk1, -hk2, -hs0, -hs1, -hs2, -h1a, -h1b, -h2a]; done, ⟨u, false, cq, p2, max 0 (cnt - 1), was, hk2, hs2, ?_⟩⟩; simp only [go_sem, ↓reduceIte, reduceIte, Nat.reduceEqDiff, String.reduceEq, Nat.reduceLT, Nat.reduceLeDiff, Nat.reduceAdd, Nat.reduceMul, Nat.reduceSub, Nat.reduceBEq, reduceCtorEq, *, -hs, -f2, -f3, -hk0, -hk1, -hk2, -hs0, -hs1, -hs2, -h1a, -h1b, -h2a]; done)
        · rw [if_neg (of_decide_eq_false hb)] at hk2
          (repeat clear hK); (repeat clear hA); (repeat clear hB)
          (refine ⟨by simp only [go_sem, ↓reduceIte, reduceIte, Nat.reduceEqDiff, String.reduceEq, Nat.reduceLT, Nat.reduceLeDiff, Nat.reduceAdd, Nat.reduceMul, Nat.reduceSub, Nat.reduceBEq, reduceCtorEq, *, -hs, -f2, -f3, -hk0, -hk1, -hk2, -hs0, -hs1, -hs2, -h1a, -h1b, -h2a]; done, ⟨u, false, cq, p2, cnt, was, hk2, hs2, ?_⟩⟩; simp only [go_sem, ↓reduceIte, reduceIte, Nat.reduceEqDiff, String.reduceEq, Nat.reduceLT, Nat.reduceLeDiff, Nat.reduceAdd, Nat.reduceMul, Nat.reduceSub, Nat.reduceBEq, reduceCtorEq, *, -hs, -f2, -f3, -hk0, -hk1, -hk2, -hs0, -hs1, -hs2, -h1a, -h1b, -h2a]; done)
        · intro ts2 hk3
          rintro ⟨u2, cp2, cq2, q2, cnt2, was2, k1, k2, v1, v2, v3, v4, v5⟩
          simp only [go_sem, ↓reduceIte, reduceIte, Nat.reduceEqDiff, String.reduceEq, Nat.reduceLT, Nat.reduceLeDiff, Nat.reduceAdd, Nat.reduceMul, Nat.reduceSub, Nat.reduceBEq, reduceCtorEq, *] at hk3
          obtain ⟨g1, g2, g3, g4, g5, g6, g7⟩ := kafter k1 k2
          clear he0 he1 he2 hcur hq1 hk hw1 hwc hwd
          rcases Bool.eq_false_or_eq_true (pget q2 id).2 with hgb | hgb
          · have g8 := g4 hgb
            rw [hgb] at g3
            (repeat' (first
    | with_reducible refine callX.by awake_c ?_
    | with_reducible refine callX.by (few4_c _ ?_ ?_) ?_
    | with_reducible refine callX.by (current_c _ _ ?_) ?_
    | with_reducible refine callX.by awc1 ?_
    | with_reducible refine callX.by awc3 ?_
    | with_reducible refine callX.by (ppublish_c _ _ _ ?_) ?_
    | with_reducible refine callX.by awc2 ?_
    | with_reducible refine callX.by (ppin_c _ _ ?_) ?_
    | with_reducible refine callX.by awc5 ?_
    | with_reducible refine callX.by (prelease_c _ _ _ ?_) ?_
    | with_reducible refine callX.by awc4 ?_
    | with_reducible refine callX.by awc6 ?_
    | with_reducible refine callX.by (pget_c _ _ _ ?_) ?_
    | with_reducible refine callX.by (all4_c _ _ ?_ ?_) ?_
    | with_reducible refine callX.by (pSane_c _ _ ?_) ?_
    | with_reducible assumption
    | (with_reducible refine NxK.out hK _ ?_; clear hK K)
    | with_reducible refine NxK.out (by assumption) _ ?_
    | with_reducible refine Nx.out (by assumption) ?_
    | with_reducible refine SpecC.seqW fun K hK => ?_
    | with_reducible refine SpecC.regW T fun K hK => ?_
    | with_reducible refine SpecC.drawW (id := 21) T mixed [([85], [86, 87, 88, 89, 90, 92, 93, 94, 13]), ([86], [85, 87, 90, 91, 84, 92, 93, 94, 13]), ([87], [85, 86, 90, 91, 84, 92, 93, 94, 13]), ([88], [85, 91, 84, 92, 93, 94, 13]), ([89], [85, 84, 92, 93, 94, 13]), ([90], [85, 86, 87, 92, 93, 94, 13]), ([91], [86, 87, 88, 13]), ([84], [86, 87, 88, 89, 13]), ([92], [85, 86, 87, 88, 89, 90, 93, 94, 13]), ([93], [85, 86, 87, 88, 89, 90, 92, 94, 13]), ([94], [85, 86, 87, 88, 89, 90, 92, 93, 13, 14]), ([13], [85, 86, 87, 88, 89, 90, 91, 84, 92, 93, 94]), ([13], [93, 94]), ([14], [94])] (by kernel_rfl) fun K hK => ?_
    | with_reducible refine SpecC.drawW (id := 14) T mixed [([57], [58, 59, 60, 61, 62, 64, 65, 19]), ([58], [57, 59, 62, 63, 56, 64, 65, 19]), ([59], [57, 58, 62, 63, 56, 64, 65, 19]), ([60], [57, 63, 56, 64, 65, 19]), ([61], [57, 56, 64, 65, 19]), ([62], [57, 58, 59, 64, 65, 19]), ([63], [58, 59, 60, 19]), ([56], [58, 59, 60, 61, 19]), ([64], [57, 58, 59, 60, 61, 62, 65, 19]), ([65], [57, 58, 59, 60, 61, 62, 64, 19]), ([19], [57, 58, 59, 60, 61, 62, 63, 56, 64, 65]), ([19], [65])] (by kernel_rfl) fun K hK => ?_
    | with_reducible refine SpecC.condW fun A B hA hB => ?_
    | with_reducible refine SpecC.block ?_
    | with_reducible refine SpecC.skip ?_
    | with_reducible refine SpecC.label ?_
    | with_reducible refine SpecC.exit ?_
    | with_reducible refine SpecC.goto ?_
    | with_reducible refine SpecC.ret ?_
    | ((with_reducible first | refine condK.split (fun hb => ?_) (fun hb => ?_) | refine gK.split_t (fun hb => ?_) (fun hb => ?_) | refine gK.split_f (fun hb => ?_) (fun hb => ?_)) <;> try simp only [decide_not, ilt_t, ilt_f, ile_t, ile_f, nlt_t, nlt_f, nle_t, nle_f, Bool.not_eq_true', Bool.not_eq_false', Int.ofNat_lt, Int.ofNat_le] at hb)
    | simp only [go_sem, ↓reduceIte, reduceIte, Nat.reduceEqDiff, String.reduceEq, Nat.reduceLT, Nat.reduceLeDiff, Nat.reduceAdd, Nat.reduceMul, Nat.reduceSub, Nat.reduceBEq, reduceCtorEq, *, -hs, -f2, -f3, -hk0, -hk1, -hk2, -hs0, -hs1, -hs2, -h1a, -h1b, -h2a, -k1, -k2, -g3, -g4]
    | with_reducible refine fun (bn : Bool) hbn => ?_))
            all_goals ((repeat clear hK); (repeat clear hA); (repeat clear hB))
            all_goals first
              | (refine hM.on (xs.length - (i + 1)) (by omega) (by simp only [go_sem, ↓reduceIte, reduceIte, Nat.reduceEqDiff, String.reduceEq, Nat.reduceLT, Nat.reduceLeDiff, Nat.reduceAdd, Nat.reduceMul, Nat.reduceSub, Nat.reduceBEq, reduceCtorEq, *, w64_nat hlt hl, -hs, -f2, -f3, -hk0, -hk1, -hk2, -hs0, -hs1, -hs2, -h1a, -h1b, -h2a, -k1, -k2, -g3, -g4]) ⟨i + 1, u2, cp2, cq2, q2, cnt2, was2, rfl, by omega, k1, k2, ?_⟩; simp only [go_sem, ↓reduceIte, reduceIte, Nat.reduceEqDiff, String.reduceEq, Nat.reduceLT, Nat.reduceLeDiff, Nat.reduceAdd, Nat.reduceMul, Nat.reduceSub, Nat.reduceBEq, reduceCtorEq, *, w64_nat hlt hl, -hs, -f2, -f3, -hk0, -hk1, -hk2, -hs0, -hs1, -hs2, -h1a, -h1b, -h2a, -k1, -k2, -g3, -g4]; done)
              | (clear hM hs; grind)
              | trace_state
          · rw [hgb] at g3
            (repeat' (first
    | with_reducible refine callX.by awake_c ?_
    | with_reducible refine callX.by (few4_c _ ?_ ?_) ?_
    | with_reducible refine callX.by (current_c _ _ ?_) ?_
    | with_reducible refine callX.by awc1 ?_
    | with_reducible refine callX.by awc3 ?_
    | with_reducible refine callX.by (ppublish_c _ _ _ ?_) ?_
    | with_reducible refine callX.by awc2 ?_
    | with_reducible refine callX.by (ppin_c _ _ ?_) ?_
    | with_reducible refine callX.by awc5 ?_
    | with_reducible refine callX.by (prelease_c _ _ _ ?_) ?_
    | with_reducible refine callX.by awc4 ?_
    | with_reducible refine callX.by awc6 ?_
    | with_reducible refine callX.by (pget_c _ _ _ ?_) ?_
    | with_reducible refine callX.by (all4_c _ _ ?_ ?_) ?_
    | with_reducible refine callX.by (pSane_c _ _ ?_) ?_
    | with_reducible assumption
    | (with_reducible refine NxK.out hK _ ?_; clear hK K)
    | with_reducible refine NxK.out (by assumption) _ ?_
    | with_reducible refine Nx.out (by assumption) ?_
    | with_reducible refine SpecC.seqW fun K hK => ?_
    | with_reducible refine SpecC.regW T fun K hK => ?_
    | with_reducible refine SpecC.drawW (id := 21) T mixed [([85], [86, 87, 88, 89, 90, 92, 93, 94, 13]), ([86], [85, 87, 90, 91, 84, 92, 93, 94, 13]), ([87], [85, 86, 90, 91, 84, 92, 93, 94, 13]), ([88], [85, 91, 84, 92, 93, 94, 13]), ([89], [85, 84, 92, 93, 94, 13]), ([90], [85, 86, 87, 92, 93, 94, 13]), ([91], [86, 87, 88, 13]), ([84], [86, 87, 88, 89, 13]), ([92], [85, 86, 87, 88, 89, 90, 93, 94, 13]), ([93], [85, 86, 87, 88, 89, 90, 92, 94, 13]), ([94], [85, 86, 87, 88, 89, 90, 92, 93, 13, 14]), ([13], [85, 86, 87, 88, 89, 90, 91, 84, 92, 93, 94]), ([13], [93, 94]), ([14], [94])] (by kernel_rfl) fun K hK => ?_
    | with_reducible refine SpecC.drawW (id := 14) T mixed [([57], [58, 59, 60, 61, 62, 64, 65, 19]), ([58], [57, 59, 62, 63, 56, 64, 65, 19]), ([59], [57, 58, 62, 63, 56, 64, 65, 19]), ([60], [57, 63, 56, 64, 65, 19]), ([61], [57, 56, 64, 65, 19]), ([62], [57, 58, 59, 64, 65, 19]), ([63], [58, 59, 60, 19]), ([56], [58, 59, 60, 61, 19]), ([64], [57, 58, 59, 60, 61, 62, 65, 19]), ([65], [57, 58, 59, 60, 61, 62, 64, 19]), ([19], [57, 58, 59, 60, 61, 62, 63, 56, 64, 65]), ([19], [65])] (by kernel_rfl) fun K hK => ?_
    | with_reducible refine SpecC.condW fun A B hA hB => ?_
    | with_reducible refine SpecC.block ?_
    | with_reducible refine SpecC.skip ?_
    | with_reducible refine SpecC.label ?_
    | with_reducible refine SpecC.exit ?_
    | with_reducible refine SpecC.goto ?_
    | with_reducible refine SpecC.ret ?_
    | ((with_reducible first | refine condK.split (fun hb => ?_) (fun hb => ?_) | refine gK.split_t (fun hb => ?_) (fun hb => ?_) | refine gK.split_f (fun hb => ?_) (fun hb => ?_)) <;> try simp only [decide_not, ilt_t, ilt_f, ile_t, ile_f, nlt_t, nlt_f, nle_t, nle_f, Bool.not_eq_true', Bool.not_eq_false', Int.ofNat_lt, Int.ofNat_le] at hb)
    | simp only [go_sem, ↓reduceIte, reduceIte, Nat.reduceEqDiff, String.reduceEq, Nat.reduceLT, Nat.reduceLeDiff, Nat.reduceAdd, Nat.reduceMul, Nat.reduceSub, Nat.reduceBEq, reduceCtorEq, *, -hs, -f2, -f3, -hk0, -hk1, -hk2, -hs0, -hs1, -hs2, -h1a, -h1b, -h2a, -k1, -k2, -g3, -g4]
    | with_reducible refine fun (bn : Bool) hbn => ?_))
            all_goals ((repeat clear hK); (repeat clear hA); (repeat clear hB))
            all_goals first
              | (refine hM.on (xs.length - (i + 1)) (by omega) (by simp only [go_sem, ↓reduceIte, reduceIte, Nat.reduceEqDiff, String.reduceEq, Nat.reduceLT, Nat.reduceLeDiff, Nat.reduceAdd, Nat.reduceMul, Nat.reduceSub, Nat.reduceBEq, reduceCtorEq, *, w64_nat hlt hl, -hs, -f2, -f3, -hk0, -hk1, -hk2, -hs0, -hs1, -hs2, -h1a, -h1b, -h2a, -k1, -k2, -g3, -g4]) ⟨i + 1, u2, cp2, cq2, q2, cnt2, was2, rfl, by omega, k1, k2, ?_⟩; simp only [go_sem, ↓reduceIte, reduceIte, Nat.reduceEqDiff, String.reduceEq, Nat.reduceLT, Nat.reduceLeDiff, Nat.reduceAdd, Nat.reduceMul, Nat.reduceSub, Nat.reduceBEq, reduceCtorEq, *, w64_nat hlt hl, -hs, -f2, -f3, -hk0, -hk1, -hk2, -hs0, -hs1, -hs2, -h1a, -h1b, -h2a, -k1, -k2, -g3, -g4]; done)
              | (clear hM hs; grind)
              | trace_state
      · (repeat' (first
    | with_reducible refine callX.by awake_c ?_
    | with_reducible refine callX.by (few4_c _ ?_ ?_) ?_
    | with_reducible refine callX.by (current_c _ _ ?_) ?_
    | with_reducible refine callX.by awc1 ?_
    | with_reducible refine callX.by awc3 ?_
    | with_reducible refine callX.by (ppublish_c _ _ _ ?_) ?_
    | with_reducible refine callX.by awc2 ?_
    | with_reducible refine callX.by (ppin_c _ _ ?_) ?_
    | with_reducible refine callX.by awc5 ?_
    | with_reducible refine callX.by (prelease_c _ _ _ ?_) ?_
    | with_reducible refine callX.by awc4 ?_
    | with_reducible refine callX.by awc6 ?_
    | with_reducible refine callX.by (pget_c _ _ _ ?_) ?_
    | with_reducible refine callX.by (all4_c _ _ ?_ ?_) ?_
    | with_reducible refine callX.by (pSane_c _ _ ?_) ?_
    | with_reducible assumption
    | (with_reducible refine NxK.out hK _ ?_; clear hK K)
    | with_reducible refine NxK.out (by assumption) _ ?_
    | with_reducible refine Nx.out (by assumption) ?_
    | with_reducible refine SpecC.seqW fun K hK => ?_
    | with_reducible refine SpecC.regW T fun K hK => ?_
    | with_reducible refine SpecC.drawW (id := 21) T mixed [([85], [86, 87, 88, 89, 90, 92, 93, 94, 13]), ([86], [85, 87, 90, 91, 84, 92, 93, 94, 13]), ([87], [85, 86, 90, 91, 84, 92, 93, 94, 13]), ([88], [85, 91, 84, 92, 93, 94, 13]), ([89], [85, 84, 92, 93, 94, 13]), ([90], [85, 86, 87, 92, 93, 94, 13]), ([91], [86, 87, 88, 13]), ([84], [86, 87, 88, 89, 13]), ([92], [85, 86, 87, 88, 89, 90, 93, 94, 13]), ([93], [85, 86, 87, 88, 89, 90, 92, 94, 13]), ([94], [85, 86, 87, 88, 89, 90, 92, 93, 13, 14]), ([13], [85, 86, 87, 88, 89, 90, 91, 84, 92, 93, 94]), ([13], [93, 94]), ([14], [94])] (by kernel_rfl) fun K hK => ?_
    | with_reducible refine SpecC.drawW (id := 14) T mixed [([57], [58, 59, 60, 61, 62, 64, 65, 19]), ([58], [57, 59, 62, 63, 56, 64, 65, 19]), ([59], [57, 58, 62, 63, 56, 64, 65, 19]), ([60], [57, 63, 56, 64, 65, 19]), ([61], [57, 56, 64, 65, 19]), ([62], [57, 58, 59, 64, 65, 19]), ([63], [58, 59, 60, 19]), ([56], [58, 59, 60, 61, 19]), ([64], [57, 58, 59, 60, 61, 62, 65, 19]), ([65], [57, 58, 59, 60, 61, 62, 64, 19]), ([19], [57, 58, 59, 60, 61, 62, 63, 56, 64, 65]), ([19], [65])] (by kernel_rfl) fun K hK => ?_
    | with_reducible refine SpecC.condW fun A B hA hB => ?_
    | with_reducible refine SpecC.block ?_
    | with_reducible refine SpecC.skip ?_
    | with_reducible refine SpecC.label ?_
    | with_reducible refine SpecC.exit ?_
    | with_reducible refine SpecC.goto ?_
    | with_reducible refine SpecC.ret ?_
    | ((with_reducible first | refine condK.split (fun hb => ?_) (fun hb => ?_) | refine gK.split_t (fun hb => ?_) (fun hb => ?_) | refine gK.split_f (fun hb => ?_) (fun hb => ?_)) <;> try simp only [decide_not, ilt_t, ilt_f, ile_t, ile_f, nlt_t, nlt_f, nle_t, nle_f, Bool.not_eq_true', Bool.not_eq_false', Int.ofNat_lt, Int.ofNat_le] at hb)
    | simp only [go_sem, ↓reduceIte, reduceIte, Nat.reduceEqDiff, String.reduceEq, Nat.reduceLT, Nat.reduceLeDiff, Nat.reduceAdd, Nat.reduceMul, Nat.reduceSub, Nat.reduceBEq, reduceCtorEq, *, -hs, -f2, -f3]
    | with_reducible refine fun (bn : Bool) hbn => ?_))
        all_goals simp_all
    · (repeat' (first
    | with_reducible refine callX.by awake_c ?_
    | with_reducible refine callX.by (few4_c _ ?_ ?_) ?_
    | with_reducible refine callX.by (current_c _ _ ?_) ?_
    | with_reducible refine callX.by awc1 ?_
    | with_reducible refine callX.by awc3 ?_
    | with_reducible refine callX.by (ppublish_c _ _ _ ?_) ?_
    | with_reducible refine callX.by awc2 ?_
    | with_reducible refine callX.by (ppin_c _ _ ?_) ?_
    | with_reducible refine callX.by awc5 ?_
    | with_reducible refine callX.by (prelease_c _ _ _ ?_) ?_
    | with_reducible refine callX.by awc4 ?_
    | with_reducible refine callX.by awc6 ?_
    | with_reducible refine callX.by (pget_c _ _ _ ?_) ?_
    | with_reducible refine callX.by (all4_c _ _ ?_ ?_) ?_
    | with_reducible refine callX.by (pSane_c _ _ ?_) ?_
    | with_reducible assumption
    | (with_reducible refine NxK.out hK _ ?_; clear hK K)
    | with_reducible refine NxK.out (by assumption) _ ?_
    | with_reducible refine Nx.out (by assumption) ?_
    | with_reducible refine SpecC.seqW fun K hK => ?_
    | with_reducible refine SpecC.regW T fun K hK => ?_
    | with_reducible refine SpecC.drawW (id := 21) T mixed [([85], [86, 87, 88, 89, 90, 92, 93, 94, 13]), ([86], [85, 87, 90, 91, 84, 92, 93, 94, 13]), ([87], [85, 86, 90, 91, 84, 92, 93, 94, 13]), ([88], [85, 91, 84, 92, 93, 94, 13]), ([89], [85, 84, 92, 93, 94, 13]), ([90], [85, 86, 87, 92, 93, 94, 13]), ([91], [86, 87, 88, 13]), ([84], [86, 87, 88, 89, 13]), ([92], [85, 86, 87, 88, 89, 90, 93, 94, 13]), ([93], [85, 86, 87, 88, 89, 90, 92, 94, 13]), ([94], [85, 86, 87, 88, 89, 90, 92, 93, 13, 14]), ([13], [85, 86, 87, 88, 89, 90, 91, 84, 92, 93, 94]), ([13], [93, 94]), ([14], [94])] (by kernel_rfl) fun K hK => ?_
    | with_reducible refine SpecC.drawW (id := 14) T mixed [([57], [58, 59, 60, 61, 62, 64, 65, 19]), ([58], [57, 59, 62, 63, 56, 64, 65, 19]), ([59], [57, 58, 62, 63, 56, 64, 65, 19]), ([60], [57, 63, 56, 64, 65, 19]), ([61], [57, 56, 64, 65, 19]), ([62], [57, 58, 59, 64, 65, 19]), ([63], [58, 59, 60, 19]), ([56], [58, 59, 60, 61, 19]), ([64], [57, 58, 59, 60, 61, 62, 65, 19]), ([65], [57, 58, 59, 60, 61, 62, 64, 19]), ([19], [57, 58, 59, 60, 61, 62, 63, 56, 64, 65]), ([19], [65])] (by kernel_rfl) fun K hK => ?_
    | with_reducible refine SpecC.condW fun A B hA hB => ?_
    | with_reducible refine SpecC.block ?_
    | with_reducible refine SpecC.skip ?_
    | with_reducible refine SpecC.label ?_
    | with_reducible refine SpecC.exit ?_
    | with_reducible refine SpecC.goto ?_
    | with_reducible refine SpecC.ret ?_
    | ((with_reducible first | refine condK.split (fun hb => ?_) (fun hb => ?_) | refine gK.split_t (fun hb => ?_) (fun hb => ?_) | refine gK.split_f (fun hb => ?_) (fun hb => ?_)) <;> try simp only [decide_not, ilt_t, ilt_f, ile_t, ile_f, nlt_t, nlt_f, nle_t, nle_f, Bool.not_eq_true', Bool.not_eq_false', Int.ofNat_lt, Int.ofNat_le] at hb)
    | simp only [go_sem, ↓reduceIte, reduceIte, Nat.reduceEqDiff, String.reduceEq, Nat.reduceLT, Nat.reduceLeDiff, Nat.reduceAdd, Nat.reduceMul, Nat.reduceSub, Nat.reduceBEq, reduceCtorEq, *, -hs, -f2, -f3]
    | with_reducible refine fun (bn : Bool) hbn => ?_))
end Go.Proofs.Ytjmnokbbodcaaaa.Lg
