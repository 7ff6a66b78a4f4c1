/- The law PinsHold. -/
import Derived.Test.YtjmnokbbodcaaaaPL5
namespace Go.Proofs.Ytjmnokbbodcaaaa.Lg
set_option linter.unusedVariables false
set_option linter.unusedSimpArgs false
open Go

def anyR (l : List Res) (k : Key) : Bool := l.any fun r => decide (keyOf r = k)
def anyIn (xs : List Snap) (k : Key) : Bool := xs.any fun s => anyR s.l k
theorem anyIn_iff (xs : List Snap) (k : Key) : anyIn xs k = true ↔ k ∈ heldL xs := by
  simp [anyIn, anyR, heldL]
theorem anyR_cons (r : Res) (l : List Res) (k : Key) : anyR (r :: l) k = (decide (keyOf r = k) || anyR l k) := rfl
theorem anyIn_cons (s : Snap) (l : List Snap) (k : Key) : anyIn (s :: l) k = (anyR s.l k || anyIn l k) := rfl

theorem keyEq (r : Res) (k : Key) : decide (keyOf r = k) = (decide (r.kind = k.kind) && decide (r.name = k.name)) := by
  simp [keyOf, ext_Key]

set_option maxRecDepth 30000 in
set_option maxHeartbeats 4000000 in
theorem hold_c (next : Int) (xs : List Snap) (hl : Small xs.length) (hs : ∀ x ∈ xs, SmSnap x) : CallR Try.prog 3 [.agg [.int .i64 next, .slice false (avs xs)]] (.val (.bool true)) := by
  by_cases hf : fewPins ⟨next, xs⟩ = true
  rotate_left
  · refine CallR.go1 (T := T) Try.call3 Try.func3 rfl Try.ntmps3 (congrArg Array.toList Try.results3) (by decide) fun ts hn h0 => ?_
    (repeat' (first
    | with_reducible refine callX.by awake_c ?_
    | with_reducible refine callX.by (few18_c _ _ ?_ ?_) ?_
    | with_reducible refine callX.by (pins1_c _ _ ?_) ?_
    | with_reducible refine callX.by (pSane_c _ _ ?_) ?_
    | with_reducible refine callX.by (pheld_c _ _ ?_ ?_ ?_) ?_
    | with_reducible refine callX.by awc7 ?_
    | with_reducible refine callX.by awc8 ?_
    | with_reducible refine callX.by (rkey_c _ _ _ _ _ _ _) ?_
    | with_reducible refine callX.by (kcmp_c _ _ _ _) ?_
    | with_reducible refine callX.by awc4 ?_
    | with_reducible refine callX.by awc6 ?_
    | with_reducible refine callX.by (pget_c _ _ _ ?_) ?_
    | with_reducible refine callX.by (all4_c _ _ ?_ ?_) ?_
    | with_reducible refine callX.by (has6_c _ _ _ ?_) ?_
    | with_reducible assumption
    | (with_reducible refine NxK.out hK _ ?_; clear hK K)
    | with_reducible refine NxK.out (by assumption) _ ?_
    | with_reducible refine Nx.out (by assumption) ?_
    | with_reducible refine SpecC.seqW fun K hK => ?_
    | with_reducible refine SpecC.regW T fun K hK => ?_
    | with_reducible refine SpecC.drawW (id := 15) T mixed [([51], []), ([52], []), ([53], [55, 57, 58, 59, 60, 61, 62, 63, 64, 65, 66, 67, 68]), ([54], [55, 58, 59, 60, 61, 62, 63, 64, 65, 66, 67, 68]), ([55], [53, 54, 58, 59, 60, 61, 62, 63, 64, 65, 66, 67, 68]), ([56], [59, 60, 61, 62, 63, 64, 65, 66, 67, 68]), ([57], [53, 59, 61, 62, 63, 64, 65, 66, 67, 68]), ([58], [53, 54, 55, 59, 62, 63, 64, 65, 66, 67, 68]), ([59], [53, 54, 55, 56, 57, 58, 62, 63, 64, 65, 66, 67, 68]), ([60], [53, 54, 55, 56, 63, 64, 65, 66, 67, 68]), ([61], [53, 54, 55, 56, 57, 63, 64, 65, 66, 68]), ([62], [53, 54, 55, 56, 57, 58, 59, 63, 64, 65, 66]), ([63], [53, 54, 55, 56, 57, 58, 59, 60, 61, 62, 64, 67, 68]), ([64], [53, 54, 55, 56, 57, 58, 59, 60, 61, 62, 63, 67, 68]), ([65], [53, 54, 55, 56, 57, 58, 59, 60, 61, 62, 68]), ([66], [53, 54, 55, 56, 57, 58, 59, 60, 61, 62]), ([67], [53, 54, 55, 56, 57, 58, 59, 60, 63, 64]), ([68], [53, 54, 55, 56, 57, 58, 59, 60, 61, 63, 64, 65])] (by kernel_rfl) fun K hK => ?_
    | with_reducible refine SpecC.drawW (id := 16) T mixed [([69], [72, 73, 74, 75, 76, 77, 78, 79, 80, 81, 82, 83, 84, 85, 86, 87]), ([70], [75, 76, 77, 78, 79, 80, 81, 82, 83, 84, 85]), ([71], []), ([72], [69, 75, 76, 77, 78, 79, 80, 81, 82, 83, 84, 85, 86, 87]), ([73], [69, 87]), ([74], [69]), ([75], [69, 70, 72, 76, 77, 80, 81, 82, 83, 84, 85, 86, 87]), ([76], [69, 70, 72, 75, 79, 80, 81, 82, 83, 84, 85, 86, 87]), ([77], [69, 70, 72, 75, 80, 81, 82, 83, 84, 85, 86, 87]), ([78], [69, 70, 72, 80, 81, 82, 83, 85, 86, 87]), ([79], [69, 70, 72, 76, 80, 81, 82, 83, 86, 87]), ([80], [69, 70, 72, 75, 76, 77, 78, 79, 81, 84, 85, 86, 87]), ([81], [69, 70, 72, 75, 76, 77, 78, 79, 80, 84, 85, 86, 87]), ([82], [69, 70, 72, 75, 76, 77, 78, 79, 85, 86, 87]), ([83], [69, 70, 72, 75, 76, 77, 78, 79, 86, 87]), ([84], [69, 70, 72, 75, 76, 77, 80, 81, 87]), ([85], [69, 70, 72, 75, 76, 77, 78, 80, 81, 82]), ([86], [69, 72, 75, 76, 77, 78, 79, 80, 81, 82, 83]), ([87], [69, 72, 73, 75, 76, 77, 78, 79, 80, 81, 82, 83, 84])] (by kernel_rfl) fun K hK => ?_
    | with_reducible refine SpecC.drawW (id := 21) T mixed [([96], [98, 99, 100, 101, 102, 103, 95, 105, 106]), ([97], [98, 99, 100, 101, 102, 103, 105, 106]), ([98], [96, 97, 100, 102, 103, 104, 95, 105, 106]), ([99], [96, 97, 100, 103, 104, 95, 105, 106]), ([100], [96, 97, 98, 99, 103, 104, 95, 105, 106]), ([101], [96, 97, 104, 95, 105, 106]), ([102], [96, 97, 98, 95, 105, 106]), ([103], [96, 97, 98, 99, 100, 105, 106]), ([104], [98, 99, 100, 101]), ([95], [96, 98, 99, 100, 101, 102]), ([105], [96, 97, 98, 99, 100, 101, 102, 103, 106]), ([106], [96, 97, 98, 99, 100, 101, 102, 103, 105, 10]), ([10], [106])] (by kernel_rfl) fun K hK => ?_
    | with_reducible refine SpecC.condW fun A B hA hB => ?_
    | with_reducible refine SpecC.block ?_
    | with_reducible refine SpecC.skip ?_
    | with_reducible refine SpecC.label ?_
    | with_reducible refine SpecC.exit ?_
    | with_reducible refine SpecC.goto ?_
    | with_reducible refine SpecC.ret ?_
    | ((with_reducible first | refine condK.split (fun hb => ?_) (fun hb => ?_) | refine gK.split_t (fun hb => ?_) (fun hb => ?_) | refine gK.split_f (fun hb => ?_) (fun hb => ?_)) <;> try simp only [decide_not, ilt_t, ilt_f, ile_t, ile_f, nlt_t, nlt_f, nle_t, nle_f, Bool.not_eq_true', Bool.not_eq_false', Int.ofNat_lt, Int.ofNat_le] at hb)
    | simp only [go_sem, ↓reduceIte, reduceIte, Nat.reduceEqDiff, String.reduceEq, Nat.reduceLT, Nat.reduceLeDiff, Nat.reduceAdd, Nat.reduceMul, Nat.reduceSub, Nat.reduceBEq, reduceCtorEq, *]
    | with_reducible refine fun (bn : Bool) hbn => ?_))
    all_goals simp_all
  by_cases hps : pSane ⟨next, xs⟩ = true
  rotate_left
  · refine CallR.go1 (T := T) Try.call3 Try.func3 rfl Try.ntmps3 (congrArg Array.toList Try.results3) (by decide) fun ts hn h0 => ?_
    (repeat' (first
    | with_reducible refine callX.by awake_c ?_
    | with_reducible refine callX.by (few18_c _ _ ?_ ?_) ?_
    | with_reducible refine callX.by (pins1_c _ _ ?_) ?_
    | with_reducible refine callX.by (pSane_c _ _ ?_) ?_
    | with_reducible refine callX.by (pheld_c _ _ ?_ ?_ ?_) ?_
    | with_reducible refine callX.by awc7 ?_
    | with_reducible refine callX.by awc8 ?_
    | with_reducible refine callX.by (rkey_c _ _ _ _ _ _ _) ?_
    | with_reducible refine callX.by (kcmp_c _ _ _ _) ?_
    | with_reducible refine callX.by awc4 ?_
    | with_reducible refine callX.by awc6 ?_
    | with_reducible refine callX.by (pget_c _ _ _ ?_) ?_
    | with_reducible refine callX.by (all4_c _ _ ?_ ?_) ?_
    | with_reducible refine callX.by (has6_c _ _ _ ?_) ?_
    | with_reducible assumption
    | (with_reducible refine NxK.out hK _ ?_; clear hK K)
    | with_reducible refine NxK.out (by assumption) _ ?_
    | with_reducible refine Nx.out (by assumption) ?_
    | with_reducible refine SpecC.seqW fun K hK => ?_
    | with_reducible refine SpecC.regW T fun K hK => ?_
    | with_reducible refine SpecC.drawW (id := 15) T mixed [([51], []), ([52], []), ([53], [55, 57, 58, 59, 60, 61, 62, 63, 64, 65, 66, 67, 68]), ([54], [55, 58, 59, 60, 61, 62, 63, 64, 65, 66, 67, 68]), ([55], [53, 54, 58, 59, 60, 61, 62, 63, 64, 65, 66, 67, 68]), ([56], [59, 60, 61, 62, 63, 64, 65, 66, 67, 68]), ([57], [53, 59, 61, 62, 63, 64, 65, 66, 67, 68]), ([58], [53, 54, 55, 59, 62, 63, 64, 65, 66, 67, 68]), ([59], [53, 54, 55, 56, 57, 58, 62, 63, 64, 65, 66, 67, 68]), ([60], [53, 54, 55, 56, 63, 64, 65, 66, 67, 68]), ([61], [53, 54, 55, 56, 57, 63, 64, 65, 66, 68]), ([62], [53, 54, 55, 56, 57, 58, 59, 63, 64, 65, 66]), ([63], [53, 54, 55, 56, 57, 58, 59, 60, 61, 62, 64, 67, 68]), ([64], [53, 54, 55, 56, 57, 58, 59, 60, 61, 62, 63, 67, 68]), ([65], [53, 54, 55, 56, 57, 58, 59, 60, 61, 62, 68]), ([66], [53, 54, 55, 56, 57, 58, 59, 60, 61, 62]), ([67], [53, 54, 55, 56, 57, 58, 59, 60, 63, 64]), ([68], [53, 54, 55, 56, 57, 58, 59, 60, 61, 63, 64, 65])] (by kernel_rfl) fun K hK => ?_
    | with_reducible refine SpecC.drawW (id := 16) T mixed [([69], [72, 73, 74, 75, 76, 77, 78, 79, 80, 81, 82, 83, 84, 85, 86, 87]), ([70], [75, 76, 77, 78, 79, 80, 81, 82, 83, 84, 85]), ([71], []), ([72], [69, 75, 76, 77, 78, 79, 80, 81, 82, 83, 84, 85, 86, 87]), ([73], [69, 87]), ([74], [69]), ([75], [69, 70, 72, 76, 77, 80, 81, 82, 83, 84, 85, 86, 87]), ([76], [69, 70, 72, 75, 79, 80, 81, 82, 83, 84, 85, 86, 87]), ([77], [69, 70, 72, 75, 80, 81, 82, 83, 84, 85, 86, 87]), ([78], [69, 70, 72, 80, 81, 82, 83, 85, 86, 87]), ([79], [69, 70, 72, 76, 80, 81, 82, 83, 86, 87]), ([80], [69, 70, 72, 75, 76, 77, 78, 79, 81, 84, 85, 86, 87]), ([81], [69, 70, 72, 75, 76, 77, 78, 79, 80, 84, 85, 86, 87]), ([82], [69, 70, 72, 75, 76, 77, 78, 79, 85, 86, 87]), ([83], [69, 70, 72, 75, 76, 77, 78, 79, 86, 87]), ([84], [69, 70, 72, 75, 76, 77, 80, 81, 87]), ([85], [69, 70, 72, 75, 76, 77, 78, 80, 81, 82]), ([86], [69, 72, 75, 76, 77, 78, 79, 80, 81, 82, 83]), ([87], [69, 72, 73, 75, 76, 77, 78, 79, 80, 81, 82, 83, 84])] (by kernel_rfl) fun K hK => ?_
    | with_reducible refine SpecC.drawW (id := 21) T mixed [([96], [98, 99, 100, 101, 102, 103, 95, 105, 106]), ([97], [98, 99, 100, 101, 102, 103, 105, 106]), ([98], [96, 97, 100, 102, 103, 104, 95, 105, 106]), ([99], [96, 97, 100, 103, 104, 95, 105, 106]), ([100], [96, 97, 98, 99, 103, 104, 95, 105, 106]), ([101], [96, 97, 104, 95, 105, 106]), ([102], [96, 97, 98, 95, 105, 106]), ([103], [96, 97, 98, 99, 100, 105, 106]), ([104], [98, 99, 100, 101]), ([95], [96, 98, 99, 100, 101, 102]), ([105], [96, 97, 98, 99, 100, 101, 102, 103, 106]), ([106], [96, 97, 98, 99, 100, 101, 102, 103, 105, 10]), ([10], [106])] (by kernel_rfl) fun K hK => ?_
    | with_reducible refine SpecC.condW fun A B hA hB => ?_
    | with_reducible refine SpecC.block ?_
    | with_reducible refine SpecC.skip ?_
    | with_reducible refine SpecC.label ?_
    | with_reducible refine SpecC.exit ?_
    | with_reducible refine SpecC.goto ?_
    | with_reducible refine SpecC.ret ?_
    | ((with_reducible first | refine condK.split (fun hb => ?_) (fun hb => ?_) | refine gK.split_t (fun hb => ?_) (fun hb => ?_) | refine gK.split_f (fun hb => ?_) (fun hb => ?_)) <;> try simp only [decide_not, ilt_t, ilt_f, ile_t, ile_f, nlt_t, nlt_f, nle_t, nle_f, Bool.not_eq_true', Bool.not_eq_false', Int.ofNat_lt, Int.ofNat_le] at hb)
    | simp only [go_sem, ↓reduceIte, reduceIte, Nat.reduceEqDiff, String.reduceEq, Nat.reduceLT, Nat.reduceLeDiff, Nat.reduceAdd, Nat.reduceMul, Nat.reduceSub, Nat.reduceBEq, reduceCtorEq, *]
    | with_reducible refine fun (bn : Bool) hbn => ?_))
    all_goals simp_all
  have hok := (pSane_iff _).1 hps
  have ht := fewPins_held hf
  have hHl := pheld_small ht
  obtain ⟨hup, hmem⟩ := pheld_up ⟨next, xs⟩
  rw [psane_of hok] at hmem
  simp only at hmem ht
  have hget := fun k (hk : k < xs.length) => rget_at hok (k := k) hk
  simp only at hget
  generalize hH : pheld ⟨next, xs⟩ = H at *
  have hany : ∀ i, (h : i < H.length) → anyIn xs H[i] = true := fun i h => (anyIn_iff _ _).2 ((hmem _).1 (List.getElem_mem h))
  have hlt0 : ∀ i, (h : i < H.length) → 0 < i → kcmp (H[i - 1]'(by omega)) H[i] < 0 := fun i h h0 => by
    have := List.pairwise_iff_getElem.1 hup (i - 1) i (by omega) h (by omega)
    exact this
  clear hup hok
  refine CallR.go1 (T := T) Try.call3 Try.func3 rfl Try.ntmps3 (congrArg Array.toList Try.results3) (by decide) fun ts hn h0 => ?_
  (repeat' (first
    | with_reducible refine callX.by awake_c ?_
    | with_reducible refine callX.by (few18_c _ _ ?_ ?_) ?_
    | with_reducible refine callX.by (pins1_c _ _ ?_) ?_
    | with_reducible refine callX.by (pSane_c _ _ ?_) ?_
    | with_reducible refine callX.by (pheld_c _ _ ?_ ?_ ?_) ?_
    | with_reducible refine callX.by awc7 ?_
    | with_reducible refine callX.by awc8 ?_
    | with_reducible refine callX.by (rkey_c _ _ _ _ _ _ _) ?_
    | with_reducible refine callX.by (kcmp_c _ _ _ _) ?_
    | with_reducible refine callX.by awc4 ?_
    | with_reducible refine callX.by awc6 ?_
    | with_reducible refine callX.by (pget_c _ _ _ ?_) ?_
    | with_reducible refine callX.by (all4_c _ _ ?_ ?_) ?_
    | with_reducible refine callX.by (has6_c _ _ _ ?_) ?_
    | with_reducible assumption
    | (with_reducible refine NxK.out hK _ ?_; clear hK K)
    | with_reducible refine NxK.out (by assumption) _ ?_
    | with_reducible refine Nx.out (by assumption) ?_
    | with_reducible refine SpecC.seqW fun K hK => ?_
    | with_reducible refine SpecC.regW T fun K hK => ?_
    | with_reducible refine SpecC.drawW (id := 15) T mixed [([51], []), ([52], []), ([53], [55, 57, 58, 59, 60, 61, 62, 63, 64, 65, 66, 67, 68]), ([54], [55, 58, 59, 60, 61, 62, 63, 64, 65, 66, 67, 68]), ([55], [53, 54, 58, 59, 60, 61, 62, 63, 64, 65, 66, 67, 68]), ([56], [59, 60, 61, 62, 63, 64, 65, 66, 67, 68]), ([57], [53, 59, 61, 62, 63, 64, 65, 66, 67, 68]), ([58], [53, 54, 55, 59, 62, 63, 64, 65, 66, 67, 68]), ([59], [53, 54, 55, 56, 57, 58, 62, 63, 64, 65, 66, 67, 68]), ([60], [53, 54, 55, 56, 63, 64, 65, 66, 67, 68]), ([61], [53, 54, 55, 56, 57, 63, 64, 65, 66, 68]), ([62], [53, 54, 55, 56, 57, 58, 59, 63, 64, 65, 66]), ([63], [53, 54, 55, 56, 57, 58, 59, 60, 61, 62, 64, 67, 68]), ([64], [53, 54, 55, 56, 57, 58, 59, 60, 61, 62, 63, 67, 68]), ([65], [53, 54, 55, 56, 57, 58, 59, 60, 61, 62, 68]), ([66], [53, 54, 55, 56, 57, 58, 59, 60, 61, 62]), ([67], [53, 54, 55, 56, 57, 58, 59, 60, 63, 64]), ([68], [53, 54, 55, 56, 57, 58, 59, 60, 61, 63, 64, 65])] (by kernel_rfl) fun K hK => ?_
    | with_reducible refine SpecC.drawW (id := 16) T mixed [([69], [72, 73, 74, 75, 76, 77, 78, 79, 80, 81, 82, 83, 84, 85, 86, 87]), ([70], [75, 76, 77, 78, 79, 80, 81, 82, 83, 84, 85]), ([71], []), ([72], [69, 75, 76, 77, 78, 79, 80, 81, 82, 83, 84, 85, 86, 87]), ([73], [69, 87]), ([74], [69]), ([75], [69, 70, 72, 76, 77, 80, 81, 82, 83, 84, 85, 86, 87]), ([76], [69, 70, 72, 75, 79, 80, 81, 82, 83, 84, 85, 86, 87]), ([77], [69, 70, 72, 75, 80, 81, 82, 83, 84, 85, 86, 87]), ([78], [69, 70, 72, 80, 81, 82, 83, 85, 86, 87]), ([79], [69, 70, 72, 76, 80, 81, 82, 83, 86, 87]), ([80], [69, 70, 72, 75, 76, 77, 78, 79, 81, 84, 85, 86, 87]), ([81], [69, 70, 72, 75, 76, 77, 78, 79, 80, 84, 85, 86, 87]), ([82], [69, 70, 72, 75, 76, 77, 78, 79, 85, 86, 87]), ([83], [69, 70, 72, 75, 76, 77, 78, 79, 86, 87]), ([84], [69, 70, 72, 75, 76, 77, 80, 81, 87]), ([85], [69, 70, 72, 75, 76, 77, 78, 80, 81, 82]), ([86], [69, 72, 75, 76, 77, 78, 79, 80, 81, 82, 83]), ([87], [69, 72, 73, 75, 76, 77, 78, 79, 80, 81, 82, 83, 84])] (by kernel_rfl) fun K hK => ?_
    | with_reducible refine SpecC.drawW (id := 21) T mixed [([96], [98, 99, 100, 101, 102, 103, 95, 105, 106]), ([97], [98, 99, 100, 101, 102, 103, 105, 106]), ([98], [96, 97, 100, 102, 103, 104, 95, 105, 106]), ([99], [96, 97, 100, 103, 104, 95, 105, 106]), ([100], [96, 97, 98, 99, 103, 104, 95, 105, 106]), ([101], [96, 97, 104, 95, 105, 106]), ([102], [96, 97, 98, 95, 105, 106]), ([103], [96, 97, 98, 99, 100, 105, 106]), ([104], [98, 99, 100, 101]), ([95], [96, 98, 99, 100, 101, 102]), ([105], [96, 97, 98, 99, 100, 101, 102, 103, 106]), ([106], [96, 97, 98, 99, 100, 101, 102, 103, 105, 10]), ([10], [106])] (by kernel_rfl) fun K hK => ?_
    | with_reducible refine SpecC.condW fun A B hA hB => ?_
    | with_reducible refine SpecC.block ?_
    | with_reducible refine SpecC.skip ?_
    | with_reducible refine SpecC.label ?_
    | with_reducible refine SpecC.exit ?_
    | with_reducible refine SpecC.goto ?_
    | with_reducible refine SpecC.ret ?_
    | ((with_reducible first | refine condK.split (fun hb => ?_) (fun hb => ?_) | refine gK.split_t (fun hb => ?_) (fun hb => ?_) | refine gK.split_f (fun hb => ?_) (fun hb => ?_)) <;> try simp only [decide_not, ilt_t, ilt_f, ile_t, ile_f, nlt_t, nlt_f, nle_t, nle_f, Bool.not_eq_true', Bool.not_eq_false', Int.ofNat_lt, Int.ofNat_le] at hb)
    | simp only [go_sem, ↓reduceIte, reduceIte, Nat.reduceEqDiff, String.reduceEq, Nat.reduceLT, Nat.reduceLeDiff, Nat.reduceAdd, Nat.reduceMul, Nat.reduceSub, Nat.reduceBEq, reduceCtorEq, *, -hany, -hlt0, -hmem, -hget]
    | with_reducible refine fun (bn : Bool) hbn => ?_))
  refine SpecC.ent (Ent.frz 4 (d := 26) (g := ts.gen 26 + 1) (len := H.length) (sz := 2) (xs := avs H) (by simp only [go_sem, ↓reduceIte, reduceIte, Nat.reduceEqDiff, String.reduceEq, Nat.reduceLT, Nat.reduceLeDiff, Nat.reduceAdd, Nat.reduceMul, Nat.reduceSub, Nat.reduceBEq, reduceCtorEq, *, -hany, -hlt0, -hmem, -hget]; done) (by simp only [go_sem, ↓reduceIte, reduceIte, Nat.reduceEqDiff, String.reduceEq, Nat.reduceLT, Nat.reduceLeDiff, Nat.reduceAdd, Nat.reduceMul, Nat.reduceSub, Nat.reduceBEq, reduceCtorEq, *, -hany, -hlt0, -hmem, -hget]; done) (by simp only [go_sem, ↓reduceIte, reduceIte, Nat.reduceEqDiff, String.reduceEq, Nat.reduceLT, Nat.reduceLeDiff, Nat.reduceAdd, Nat.reduceMul, Nat.reduceSub, Nat.reduceBEq, reduceCtorEq, *, -hany, -hlt0, -hmem, -hget]; done) (by simp only [go_sem, ↓reduceIte, reduceIte, Nat.reduceEqDiff, String.reduceEq, Nat.reduceLT, Nat.reduceLeDiff, Nat.reduceAdd, Nat.reduceMul, Nat.reduceSub, Nat.reduceBEq, reduceCtorEq, *, -hany, -hlt0, -hmem, -hget]; done)) ?_
  refine SpecC.loopF [1, 3, 4] (fun m ts' => ∃ (i : Nat), m = H.length - i ∧ i ≤ H.length ∧ ts'.tmp 5 = .int .i64 i) H.length ?_ ?_
  · refine ⟨0, ?_⟩
    simp only [go_sem, ↓reduceIte, reduceIte, Nat.reduceEqDiff, String.reduceEq, Nat.reduceLT, Nat.reduceLeDiff, Nat.reduceAdd, Nat.reduceMul, Nat.reduceSub, Nat.reduceBEq, reduceCtorEq, *, -hany, -hlt0, -hmem, -hget]
  · rintro m A hM ts' hk ⟨i, hm, f1, s1⟩
    simp only [go_sem, ↓reduceIte, reduceIte, Nat.reduceEqDiff, String.reduceEq, Nat.reduceLT, Nat.reduceLeDiff, Nat.reduceAdd, Nat.reduceMul, Nat.reduceSub, Nat.reduceBEq, reduceCtorEq, *] at hk
    by_cases hlt : i < H.length
    · have hai := hany i hlt
      have h0i := hlt0 i hlt
      clear hany hlt0
      (repeat' (first
    | with_reducible refine callX.by awake_c ?_
    | with_reducible refine callX.by (few18_c _ _ ?_ ?_) ?_
    | with_reducible refine callX.by (pins1_c _ _ ?_) ?_
    | with_reducible refine callX.by (pSane_c _ _ ?_) ?_
    | with_reducible refine callX.by (pheld_c _ _ ?_ ?_ ?_) ?_
    | with_reducible refine callX.by awc7 ?_
    | with_reducible refine callX.by awc8 ?_
    | with_reducible refine callX.by (rkey_c _ _ _ _ _ _ _) ?_
    | with_reducible refine callX.by (kcmp_c _ _ _ _) ?_
    | with_reducible refine callX.by awc4 ?_
    | with_reducible refine callX.by awc6 ?_
    | with_reducible refine callX.by (pget_c _ _ _ ?_) ?_
    | with_reducible refine callX.by (all4_c _ _ ?_ ?_) ?_
    | with_reducible refine callX.by (has6_c _ _ _ ?_) ?_
    | with_reducible assumption
    | (with_reducible refine NxK.out hK _ ?_; clear hK K)
    | with_reducible refine NxK.out (by assumption) _ ?_
    | with_reducible refine Nx.out (by assumption) ?_
    | with_reducible refine SpecC.seqW fun K hK => ?_
    | with_reducible refine SpecC.regW T fun K hK => ?_
    | with_reducible refine SpecC.drawW (id := 15) T mixed [([51], []), ([52], []), ([53], [55, 57, 58, 59, 60, 61, 62, 63, 64, 65, 66, 67, 68]), ([54], [55, 58, 59, 60, 61, 62, 63, 64, 65, 66, 67, 68]), ([55], [53, 54, 58, 59, 60, 61, 62, 63, 64, 65, 66, 67, 68]), ([56], [59, 60, 61, 62, 63, 64, 65, 66, 67, 68]), ([57], [53, 59, 61, 62, 63, 64, 65, 66, 67, 68]), ([58], [53, 54, 55, 59, 62, 63, 64, 65, 66, 67, 68]), ([59], [53, 54, 55, 56, 57, 58, 62, 63, 64, 65, 66, 67, 68]), ([60], [53, 54, 55, 56, 63, 64, 65, 66, 67, 68]), ([61], [53, 54, 55, 56, 57, 63, 64, 65, 66, 68]), ([62], [53, 54, 55, 56, 57, 58, 59, 63, 64, 65, 66]), ([63], [53, 54, 55, 56, 57, 58, 59, 60, 61, 62, 64, 67, 68]), ([64], [53, 54, 55, 56, 57, 58, 59, 60, 61, 62, 63, 67, 68]), ([65], [53, 54, 55, 56, 57, 58, 59, 60, 61, 62, 68]), ([66], [53, 54, 55, 56, 57, 58, 59, 60, 61, 62]), ([67], [53, 54, 55, 56, 57, 58, 59, 60, 63, 64]), ([68], [53, 54, 55, 56, 57, 58, 59, 60, 61, 63, 64, 65])] (by kernel_rfl) fun K hK => ?_
    | with_reducible refine SpecC.drawW (id := 16) T mixed [([69], [72, 73, 74, 75, 76, 77, 78, 79, 80, 81, 82, 83, 84, 85, 86, 87]), ([70], [75, 76, 77, 78, 79, 80, 81, 82, 83, 84, 85]), ([71], []), ([72], [69, 75, 76, 77, 78, 79, 80, 81, 82, 83, 84, 85, 86, 87]), ([73], [69, 87]), ([74], [69]), ([75], [69, 70, 72, 76, 77, 80, 81, 82, 83, 84, 85, 86, 87]), ([76], [69, 70, 72, 75, 79, 80, 81, 82, 83, 84, 85, 86, 87]), ([77], [69, 70, 72, 75, 80, 81, 82, 83, 84, 85, 86, 87]), ([78], [69, 70, 72, 80, 81, 82, 83, 85, 86, 87]), ([79], [69, 70, 72, 76, 80, 81, 82, 83, 86, 87]), ([80], [69, 70, 72, 75, 76, 77, 78, 79, 81, 84, 85, 86, 87]), ([81], [69, 70, 72, 75, 76, 77, 78, 79, 80, 84, 85, 86, 87]), ([82], [69, 70, 72, 75, 76, 77, 78, 79, 85, 86, 87]), ([83], [69, 70, 72, 75, 76, 77, 78, 79, 86, 87]), ([84], [69, 70, 72, 75, 76, 77, 80, 81, 87]), ([85], [69, 70, 72, 75, 76, 77, 78, 80, 81, 82]), ([86], [69, 72, 75, 76, 77, 78, 79, 80, 81, 82, 83]), ([87], [69, 72, 73, 75, 76, 77, 78, 79, 80, 81, 82, 83, 84])] (by kernel_rfl) fun K hK => ?_
    | with_reducible refine SpecC.drawW (id := 21) T mixed [([96], [98, 99, 100, 101, 102, 103, 95, 105, 106]), ([97], [98, 99, 100, 101, 102, 103, 105, 106]), ([98], [96, 97, 100, 102, 103, 104, 95, 105, 106]), ([99], [96, 97, 100, 103, 104, 95, 105, 106]), ([100], [96, 97, 98, 99, 103, 104, 95, 105, 106]), ([101], [96, 97, 104, 95, 105, 106]), ([102], [96, 97, 98, 95, 105, 106]), ([103], [96, 97, 98, 99, 100, 105, 106]), ([104], [98, 99, 100, 101]), ([95], [96, 98, 99, 100, 101, 102]), ([105], [96, 97, 98, 99, 100, 101, 102, 103, 106]), ([106], [96, 97, 98, 99, 100, 101, 102, 103, 105, 10]), ([10], [106])] (by kernel_rfl) fun K hK => ?_
    | with_reducible refine SpecC.condW fun A B hA hB => ?_
    | with_reducible refine SpecC.block ?_
    | with_reducible refine SpecC.skip ?_
    | with_reducible refine SpecC.label ?_
    | with_reducible refine SpecC.exit ?_
    | with_reducible refine SpecC.goto ?_
    | with_reducible refine SpecC.ret ?_
    | ((with_reducible first | refine condK.split (fun hb => ?_) (fun hb => ?_) | refine gK.split_t (fun hb => ?_) (fun hb => ?_) | refine gK.split_f (fun hb => ?_) (fun hb => ?_)) <;> try simp only [decide_not, ilt_t, ilt_f, ile_t, ile_f, nlt_t, nlt_f, nle_t, nle_f, Bool.not_eq_true', Bool.not_eq_false', Int.ofNat_lt, Int.ofNat_le] at hb)
    | simp only [go_sem, ↓reduceIte, reduceIte, Nat.reduceEqDiff, String.reduceEq, Nat.reduceLT, Nat.reduceLeDiff, Nat.reduceAdd, Nat.reduceMul, Nat.reduceSub, Nat.reduceBEq, reduceCtorEq, *, -hmem, -hget, -hai, -h0i]
    | with_reducible refine fun (bn : Bool) hbn => ?_))
      refine SpecC.loopF [1, 3, 4, 5] (fun m ts' => ∃ (k : Nat), ∃ (b : Bool), m = xs.length - k ∧ k ≤ xs.length ∧ (b || anyIn (xs.drop k) H[i]) = true ∧ ts'.tmp 6 = .bool b ∧ ts'.tmp 7 = .int .i64 k) xs.length ?_ ?_
      · refine ⟨0, false, rfl, Nat.zero_le _, by simpa using hai, ?_⟩
        simp only [go_sem, ↓reduceIte, reduceIte, Nat.reduceEqDiff, String.reduceEq, Nat.reduceLT, Nat.reduceLeDiff, Nat.reduceAdd, Nat.reduceMul, Nat.reduceSub, Nat.reduceBEq, reduceCtorEq, *, -hmem, -hget, -hai, -h0i]
      · clear hai
        revert hM
        intro hM0
        rintro m A hM ts' hk ⟨k, b, hm, f1, f2, s1, s2⟩
        simp only [go_sem, ↓reduceIte, reduceIte, Nat.reduceEqDiff, String.reduceEq, Nat.reduceLT, Nat.reduceLeDiff, Nat.reduceAdd, Nat.reduceMul, Nat.reduceSub, Nat.reduceBEq, reduceCtorEq, *] at hk
        by_cases hltk : k < xs.length
        · rw [List.drop_eq_getElem_cons hltk, anyIn_cons] at f2
          obtain ⟨hsi, hsj⟩ := hs _ (List.getElem_mem hltk)
          (repeat' (first
    | with_reducible refine callX.by awake_c ?_
    | with_reducible refine callX.by (few18_c _ _ ?_ ?_) ?_
    | with_reducible refine callX.by (pins1_c _ _ ?_) ?_
    | with_reducible refine callX.by (pSane_c _ _ ?_) ?_
    | with_reducible refine callX.by (pheld_c _ _ ?_ ?_ ?_) ?_
    | with_reducible refine callX.by awc7 ?_
    | with_reducible refine callX.by awc8 ?_
    | with_reducible refine callX.by (rkey_c _ _ _ _ _ _ _) ?_
    | with_reducible refine callX.by (kcmp_c _ _ _ _) ?_
    | with_reducible refine callX.by awc4 ?_
    | with_reducible refine callX.by awc6 ?_
    | with_reducible refine callX.by (pget_c _ _ _ ?_) ?_
    | with_reducible refine callX.by (all4_c _ _ ?_ ?_) ?_
    | with_reducible refine callX.by (has6_c _ _ _ ?_) ?_
    | with_reducible assumption
    | (with_reducible refine NxK.out hK _ ?_; clear hK K)
    | with_reducible refine NxK.out (by assumption) _ ?_
    | with_reducible refine Nx.out (by assumption) ?_
    | with_reducible refine SpecC.seqW fun K hK => ?_
    | with_reducible refine SpecC.regW T fun K hK => ?_
    | with_reducible refine SpecC.drawW (id := 15) T mixed [([51], []), ([52], []), ([53], [55, 57, 58, 59, 60, 61, 62, 63, 64, 65, 66, 67, 68]), ([54], [55, 58, 59, 60, 61, 62, 63, 64, 65, 66, 67, 68]), ([55], [53, 54, 58, 59, 60, 61, 62, 63, 64, 65, 66, 67, 68]), ([56], [59, 60, 61, 62, 63, 64, 65, 66, 67, 68]), ([57], [53, 59, 61, 62, 63, 64, 65, 66, 67, 68]), ([58], [53, 54, 55, 59, 62, 63, 64, 65, 66, 67, 68]), ([59], [53, 54, 55, 56, 57, 58, 62, 63, 64, 65, 66, 67, 68]), ([60], [53, 54, 55, 56, 63, 64, 65, 66, 67, 68]), ([61], [53, 54, 55, 56, 57, 63, 64, 65, 66, 68]), ([62], [53, 54, 55, 56, 57, 58, 59, 63, 64, 65, 66]), ([63], [53, 54, 55, 56, 57, 58, 59, 60, 61, 62, 64, 67, 68]), ([64], [53, 54, 55, 56, 57, 58, 59, 60, 61, 62, 63, 67, 68]), ([65], [53, 54, 55, 56, 57, 58, 59, 60, 61, 62, 68]), ([66], [53, 54, 55, 56, 57, 58, 59, 60, 61, 62]), ([67], [53, 54, 55, 56, 57, 58, 59, 60, 63, 64]), ([68], [53, 54, 55, 56, 57, 58, 59, 60, 61, 63, 64, 65])] (by kernel_rfl) fun K hK => ?_
    | with_reducible refine SpecC.drawW (id := 16) T mixed [([69], [72, 73, 74, 75, 76, 77, 78, 79, 80, 81, 82, 83, 84, 85, 86, 87]), ([70], [75, 76, 77, 78, 79, 80, 81, 82, 83, 84, 85]), ([71], []), ([72], [69, 75, 76, 77, 78, 79, 80, 81, 82, 83, 84, 85, 86, 87]), ([73], [69, 87]), ([74], [69]), ([75], [69, 70, 72, 76, 77, 80, 81, 82, 83, 84, 85, 86, 87]), ([76], [69, 70, 72, 75, 79, 80, 81, 82, 83, 84, 85, 86, 87]), ([77], [69, 70, 72, 75, 80, 81, 82, 83, 84, 85, 86, 87]), ([78], [69, 70, 72, 80, 81, 82, 83, 85, 86, 87]), ([79], [69, 70, 72, 76, 80, 81, 82, 83, 86, 87]), ([80], [69, 70, 72, 75, 76, 77, 78, 79, 81, 84, 85, 86, 87]), ([81], [69, 70, 72, 75, 76, 77, 78, 79, 80, 84, 85, 86, 87]), ([82], [69, 70, 72, 75, 76, 77, 78, 79, 85, 86, 87]), ([83], [69, 70, 72, 75, 76, 77, 78, 79, 86, 87]), ([84], [69, 70, 72, 75, 76, 77, 80, 81, 87]), ([85], [69, 70, 72, 75, 76, 77, 78, 80, 81, 82]), ([86], [69, 72, 75, 76, 77, 78, 79, 80, 81, 82, 83]), ([87], [69, 72, 73, 75, 76, 77, 78, 79, 80, 81, 82, 83, 84])] (by kernel_rfl) fun K hK => ?_
    | with_reducible refine SpecC.drawW (id := 21) T mixed [([96], [98, 99, 100, 101, 102, 103, 95, 105, 106]), ([97], [98, 99, 100, 101, 102, 103, 105, 106]), ([98], [96, 97, 100, 102, 103, 104, 95, 105, 106]), ([99], [96, 97, 100, 103, 104, 95, 105, 106]), ([100], [96, 97, 98, 99, 103, 104, 95, 105, 106]), ([101], [96, 97, 104, 95, 105, 106]), ([102], [96, 97, 98, 95, 105, 106]), ([103], [96, 97, 98, 99, 100, 105, 106]), ([104], [98, 99, 100, 101]), ([95], [96, 98, 99, 100, 101, 102]), ([105], [96, 97, 98, 99, 100, 101, 102, 103, 106]), ([106], [96, 97, 98, 99, 100, 101, 102, 103, 105, 10]), ([10], [106])] (by kernel_rfl) fun K hK => ?_
    | with_reducible refine SpecC.condW fun A B hA hB => ?_
    | with_reducible refine SpecC.block ?_
    | with_reducible refine SpecC.skip ?_
    | with_reducible refine SpecC.label ?_
    | with_reducible refine SpecC.exit ?_
    | with_reducible refine SpecC.goto ?_
    | with_reducible refine SpecC.ret ?_
    | ((with_reducible first | refine condK.split (fun hb => ?_) (fun hb => ?_) | refine gK.split_t (fun hb => ?_) (fun hb => ?_) | refine gK.split_f (fun hb => ?_) (fun hb => ?_)) <;> try simp only [decide_not, ilt_t, ilt_f, ile_t, ile_f, nlt_t, nlt_f, nle_t, nle_f, Bool.not_eq_true', Bool.not_eq_false', Int.ofNat_lt, Int.ofNat_le] at hb)
    | simp only [go_sem, ↓reduceIte, reduceIte, Nat.reduceEqDiff, String.reduceEq, Nat.reduceLT, Nat.reduceLeDiff, Nat.reduceAdd, Nat.reduceMul, Nat.reduceSub, Nat.reduceBEq, reduceCtorEq, *, -hmem, -hget, -f2, -h0i]
    | with_reducible refine fun (bn : Bool) hbn => ?_))
          refine SpecC.loopF [1, 3, 4, 5, 7] (fun m ts' => ∃ (j : Nat), ∃ (c : Bool), m = xs[k].l.length - j ∧ j ≤ xs[k].l.length ∧ (c || (anyR (xs[k].l.drop j) H[i] || anyIn (xs.drop (k + 1)) H[i])) = true ∧ ts'.tmp 6 = .bool c ∧ ts'.tmp 8 = .int .i64 j) xs[k].l.length ?_ ?_
          · refine ⟨0, b, rfl, Nat.zero_le _, by simpa using f2, ?_⟩
            simp only [go_sem, ↓reduceIte, reduceIte, Nat.reduceEqDiff, String.reduceEq, Nat.reduceLT, Nat.reduceLeDiff, Nat.reduceAdd, Nat.reduceMul, Nat.reduceSub, Nat.reduceBEq, reduceCtorEq, *, -hmem, -hget, -f2, -h0i]
          · clear f2
            revert hM
            intro hM1
            rintro m A hM ts' hk ⟨j, c, hm, f1, f2, s1, s2⟩
            simp only [go_sem, ↓reduceIte, reduceIte, Nat.reduceEqDiff, String.reduceEq, Nat.reduceLT, Nat.reduceLeDiff, Nat.reduceAdd, Nat.reduceMul, Nat.reduceSub, Nat.reduceBEq, reduceCtorEq, *] at hk
            by_cases hltj : j < xs[k].l.length
            · rw [List.drop_eq_getElem_cons hltj, anyR_cons] at f2
              (repeat' (first
    | with_reducible refine callX.by awake_c ?_
    | with_reducible refine callX.by (few18_c _ _ ?_ ?_) ?_
    | with_reducible refine callX.by (pins1_c _ _ ?_) ?_
    | with_reducible refine callX.by (pSane_c _ _ ?_) ?_
    | with_reducible refine callX.by (pheld_c _ _ ?_ ?_ ?_) ?_
    | with_reducible refine callX.by awc7 ?_
    | with_reducible refine callX.by awc8 ?_
    | with_reducible refine callX.by (rkey_c _ _ _ _ _ _ _) ?_
    | with_reducible refine callX.by (kcmp_c _ _ _ _) ?_
    | with_reducible refine callX.by awc4 ?_
    | with_reducible refine callX.by awc6 ?_
    | with_reducible refine callX.by (pget_c _ _ _ ?_) ?_
    | with_reducible refine callX.by (all4_c _ _ ?_ ?_) ?_
    | with_reducible refine callX.by (has6_c _ _ _ ?_) ?_
    | with_reducible assumption
    | (with_reducible refine NxK.out hK _ ?_; clear hK K)
    | with_reducible refine NxK.out (by assumption) _ ?_
    | with_reducible refine Nx.out (by assumption) ?_
    | with_reducible refine SpecC.seqW fun K hK => ?_
    | with_reducible refine SpecC.regW T fun K hK => ?_
    | with_reducible refine SpecC.drawW (id := 15) T mixed [([51], []), ([52], []), ([53], [55, 57, 58, 59, 60, 61, 62, 63, 64, 65, 66, 67, 68]), ([54], [55, 58, 59, 60, 61, 62, 63, 64, 65, 66, 67, 68]), ([55], [53, 54, 58, 59, 60, 61, 62, 63, 64, 65, 66, 67, 68]), ([56], [59, 60, 61, 62, 63, 64, 65, 66, 67, 68]), ([57], [53, 59, 61, 62, 63, 64, 65, 66, 67, 68]), ([58], [53, 54, 55, 59, 62, 63, 64, 65, 66, 67, 68]), ([59], [53, 54, 55, 56, 57, 58, 62, 63, 64, 65, 66, 67, 68]), ([60], [53, 54, 55, 56, 63, 64, 65, 66, 67, 68]), ([61], [53, 54, 55, 56, 57, 63, 64, 65, 66, 68]), ([62], [53, 54, 55, 56, 57, 58, 59, 63, 64, 65, 66]), ([63], [53, 54, 55, 56, 57, 58, 59, 60, 61, 62, 64, 67, 68]), ([64], [53, 54, 55, 56, 57, 58, 59, 60, 61, 62, 63, 67, 68]), ([65], [53, 54, 55, 56, 57, 58, 59, 60, 61, 62, 68]), ([66], [53, 54, 55, 56, 57, 58, 59, 60, 61, 62]), ([67], [53, 54, 55, 56, 57, 58, 59, 60, 63, 64]), ([68], [53, 54, 55, 56, 57, 58, 59, 60, 61, 63, 64, 65])] (by kernel_rfl) fun K hK => ?_
    | with_reducible refine SpecC.drawW (id := 16) T mixed [([69], [72, 73, 74, 75, 76, 77, 78, 79, 80, 81, 82, 83, 84, 85, 86, 87]), ([70], [75, 76, 77, 78, 79, 80, 81, 82, 83, 84, 85]), ([71], []), ([72], [69, 75, 76, 77, 78, 79, 80, 81, 82, 83, 84, 85, 86, 87]), ([73], [69, 87]), ([74], [69]), ([75], [69, 70, 72, 76, 77, 80, 81, 82, 83, 84, 85, 86, 87]), ([76], [69, 70, 72, 75, 79, 80, 81, 82, 83, 84, 85, 86, 87]), ([77], [69, 70, 72, 75, 80, 81, 82, 83, 84, 85, 86, 87]), ([78], [69, 70, 72, 80, 81, 82, 83, 85, 86, 87]), ([79], [69, 70, 72, 76, 80, 81, 82, 83, 86, 87]), ([80], [69, 70, 72, 75, 76, 77, 78, 79, 81, 84, 85, 86, 87]), ([81], [69, 70, 72, 75, 76, 77, 78, 79, 80, 84, 85, 86, 87]), ([82], [69, 70, 72, 75, 76, 77, 78, 79, 85, 86, 87]), ([83], [69, 70, 72, 75, 76, 77, 78, 79, 86, 87]), ([84], [69, 70, 72, 75, 76, 77, 80, 81, 87]), ([85], [69, 70, 72, 75, 76, 77, 78, 80, 81, 82]), ([86], [69, 72, 75, 76, 77, 78, 79, 80, 81, 82, 83]), ([87], [69, 72, 73, 75, 76, 77, 78, 79, 80, 81, 82, 83, 84])] (by kernel_rfl) fun K hK => ?_
    | with_reducible refine SpecC.drawW (id := 21) T mixed [([96], [98, 99, 100, 101, 102, 103, 95, 105, 106]), ([97], [98, 99, 100, 101, 102, 103, 105, 106]), ([98], [96, 97, 100, 102, 103, 104, 95, 105, 106]), ([99], [96, 97, 100, 103, 104, 95, 105, 106]), ([100], [96, 97, 98, 99, 103, 104, 95, 105, 106]), ([101], [96, 97, 104, 95, 105, 106]), ([102], [96, 97, 98, 95, 105, 106]), ([103], [96, 97, 98, 99, 100, 105, 106]), ([104], [98, 99, 100, 101]), ([95], [96, 98, 99, 100, 101, 102]), ([105], [96, 97, 98, 99, 100, 101, 102, 103, 106]), ([106], [96, 97, 98, 99, 100, 101, 102, 103, 105, 10]), ([10], [106])] (by kernel_rfl) fun K hK => ?_
    | with_reducible refine SpecC.condW fun A B hA hB => ?_
    | with_reducible refine SpecC.block ?_
    | with_reducible refine SpecC.skip ?_
    | with_reducible refine SpecC.label ?_
    | with_reducible refine SpecC.exit ?_
    | with_reducible refine SpecC.goto ?_
    | with_reducible refine SpecC.ret ?_
    | ((with_reducible first | refine condK.split (fun hb => ?_) (fun hb => ?_) | refine gK.split_t (fun hb => ?_) (fun hb => ?_) | refine gK.split_f (fun hb => ?_) (fun hb => ?_)) <;> try simp only [decide_not, ilt_t, ilt_f, ile_t, ile_f, nlt_t, nlt_f, nle_t, nle_f, Bool.not_eq_true', Bool.not_eq_false', Int.ofNat_lt, Int.ofNat_le] at hb)
    | simp only [go_sem, ↓reduceIte, reduceIte, Nat.reduceEqDiff, String.reduceEq, Nat.reduceLT, Nat.reduceLeDiff, Nat.reduceAdd, Nat.reduceMul, Nat.reduceSub, Nat.reduceBEq, reduceCtorEq, *, -hmem, -hget, -f2, -h0i]
    | with_reducible refine fun (bn : Bool) hbn => ?_))
              all_goals ((repeat clear hK); (repeat clear hA); (repeat clear hB))
              all_goals first
                | (refine hM.on (xs[k].l.length - (j + 1)) (by omega) (by simp only [go_sem, ↓reduceIte, reduceIte, Nat.reduceEqDiff, String.reduceEq, Nat.reduceLT, Nat.reduceLeDiff, Nat.reduceAdd, Nat.reduceMul, Nat.reduceSub, Nat.reduceBEq, reduceCtorEq, *, w64_nat hltj hsi, keyEq, -f2, -hmem, -hget, -h0i]) ⟨j + 1, c || decide (keyOf xs[k].l[j] = H[i]), rfl, by omega, by simpa only [Bool.or_assoc] using f2, ?_⟩; simp only [go_sem, ↓reduceIte, reduceIte, Nat.reduceEqDiff, String.reduceEq, Nat.reduceLT, Nat.reduceLeDiff, Nat.reduceAdd, Nat.reduceMul, Nat.reduceSub, Nat.reduceBEq, reduceCtorEq, *, w64_nat hltj hsi, keyEq, -f2, -hmem, -hget, -h0i]; done)
                | skip
            · rw [List.drop_eq_nil_of_le (by omega)] at f2
              (repeat' (first
    | with_reducible refine callX.by awake_c ?_
    | with_reducible refine callX.by (few18_c _ _ ?_ ?_) ?_
    | with_reducible refine callX.by (pins1_c _ _ ?_) ?_
    | with_reducible refine callX.by (pSane_c _ _ ?_) ?_
    | with_reducible refine callX.by (pheld_c _ _ ?_ ?_ ?_) ?_
    | with_reducible refine callX.by awc7 ?_
    | with_reducible refine callX.by awc8 ?_
    | with_reducible refine callX.by (rkey_c _ _ _ _ _ _ _) ?_
    | with_reducible refine callX.by (kcmp_c _ _ _ _) ?_
    | with_reducible refine callX.by awc4 ?_
    | with_reducible refine callX.by awc6 ?_
    | with_reducible refine callX.by (pget_c _ _ _ ?_) ?_
    | with_reducible refine callX.by (all4_c _ _ ?_ ?_) ?_
    | with_reducible refine callX.by (has6_c _ _ _ ?_) ?_
    | with_reducible assumption
    | (with_reducible refine NxK.out hK _ ?_; clear hK K)
    | with_reducible refine NxK.out (by assumption) _ ?_
    | with_reducible refine Nx.out (by assumption) ?_
    | with_reducible refine SpecC.seqW fun K hK => ?_
    | with_reducible refine SpecC.regW T fun K hK => ?_
    | with_reducible refine SpecC.drawW (id := 15) T mixed [([51], []), ([52], []), ([53], [55, 57, 58, 59, 60, 61, 62, 63, 64, 65, 66, 67, 68]), ([54], [55, 58, 59, 60, 61, 62, 63, 64, 65, 66, 67, 68]), ([55], [53, 54, 58, 59, 60, 61, 62, 63, 64, 65, 66, 67, 68]), ([56], [59, 60, 61, 62, 63, 64, 65, 66, 67, 68]), ([57], [53, 59, 61, 62, 63, 64, 65, 66, 67, 68]), ([58], [53, 54, 55, 59, 62, 63, 64, 65, 66, 67, 68]), ([59], [53, 54, 55, 56, 57, 58, 62, 63, 64, 65, 66, 67, 68]), ([60], [53, 54, 55, 56, 63, 64, 65, 66, 67, 68]), ([61], [53, 54, 55, 56, 57, 63, 64, 65, 66, 68]), ([62], [53, 54, 55, 56, 57, 58, 59, 63, 64, 65, 66]), ([63], [53, 54, 55, 56, 57, 58, 59, 60, 61, 62, 64, 67, 68]), ([64], [53, 54, 55, 56, 57, 58, 59, 60, 61, 62, 63, 67, 68]), ([65], [53, 54, 55, 56, 57, 58, 59, 60, 61, 62, 68]), ([66], [53, 54, 55, 56, 57, 58, 59, 60, 61, 62]), ([67], [53, 54, 55, 56, 57, 58, 59, 60, 63, 64]), ([68], [53, 54, 55, 56, 57, 58, 59, 60, 61, 63, 64, 65])] (by kernel_rfl) fun K hK => ?_
    | with_reducible refine SpecC.drawW (id := 16) T mixed [([69], [72, 73, 74, 75, 76, 77, 78, 79, 80, 81, 82, 83, 84, 85, 86, 87]), ([70], [75, 76, 77, 78, 79, 80, 81, 82, 83, 84, 85]), ([71], []), ([72], [69, 75, 76, 77, 78, 79, 80, 81, 82, 83, 84, 85, 86, 87]), ([73], [69, 87]), ([74], [69]), ([75], [69, 70, 72, 76, 77, 80, 81, 82, 83, 84, 85, 86, 87]), ([76], [69, 70, 72, 75, 79, 80, 81, 82, 83, 84, 85, 86, 87]), ([77], [69, 70, 72, 75, 80, 81, 82, 83, 84, 85, 86, 87]), ([78], [69, 70, 72, 80, 81, 82, 83, 85, 86, 87]), ([79], [69, 70, 72, 76, 80, 81, 82, 83, 86, 87]), ([80], [69, 70, 72, 75, 76, 77, 78, 79, 81, 84, 85, 86, 87]), ([81], [69, 70, 72, 75, 76, 77, 78, 79, 80, 84, 85, 86, 87]), ([82], [69, 70, 72, 75, 76, 77, 78, 79, 85, 86, 87]), ([83], [69, 70, 72, 75, 76, 77, 78, 79, 86, 87]), ([84], [69, 70, 72, 75, 76, 77, 80, 81, 87]), ([85], [69, 70, 72, 75, 76, 77, 78, 80, 81, 82]), ([86], [69, 72, 75, 76, 77, 78, 79, 80, 81, 82, 83]), ([87], [69, 72, 73, 75, 76, 77, 78, 79, 80, 81, 82, 83, 84])] (by kernel_rfl) fun K hK => ?_
    | with_reducible refine SpecC.drawW (id := 21) T mixed [([96], [98, 99, 100, 101, 102, 103, 95, 105, 106]), ([97], [98, 99, 100, 101, 102, 103, 105, 106]), ([98], [96, 97, 100, 102, 103, 104, 95, 105, 106]), ([99], [96, 97, 100, 103, 104, 95, 105, 106]), ([100], [96, 97, 98, 99, 103, 104, 95, 105, 106]), ([101], [96, 97, 104, 95, 105, 106]), ([102], [96, 97, 98, 95, 105, 106]), ([103], [96, 97, 98, 99, 100, 105, 106]), ([104], [98, 99, 100, 101]), ([95], [96, 98, 99, 100, 101, 102]), ([105], [96, 97, 98, 99, 100, 101, 102, 103, 106]), ([106], [96, 97, 98, 99, 100, 101, 102, 103, 105, 10]), ([10], [106])] (by kernel_rfl) fun K hK => ?_
    | with_reducible refine SpecC.condW fun A B hA hB => ?_
    | with_reducible refine SpecC.block ?_
    | with_reducible refine SpecC.skip ?_
    | with_reducible refine SpecC.label ?_
    | with_reducible refine SpecC.exit ?_
    | with_reducible refine SpecC.goto ?_
    | with_reducible refine SpecC.ret ?_
    | ((with_reducible first | refine condK.split (fun hb => ?_) (fun hb => ?_) | refine gK.split_t (fun hb => ?_) (fun hb => ?_) | refine gK.split_f (fun hb => ?_) (fun hb => ?_)) <;> try simp only [decide_not, ilt_t, ilt_f, ile_t, ile_f, nlt_t, nlt_f, nle_t, nle_f, Bool.not_eq_true', Bool.not_eq_false', Int.ofNat_lt, Int.ofNat_le] at hb)
    | simp only [go_sem, ↓reduceIte, reduceIte, Nat.reduceEqDiff, String.reduceEq, Nat.reduceLT, Nat.reduceLeDiff, Nat.reduceAdd, Nat.reduceMul, Nat.reduceSub, Nat.reduceBEq, reduceCtorEq, *, -hmem, -hget, -f2, -h0i]
    | with_reducible refine fun (bn : Bool) hbn => ?_))
              all_goals ((repeat clear hK); (repeat clear hA); (repeat clear hB))
              all_goals (clear hM; revert hM1; intro hM)
              (refine hM.on (xs.length - (k + 1)) (by omega) (by simp only [go_sem, ↓reduceIte, reduceIte, Nat.reduceEqDiff, String.reduceEq, Nat.reduceLT, Nat.reduceLeDiff, Nat.reduceAdd, Nat.reduceMul, Nat.reduceSub, Nat.reduceBEq, reduceCtorEq, *, w64_nat hltk hl, -f2, -hmem, -hget, -h0i]) ⟨k + 1, c, rfl, by omega, by simpa [anyR] using f2, ?_⟩; simp only [go_sem, ↓reduceIte, reduceIte, Nat.reduceEqDiff, String.reduceEq, Nat.reduceLT, Nat.reduceLeDiff, Nat.reduceAdd, Nat.reduceMul, Nat.reduceSub, Nat.reduceBEq, reduceCtorEq, *, w64_nat hltk hl, -f2, -hmem, -hget, -h0i]; done)
        · rw [List.drop_eq_nil_of_le (by omega)] at f2
          have hb1 : b = true := by simpa [anyIn] using f2
          have hHl' : Small H.length := hHl
          by_cases h0 : 0 < i
          · have hw1 : IntKind.i64.wrap ((i : Int) - 1) = ((i - 1 : Nat) : Int) := by
              rw [w64_pred (n := i) (by unfold Small at *; omega)]; omega
            have hi1 : i - 1 < H.length := by omega
            have hk1 := h0i h0
            have hk2 : ¬ 0 ≤ kcmp H[i - 1] H[i] := by omega
            have h0z : (0 : Int) < (i : Int) := by omega
            clear hk1 h0i
            (repeat' (first
    | with_reducible refine callX.by awake_c ?_
    | with_reducible refine callX.by (few18_c _ _ ?_ ?_) ?_
    | with_reducible refine callX.by (pins1_c _ _ ?_) ?_
    | with_reducible refine callX.by (pSane_c _ _ ?_) ?_
    | with_reducible refine callX.by (pheld_c _ _ ?_ ?_ ?_) ?_
    | with_reducible refine callX.by awc7 ?_
    | with_reducible refine callX.by awc8 ?_
    | with_reducible refine callX.by (rkey_c _ _ _ _ _ _ _) ?_
    | with_reducible refine callX.by (kcmp_c _ _ _ _) ?_
    | with_reducible refine callX.by awc4 ?_
    | with_reducible refine callX.by awc6 ?_
    | with_reducible refine callX.by (pget_c _ _ _ ?_) ?_
    | with_reducible refine callX.by (all4_c _ _ ?_ ?_) ?_
    | with_reducible refine callX.by (has6_c _ _ _ ?_) ?_
    | with_reducible assumption
    | (with_reducible refine NxK.out hK _ ?_; clear hK K)
    | with_reducible refine NxK.out (by assumption) _ ?_
    | with_reducible refine Nx.out (by assumption) ?_
    | with_reducible refine SpecC.seqW fun K hK => ?_
    | with_reducible refine SpecC.regW T fun K hK => ?_
    | with_reducible refine SpecC.drawW (id := 15) T mixed [([51], []), ([52], []), ([53], [55, 57, 58, 59, 60, 61, 62, 63, 64, 65, 66, 67, 68]), ([54], [55, 58, 59, 60, 61, 62, 63, 64, 65, 66, 67, 68]), ([55], [53, 54, 58, 59, 60, 61, 62, 63, 64, 65, 66, 67, 68]), ([56], [59, 60, 61, 62, 63, 64, 65, 66, 67, 68]), ([57], [53, 59, 61, 62, 63, 64, 65, 66, 67, 68]), ([58], [53, 54, 55, 59, 62, 63, 64, 65, 66, 67, 68]), ([59], [53, 54, 55, 56, 57, 58, 62, 63, 64, 65, 66, 67, 68]), ([60], [53, 54, 55, 56, 63, 64, 65, 66, 67, 68]), ([61], [53, 54, 55, 56, 57, 63, 64, 65, 66, 68]), ([62], [53, 54, 55, 56, 57, 58, 59, 63, 64, 65, 66]), ([63], [53, 54, 55, 56, 57, 58, 59, 60, 61, 62, 64, 67, 68]), ([64], [53, 54, 55, 56, 57, 58, 59, 60, 61, 62, 63, 67, 68]), ([65], [53, 54, 55, 56, 57, 58, 59, 60, 61, 62, 68]), ([66], [53, 54, 55, 56, 57, 58, 59, 60, 61, 62]), ([67], [53, 54, 55, 56, 57, 58, 59, 60, 63, 64]), ([68], [53, 54, 55, 56, 57, 58, 59, 60, 61, 63, 64, 65])] (by kernel_rfl) fun K hK => ?_
    | with_reducible refine SpecC.drawW (id := 16) T mixed [([69], [72, 73, 74, 75, 76, 77, 78, 79, 80, 81, 82, 83, 84, 85, 86, 87]), ([70], [75, 76, 77, 78, 79, 80, 81, 82, 83, 84, 85]), ([71], []), ([72], [69, 75, 76, 77, 78, 79, 80, 81, 82, 83, 84, 85, 86, 87]), ([73], [69, 87]), ([74], [69]), ([75], [69, 70, 72, 76, 77, 80, 81, 82, 83, 84, 85, 86, 87]), ([76], [69, 70, 72, 75, 79, 80, 81, 82, 83, 84, 85, 86, 87]), ([77], [69, 70, 72, 75, 80, 81, 82, 83, 84, 85, 86, 87]), ([78], [69, 70, 72, 80, 81, 82, 83, 85, 86, 87]), ([79], [69, 70, 72, 76, 80, 81, 82, 83, 86, 87]), ([80], [69, 70, 72, 75, 76, 77, 78, 79, 81, 84, 85, 86, 87]), ([81], [69, 70, 72, 75, 76, 77, 78, 79, 80, 84, 85, 86, 87]), ([82], [69, 70, 72, 75, 76, 77, 78, 79, 85, 86, 87]), ([83], [69, 70, 72, 75, 76, 77, 78, 79, 86, 87]), ([84], [69, 70, 72, 75, 76, 77, 80, 81, 87]), ([85], [69, 70, 72, 75, 76, 77, 78, 80, 81, 82]), ([86], [69, 72, 75, 76, 77, 78, 79, 80, 81, 82, 83]), ([87], [69, 72, 73, 75, 76, 77, 78, 79, 80, 81, 82, 83, 84])] (by kernel_rfl) fun K hK => ?_
    | with_reducible refine SpecC.drawW (id := 21) T mixed [([96], [98, 99, 100, 101, 102, 103, 95, 105, 106]), ([97], [98, 99, 100, 101, 102, 103, 105, 106]), ([98], [96, 97, 100, 102, 103, 104, 95, 105, 106]), ([99], [96, 97, 100, 103, 104, 95, 105, 106]), ([100], [96, 97, 98, 99, 103, 104, 95, 105, 106]), ([101], [96, 97, 104, 95, 105, 106]), ([102], [96, 97, 98, 95, 105, 106]), ([103], [96, 97, 98, 99, 100, 105, 106]), ([104], [98, 99, 100, 101]), ([95], [96, 98, 99, 100, 101, 102]), ([105], [96, 97, 98, 99, 100, 101, 102, 103, 106]), ([106], [96, 97, 98, 99, 100, 101, 102, 103, 105, 10]), ([10], [106])] (by kernel_rfl) fun K hK => ?_
    | with_reducible refine SpecC.condW fun A B hA hB => ?_
    | with_reducible refine SpecC.block ?_
    | with_reducible refine SpecC.skip ?_
    | with_reducible refine SpecC.label ?_
    | with_reducible refine SpecC.exit ?_
    | with_reducible refine SpecC.goto ?_
    | with_reducible refine SpecC.ret ?_
    | ((with_reducible first | refine condK.split (fun hb => ?_) (fun hb => ?_) | refine gK.split_t (fun hb => ?_) (fun hb => ?_) | refine gK.split_f (fun hb => ?_) (fun hb => ?_)) <;> try simp only [decide_not, ilt_t, ilt_f, ile_t, ile_f, nlt_t, nlt_f, nle_t, nle_f, Bool.not_eq_true', Bool.not_eq_false', Int.ofNat_lt, Int.ofNat_le] at hb)
    | simp only [go_sem, ↓reduceIte, reduceIte, Nat.reduceEqDiff, String.reduceEq, Nat.reduceLT, Nat.reduceLeDiff, Nat.reduceAdd, Nat.reduceMul, Nat.reduceSub, Nat.reduceBEq, reduceCtorEq, *, -hmem, -hget, -f2, hw1]
    | with_reducible refine fun (bn : Bool) hbn => ?_))
            all_goals ((repeat clear hK); (repeat clear hA); (repeat clear hB))
            all_goals (clear hM; revert hM0; intro hM)
            (refine hM.on (H.length - (i + 1)) (by omega) (by simp only [go_sem, ↓reduceIte, reduceIte, Nat.reduceEqDiff, String.reduceEq, Nat.reduceLT, Nat.reduceLeDiff, Nat.reduceAdd, Nat.reduceMul, Nat.reduceSub, Nat.reduceBEq, reduceCtorEq, *, w64_nat hlt hHl, -f2, -hmem, -hget]) ⟨i + 1, rfl, by omega, ?_⟩; simp only [go_sem, ↓reduceIte, reduceIte, Nat.reduceEqDiff, String.reduceEq, Nat.reduceLT, Nat.reduceLeDiff, Nat.reduceAdd, Nat.reduceMul, Nat.reduceSub, Nat.reduceBEq, reduceCtorEq, *, w64_nat hlt hHl, -f2, -hmem, -hget]; done)
          · have h0z : ¬ (0 : Int) < (i : Int) := by omega
            clear h0i
            (repeat' (first
    | with_reducible refine callX.by awake_c ?_
    | with_reducible refine callX.by (few18_c _ _ ?_ ?_) ?_
    | with_reducible refine callX.by (pins1_c _ _ ?_) ?_
    | with_reducible refine callX.by (pSane_c _ _ ?_) ?_
    | with_reducible refine callX.by (pheld_c _ _ ?_ ?_ ?_) ?_
    | with_reducible refine callX.by awc7 ?_
    | with_reducible refine callX.by awc8 ?_
    | with_reducible refine callX.by (rkey_c _ _ _ _ _ _ _) ?_
    | with_reducible refine callX.by (kcmp_c _ _ _ _) ?_
    | with_reducible refine callX.by awc4 ?_
    | with_reducible refine callX.by awc6 ?_
    | with_reducible refine callX.by (pget_c _ _ _ ?_) ?_
    | with_reducible refine callX.by (all4_c _ _ ?_ ?_) ?_
    | with_reducible refine callX.by (has6_c _ _ _ ?_) ?_
    | with_reducible assumption
    | (with_reducible refine NxK.out hK _ ?_; clear hK K)
    | with_reducible refine NxK.out (by assumption) _ ?_
    | with_reducible refine Nx.out (by assumption) ?_
    | with_reducible refine SpecC.seqW fun K hK => ?_
    | with_reducible refine SpecC.regW T fun K hK => ?_
    | with_reducible refine SpecC.drawW (id := 15) T mixed [([51], []), ([52], []), ([53], [55, 57, 58, 59, 60, 61, 62, 63, 64, 65, 66, 67, 68]), ([54], [55, 58, 59, 60, 61, 62, 63, 64, 65, 66, 67, 68]), ([55], [53, 54, 58, 59, 60, 61, 62, 63, 64, 65, 66, 67, 68]), ([56], [59, 60, 61, 62, 63, 64, 65, 66, 67, 68]), ([57], [53, 59, 61, 62, 63, 64, 65, 66, 67, 68]), ([58], [53, 54, 55, 59, 62, 63, 64, 65, 66, 67, 68]), ([59], [53, 54, 55, 56, 57, 58, 62, 63, 64, 65, 66, 67, 68]), ([60], [53, 54, 55, 56, 63, 64, 65, 66, 67, 68]), ([61], [53, 54, 55, 56, 57, 63, 64, 65, 66, 68]), ([62], [53, 54, 55, 56, 57, 58, 59, 63, 64, 65, 66]), ([63], [53, 54, 55, 56, 57, 58, 59, 60, 61, 62, 64, 67, 68]), ([64], [53, 54, 55, 56, 57, 58, 59, 60, 61, 62, 63, 67, 68]), ([65], [53, 54, 55, 56, 57, 58, 59, 60, 61, 62, 68]), ([66], [53, 54, 55, 56, 57, 58, 59, 60, 61, 62]), ([67], [53, 54, 55, 56, 57, 58, 59, 60, 63, 64]), ([68], [53, 54, 55, 56, 57, 58, 59, 60, 61, 63, 64, 65])] (by kernel_rfl) fun K hK => ?_
    | with_reducible refine SpecC.drawW (id := 16) T mixed [([69], [72, 73, 74, 75, 76, 77, 78, 79, 80, 81, 82, 83, 84, 85, 86, 87]), ([70], [75, 76, 77, 78, 79, 80, 81, 82, 83, 84, 85]), ([71], []), ([72], [69, 75, 76, 77, 78, 79, 80, 81, 82, 83, 84, 85, 86, 87]), ([73], [69, 87]), ([74], [69]), ([75], [69, 70, 72, 76, 77, 80, 81, 82, 83, 84, 85, 86, 87]), ([76], [69, 70, 72, 75, 79, 80, 81, 82, 83, 84, 85, 86, 87]), ([77], [69, 70, 72, 75, 80, 81, 82, 83, 84, 85, 86, 87]), ([78], [69, 70, 72, 80, 81, 82, 83, 85, 86, 87]), ([79], [69, 70, 72, 76, 80, 81, 82, 83, 86, 87]), ([80], [69, 70, 72, 75, 76, 77, 78, 79, 81, 84, 85, 86, 87]), ([81], [69, 70, 72, 75, 76, 77, 78, 79, 80, 84, 85, 86, 87]), ([82], [69, 70, 72, 75, 76, 77, 78, 79, 85, 86, 87]), ([83], [69, 70, 72, 75, 76, 77, 78, 79, 86, 87]), ([84], [69, 70, 72, 75, 76, 77, 80, 81, 87]), ([85], [69, 70, 72, 75, 76, 77, 78, 80, 81, 82]), ([86], [69, 72, 75, 76, 77, 78, 79, 80, 81, 82, 83]), ([87], [69, 72, 73, 75, 76, 77, 78, 79, 80, 81, 82, 83, 84])] (by kernel_rfl) fun K hK => ?_
    | with_reducible refine SpecC.drawW (id := 21) T mixed [([96], [98, 99, 100, 101, 102, 103, 95, 105, 106]), ([97], [98, 99, 100, 101, 102, 103, 105, 106]), ([98], [96, 97, 100, 102, 103, 104, 95, 105, 106]), ([99], [96, 97, 100, 103, 104, 95, 105, 106]), ([100], [96, 97, 98, 99, 103, 104, 95, 105, 106]), ([101], [96, 97, 104, 95, 105, 106]), ([102], [96, 97, 98, 95, 105, 106]), ([103], [96, 97, 98, 99, 100, 105, 106]), ([104], [98, 99, 100, 101]), ([95], [96, 98, 99, 100, 101, 102]), ([105], [96, 97, 98, 99, 100, 101, 102, 103, 106]), ([106], [96, 97, 98, 99, 100, 101, 102, 103, 105, 10]), ([10], [106])] (by kernel_rfl) fun K hK => ?_
    | with_reducible refine SpecC.condW fun A B hA hB => ?_
    | with_reducible refine SpecC.block ?_
    | with_reducible refine SpecC.skip ?_
    | with_reducible refine SpecC.label ?_
    | with_reducible refine SpecC.exit ?_
    | with_reducible refine SpecC.goto ?_
    | with_reducible refine SpecC.ret ?_
    | ((with_reducible first | refine condK.split (fun hb => ?_) (fun hb => ?_) | refine gK.split_t (fun hb => ?_) (fun hb => ?_) | refine gK.split_f (fun hb => ?_) (fun hb => ?_)) <;> try simp only [decide_not, ilt_t, ilt_f, ile_t, ile_f, nlt_t, nlt_f, nle_t, nle_f, Bool.not_eq_true', Bool.not_eq_false', Int.ofNat_lt, Int.ofNat_le] at hb)
    | simp only [go_sem, ↓reduceIte, reduceIte, Nat.reduceEqDiff, String.reduceEq, Nat.reduceLT, Nat.reduceLeDiff, Nat.reduceAdd, Nat.reduceMul, Nat.reduceSub, Nat.reduceBEq, reduceCtorEq, *, -hmem, -hget, -f2]
    | with_reducible refine fun (bn : Bool) hbn => ?_))
            all_goals ((repeat clear hK); (repeat clear hA); (repeat clear hB))
            all_goals (clear hM; revert hM0; intro hM)
            (refine hM.on (H.length - (i + 1)) (by omega) (by simp only [go_sem, ↓reduceIte, reduceIte, Nat.reduceEqDiff, String.reduceEq, Nat.reduceLT, Nat.reduceLeDiff, Nat.reduceAdd, Nat.reduceMul, Nat.reduceSub, Nat.reduceBEq, reduceCtorEq, *, w64_nat hlt hHl, -f2, -hmem, -hget]) ⟨i + 1, rfl, by omega, ?_⟩; simp only [go_sem, ↓reduceIte, reduceIte, Nat.reduceEqDiff, String.reduceEq, Nat.reduceLT, Nat.reduceLeDiff, Nat.reduceAdd, Nat.reduceMul, Nat.reduceSub, Nat.reduceBEq, reduceCtorEq, *, w64_nat hlt hHl, -f2, -hmem, -hget]; done)
    · clear hany hlt0 hM
      (repeat' (first
    | with_reducible refine callX.by awake_c ?_
    | with_reducible refine callX.by (few18_c _ _ ?_ ?_) ?_
    | with_reducible refine callX.by (pins1_c _ _ ?_) ?_
    | with_reducible refine callX.by (pSane_c _ _ ?_) ?_
    | with_reducible refine callX.by (pheld_c _ _ ?_ ?_ ?_) ?_
    | with_reducible refine callX.by awc7 ?_
    | with_reducible refine callX.by awc8 ?_
    | with_reducible refine callX.by (rkey_c _ _ _ _ _ _ _) ?_
    | with_reducible refine callX.by (kcmp_c _ _ _ _) ?_
    | with_reducible refine callX.by awc4 ?_
    | with_reducible refine callX.by awc6 ?_
    | with_reducible refine callX.by (pget_c _ _ _ ?_) ?_
    | with_reducible refine callX.by (all4_c _ _ ?_ ?_) ?_
    | with_reducible refine callX.by (has6_c _ _ _ ?_) ?_
    | with_reducible assumption
    | (with_reducible refine NxK.out hK _ ?_; clear hK K)
    | with_reducible refine NxK.out (by assumption) _ ?_
    | with_reducible refine Nx.out (by assumption) ?_
    | with_reducible refine SpecC.seqW fun K hK => ?_
    | with_reducible refine SpecC.regW T fun K hK => ?_
    | with_reducible refine SpecC.drawW (id := 15) T mixed [([51], []), ([52], []), ([53], [55, 57, 58, 59, 60, 61, 62, 63, 64, 65, 66, 67, 68]), ([54], [55, 58, 59, 60, 61, 62, 63, 64, 65, 66, 67, 68]), ([55], [53, 54, 58, 59, 60, 61, 62, 63, 64, 65, 66, 67, 68]), ([56], [59, 60, 61, 62, 63, 64, 65, 66, 67, 68]), ([57], [53, 59, 61, 62, 63, 64, 65, 66, 67, 68]), ([58], [53, 54, 55, 59, 62, 63, 64, 65, 66, 67, 68]), ([59], [53, 54, 55, 56, 57, 58, 62, 63, 64, 65, 66, 67, 68]), ([60], [53, 54, 55, 56, 63, 64, 65, 66, 67, 68]), ([61], [53, 54, 55, 56, 57, 63, 64, 65, 66, 68]), ([62], [53, 54, 55, 56, 57, 58, 59, 63, 64, 65, 66]), ([63], [53, 54, 55, 56, 57, 58, 59, 60, 61, 62, 64, 67, 68]), ([64], [53, 54, 55, 56, 57, 58, 59, 60, 61, 62, 63, 67, 68]), ([65], [53, 54, 55, 56, 57, 58, 59, 60, 61, 62, 68]), ([66], [53, 54, 55, 56, 57, 58, 59, 60, 61, 62]), ([67], [53, 54, 55, 56, 57, 58, 59, 60, 63, 64]), ([68], [53, 54, 55, 56, 57, 58, 59, 60, 61, 63, 64, 65])] (by kernel_rfl) fun K hK => ?_
    | with_reducible refine SpecC.drawW (id := 16) T mixed [([69], [72, 73, 74, 75, 76, 77, 78, 79, 80, 81, 82, 83, 84, 85, 86, 87]), ([70], [75, 76, 77, 78, 79, 80, 81, 82, 83, 84, 85]), ([71], []), ([72], [69, 75, 76, 77, 78, 79, 80, 81, 82, 83, 84, 85, 86, 87]), ([73], [69, 87]), ([74], [69]), ([75], [69, 70, 72, 76, 77, 80, 81, 82, 83, 84, 85, 86, 87]), ([76], [69, 70, 72, 75, 79, 80, 81, 82, 83, 84, 85, 86, 87]), ([77], [69, 70, 72, 75, 80, 81, 82, 83, 84, 85, 86, 87]), ([78], [69, 70, 72, 80, 81, 82, 83, 85, 86, 87]), ([79], [69, 70, 72, 76, 80, 81, 82, 83, 86, 87]), ([80], [69, 70, 72, 75, 76, 77, 78, 79, 81, 84, 85, 86, 87]), ([81], [69, 70, 72, 75, 76, 77, 78, 79, 80, 84, 85, 86, 87]), ([82], [69, 70, 72, 75, 76, 77, 78, 79, 85, 86, 87]), ([83], [69, 70, 72, 75, 76, 77, 78, 79, 86, 87]), ([84], [69, 70, 72, 75, 76, 77, 80, 81, 87]), ([85], [69, 70, 72, 75, 76, 77, 78, 80, 81, 82]), ([86], [69, 72, 75, 76, 77, 78, 79, 80, 81, 82, 83]), ([87], [69, 72, 73, 75, 76, 77, 78, 79, 80, 81, 82, 83, 84])] (by kernel_rfl) fun K hK => ?_
    | with_reducible refine SpecC.drawW (id := 21) T mixed [([96], [98, 99, 100, 101, 102, 103, 95, 105, 106]), ([97], [98, 99, 100, 101, 102, 103, 105, 106]), ([98], [96, 97, 100, 102, 103, 104, 95, 105, 106]), ([99], [96, 97, 100, 103, 104, 95, 105, 106]), ([100], [96, 97, 98, 99, 103, 104, 95, 105, 106]), ([101], [96, 97, 104, 95, 105, 106]), ([102], [96, 97, 98, 95, 105, 106]), ([103], [96, 97, 98, 99, 100, 105, 106]), ([104], [98, 99, 100, 101]), ([95], [96, 98, 99, 100, 101, 102]), ([105], [96, 97, 98, 99, 100, 101, 102, 103, 106]), ([106], [96, 97, 98, 99, 100, 101, 102, 103, 105, 10]), ([10], [106])] (by kernel_rfl) fun K hK => ?_
    | with_reducible refine SpecC.condW fun A B hA hB => ?_
    | with_reducible refine SpecC.block ?_
    | with_reducible refine SpecC.skip ?_
    | with_reducible refine SpecC.label ?_
    | with_reducible refine SpecC.exit ?_
    | with_reducible refine SpecC.goto ?_
    | with_reducible refine SpecC.ret ?_
    | ((with_reducible first | refine condK.split (fun hb => ?_) (fun hb => ?_) | refine gK.split_t (fun hb => ?_) (fun hb => ?_) | refine gK.split_f (fun hb => ?_) (fun hb => ?_)) <;> try simp only [decide_not, ilt_t, ilt_f, ile_t, ile_f, nlt_t, nlt_f, nle_t, nle_f, Bool.not_eq_true', Bool.not_eq_false', Int.ofNat_lt, Int.ofNat_le] at hb)
    | simp only [go_sem, ↓reduceIte, reduceIte, Nat.reduceEqDiff, String.reduceEq, Nat.reduceLT, Nat.reduceLeDiff, Nat.reduceAdd, Nat.reduceMul, Nat.reduceSub, Nat.reduceBEq, reduceCtorEq, *, -hmem, -hget]
    | with_reducible refine fun (bn : Bool) hbn => ?_))
      refine SpecC.loopF [1, 3, 4] (fun m ts' => ∃ (k : Nat), m = xs.length - k ∧ k ≤ xs.length ∧ ts'.tmp 9 = .int .i64 k) xs.length ?_ ?_
      · refine ⟨0, ?_⟩
        simp only [go_sem, ↓reduceIte, reduceIte, Nat.reduceEqDiff, String.reduceEq, Nat.reduceLT, Nat.reduceLeDiff, Nat.reduceAdd, Nat.reduceMul, Nat.reduceSub, Nat.reduceBEq, reduceCtorEq, *, -hmem, -hget]
      · rintro m A hM ts' hk ⟨k, hm, f1, s1⟩
        simp only [go_sem, ↓reduceIte, reduceIte, Nat.reduceEqDiff, String.reduceEq, Nat.reduceLT, Nat.reduceLeDiff, Nat.reduceAdd, Nat.reduceMul, Nat.reduceSub, Nat.reduceBEq, reduceCtorEq, *] at hk
        by_cases hltk : k < xs.length
        · obtain ⟨hsi, hsj⟩ := hs _ (List.getElem_mem hltk)
          have hgk := hget k hltk
          rw [← pget_eq] at hgk
          have hhas : ∀ j, (h : j < xs[k].l.length) → keyOf xs[k].l[j] ∈ H := fun j h => (hmem _).2 (List.mem_flatMap.2 ⟨_, List.getElem_mem hltk, List.mem_map.2 ⟨_, List.getElem_mem h, rfl⟩⟩)
          clear hget
          (repeat' (first
    | with_reducible refine callX.by awake_c ?_
    | with_reducible refine callX.by (few18_c _ _ ?_ ?_) ?_
    | with_reducible refine callX.by (pins1_c _ _ ?_) ?_
    | with_reducible refine callX.by (pSane_c _ _ ?_) ?_
    | with_reducible refine callX.by (pheld_c _ _ ?_ ?_ ?_) ?_
    | with_reducible refine callX.by awc7 ?_
    | with_reducible refine callX.by awc8 ?_
    | with_reducible refine callX.by (rkey_c _ _ _ _ _ _ _) ?_
    | with_reducible refine callX.by (kcmp_c _ _ _ _) ?_
    | with_reducible refine callX.by awc4 ?_
    | with_reducible refine callX.by awc6 ?_
    | with_reducible refine callX.by (pget_c _ _ _ ?_) ?_
    | with_reducible refine callX.by (all4_c _ _ ?_ ?_) ?_
    | with_reducible refine callX.by (has6_c _ _ _ ?_) ?_
    | with_reducible assumption
    | (with_reducible refine NxK.out hK _ ?_; clear hK K)
    | with_reducible refine NxK.out (by assumption) _ ?_
    | with_reducible refine Nx.out (by assumption) ?_
    | with_reducible refine SpecC.seqW fun K hK => ?_
    | with_reducible refine SpecC.regW T fun K hK => ?_
    | with_reducible refine SpecC.drawW (id := 15) T mixed [([51], []), ([52], []), ([53], [55, 57, 58, 59, 60, 61, 62, 63, 64, 65, 66, 67, 68]), ([54], [55, 58, 59, 60, 61, 62, 63, 64, 65, 66, 67, 68]), ([55], [53, 54, 58, 59, 60, 61, 62, 63, 64, 65, 66, 67, 68]), ([56], [59, 60, 61, 62, 63, 64, 65, 66, 67, 68]), ([57], [53, 59, 61, 62, 63, 64, 65, 66, 67, 68]), ([58], [53, 54, 55, 59, 62, 63, 64, 65, 66, 67, 68]), ([59], [53, 54, 55, 56, 57, 58, 62, 63, 64, 65, 66, 67, 68]), ([60], [53, 54, 55, 56, 63, 64, 65, 66, 67, 68]), ([61], [53, 54, 55, 56, 57, 63, 64, 65, 66, 68]), ([62], [53, 54, 55, 56, 57, 58, 59, 63, 64, 65, 66]), ([63], [53, 54, 55, 56, 57, 58, 59, 60, 61, 62, 64, 67, 68]), ([64], [53, 54, 55, 56, 57, 58, 59, 60, 61, 62, 63, 67, 68]), ([65], [53, 54, 55, 56, 57, 58, 59, 60, 61, 62, 68]), ([66], [53, 54, 55, 56, 57, 58, 59, 60, 61, 62]), ([67], [53, 54, 55, 56, 57, 58, 59, 60, 63, 64]), ([68], [53, 54, 55, 56, 57, 58, 59, 60, 61, 63, 64, 65])] (by kernel_rfl) fun K hK => ?_
    | with_reducible refine SpecC.drawW (id := 16) T mixed [([69], [72, 73, 74, 75, 76, 77, 78, 79, 80, 81, 82, 83, 84, 85, 86, 87]), ([70], [75, 76, 77, 78, 79, 80, 81, 82, 83, 84, 85]), ([71], []), ([72], [69, 75, 76, 77, 78, 79, 80, 81, 82, 83, 84, 85, 86, 87]), ([73], [69, 87]), ([74], [69]), ([75], [69, 70, 72, 76, 77, 80, 81, 82, 83, 84, 85, 86, 87]), ([76], [69, 70, 72, 75, 79, 80, 81, 82, 83, 84, 85, 86, 87]), ([77], [69, 70, 72, 75, 80, 81, 82, 83, 84, 85, 86, 87]), ([78], [69, 70, 72, 80, 81, 82, 83, 85, 86, 87]), ([79], [69, 70, 72, 76, 80, 81, 82, 83, 86, 87]), ([80], [69, 70, 72, 75, 76, 77, 78, 79, 81, 84, 85, 86, 87]), ([81], [69, 70, 72, 75, 76, 77, 78, 79, 80, 84, 85, 86, 87]), ([82], [69, 70, 72, 75, 76, 77, 78, 79, 85, 86, 87]), ([83], [69, 70, 72, 75, 76, 77, 78, 79, 86, 87]), ([84], [69, 70, 72, 75, 76, 77, 80, 81, 87]), ([85], [69, 70, 72, 75, 76, 77, 78, 80, 81, 82]), ([86], [69, 72, 75, 76, 77, 78, 79, 80, 81, 82, 83]), ([87], [69, 72, 73, 75, 76, 77, 78, 79, 80, 81, 82, 83, 84])] (by kernel_rfl) fun K hK => ?_
    | with_reducible refine SpecC.drawW (id := 21) T mixed [([96], [98, 99, 100, 101, 102, 103, 95, 105, 106]), ([97], [98, 99, 100, 101, 102, 103, 105, 106]), ([98], [96, 97, 100, 102, 103, 104, 95, 105, 106]), ([99], [96, 97, 100, 103, 104, 95, 105, 106]), ([100], [96, 97, 98, 99, 103, 104, 95, 105, 106]), ([101], [96, 97, 104, 95, 105, 106]), ([102], [96, 97, 98, 95, 105, 106]), ([103], [96, 97, 98, 99, 100, 105, 106]), ([104], [98, 99, 100, 101]), ([95], [96, 98, 99, 100, 101, 102]), ([105], [96, 97, 98, 99, 100, 101, 102, 103, 106]), ([106], [96, 97, 98, 99, 100, 101, 102, 103, 105, 10]), ([10], [106])] (by kernel_rfl) fun K hK => ?_
    | with_reducible refine SpecC.condW fun A B hA hB => ?_
    | with_reducible refine SpecC.block ?_
    | with_reducible refine SpecC.skip ?_
    | with_reducible refine SpecC.label ?_
    | with_reducible refine SpecC.exit ?_
    | with_reducible refine SpecC.goto ?_
    | with_reducible refine SpecC.ret ?_
    | ((with_reducible first | refine condK.split (fun hb => ?_) (fun hb => ?_) | refine gK.split_t (fun hb => ?_) (fun hb => ?_) | refine gK.split_f (fun hb => ?_) (fun hb => ?_)) <;> try simp only [decide_not, ilt_t, ilt_f, ile_t, ile_f, nlt_t, nlt_f, nle_t, nle_f, Bool.not_eq_true', Bool.not_eq_false', Int.ofNat_lt, Int.ofNat_le] at hb)
    | simp only [go_sem, ↓reduceIte, reduceIte, Nat.reduceEqDiff, String.reduceEq, Nat.reduceLT, Nat.reduceLeDiff, Nat.reduceAdd, Nat.reduceMul, Nat.reduceSub, Nat.reduceBEq, reduceCtorEq, *, -hmem, -hhas]
    | with_reducible refine fun (bn : Bool) hbn => ?_))
          refine SpecC.loopF [1, 3, 4, 9] (fun m ts' => ∃ (j : Nat), m = xs[k].l.length - j ∧ j ≤ xs[k].l.length ∧ ts'.tmp 12 = .int .i64 j) xs[k].l.length ?_ ?_
          · refine ⟨0, ?_⟩
            simp only [go_sem, ↓reduceIte, reduceIte, Nat.reduceEqDiff, String.reduceEq, Nat.reduceLT, Nat.reduceLeDiff, Nat.reduceAdd, Nat.reduceMul, Nat.reduceSub, Nat.reduceBEq, reduceCtorEq, *, -hmem, -hhas]
          · revert hM
            intro hM0
            rintro m A hM ts' hk ⟨j, hm, f1, s1⟩
            simp only [go_sem, ↓reduceIte, reduceIte, Nat.reduceEqDiff, String.reduceEq, Nat.reduceLT, Nat.reduceLeDiff, Nat.reduceAdd, Nat.reduceMul, Nat.reduceSub, Nat.reduceBEq, reduceCtorEq, *] at hk
            by_cases hltj : j < xs[k].l.length
            · have hj := hhas j hltj
              simp only [keyOf] at hj
              (repeat' (first
    | with_reducible refine callX.by awake_c ?_
    | with_reducible refine callX.by (few18_c _ _ ?_ ?_) ?_
    | with_reducible refine callX.by (pins1_c _ _ ?_) ?_
    | with_reducible refine callX.by (pSane_c _ _ ?_) ?_
    | with_reducible refine callX.by (pheld_c _ _ ?_ ?_ ?_) ?_
    | with_reducible refine callX.by awc7 ?_
    | with_reducible refine callX.by awc8 ?_
    | with_reducible refine callX.by (rkey_c _ _ _ _ _ _ _) ?_
    | with_reducible refine callX.by (kcmp_c _ _ _ _) ?_
    | with_reducible refine callX.by awc4 ?_
    | with_reducible refine callX.by awc6 ?_
    | with_reducible refine callX.by (pget_c _ _ _ ?_) ?_
    | with_reducible refine callX.by (all4_c _ _ ?_ ?_) ?_
    | with_reducible refine callX.by (has6_c _ _ _ ?_) ?_
    | with_reducible assumption
    | (with_reducible refine NxK.out hK _ ?_; clear hK K)
    | with_reducible refine NxK.out (by assumption) _ ?_
    | with_reducible refine Nx.out (by assumption) ?_
    | with_reducible refine SpecC.seqW fun K hK => ?_
    | with_reducible refine SpecC.regW T fun K hK => ?_
    | with_reducible refine SpecC.drawW (id := 15) T mixed [([51], []), ([52], []), ([53], [55, 57, 58, 59, 60, 61, 62, 63, 64, 65, 66, 67, 68]), ([54], [55, 58, 59, 60, 61, 62, 63, 64, 65, 66, 67, 68]), ([55], [53, 54, 58, 59, 60, 61, 62, 63, 64, 65, 66, 67, 68]), ([56], [59, 60, 61, 62, 63, 64, 65, 66, 67, 68]), ([57], [53, 59, 61, 62, 63, 64, 65, 66, 67, 68]), ([58], [53, 54, 55, 59, 62, 63, 64, 65, 66, 67, 68]), ([59], [53, 54, 55, 56, 57, 58, 62, 63, 64, 65, 66, 67, 68]), ([60], [53, 54, 55, 56, 63, 64, 65, 66, 67, 68]), ([61], [53, 54, 55, 56, 57, 63, 64, 65, 66, 68]), ([62], [53, 54, 55, 56, 57, 58, 59, 63, 64, 65, 66]), ([63], [53, 54, 55, 56, 57, 58, 59, 60, 61, 62, 64, 67, 68]), ([64], [53, 54, 55, 56, 57, 58, 59, 60, 61, 62, 63, 67, 68]), ([65], [53, 54, 55, 56, 57, 58, 59, 60, 61, 62, 68]), ([66], [53, 54, 55, 56, 57, 58, 59, 60, 61, 62]), ([67], [53, 54, 55, 56, 57, 58, 59, 60, 63, 64]), ([68], [53, 54, 55, 56, 57, 58, 59, 60, 61, 63, 64, 65])] (by kernel_rfl) fun K hK => ?_
    | with_reducible refine SpecC.drawW (id := 16) T mixed [([69], [72, 73, 74, 75, 76, 77, 78, 79, 80, 81, 82, 83, 84, 85, 86, 87]), ([70], [75, 76, 77, 78, 79, 80, 81, 82, 83, 84, 85]), ([71], []), ([72], [69, 75, 76, 77, 78, 79, 80, 81, 82, 83, 84, 85, 86, 87]), ([73], [69, 87]), ([74], [69]), ([75], [69, 70, 72, 76, 77, 80, 81, 82, 83, 84, 85, 86, 87]), ([76], [69, 70, 72, 75, 79, 80, 81, 82, 83, 84, 85, 86, 87]), ([77], [69, 70, 72, 75, 80, 81, 82, 83, 84, 85, 86, 87]), ([78], [69, 70, 72, 80, 81, 82, 83, 85, 86, 87]), ([79], [69, 70, 72, 76, 80, 81, 82, 83, 86, 87]), ([80], [69, 70, 72, 75, 76, 77, 78, 79, 81, 84, 85, 86, 87]), ([81], [69, 70, 72, 75, 76, 77, 78, 79, 80, 84, 85, 86, 87]), ([82], [69, 70, 72, 75, 76, 77, 78, 79, 85, 86, 87]), ([83], [69, 70, 72, 75, 76, 77, 78, 79, 86, 87]), ([84], [69, 70, 72, 75, 76, 77, 80, 81, 87]), ([85], [69, 70, 72, 75, 76, 77, 78, 80, 81, 82]), ([86], [69, 72, 75, 76, 77, 78, 79, 80, 81, 82, 83]), ([87], [69, 72, 73, 75, 76, 77, 78, 79, 80, 81, 82, 83, 84])] (by kernel_rfl) fun K hK => ?_
    | with_reducible refine SpecC.drawW (id := 21) T mixed [([96], [98, 99, 100, 101, 102, 103, 95, 105, 106]), ([97], [98, 99, 100, 101, 102, 103, 105, 106]), ([98], [96, 97, 100, 102, 103, 104, 95, 105, 106]), ([99], [96, 97, 100, 103, 104, 95, 105, 106]), ([100], [96, 97, 98, 99, 103, 104, 95, 105, 106]), ([101], [96, 97, 104, 95, 105, 106]), ([102], [96, 97, 98, 95, 105, 106]), ([103], [96, 97, 98, 99, 100, 105, 106]), ([104], [98, 99, 100, 101]), ([95], [96, 98, 99, 100, 101, 102]), ([105], [96, 97, 98, 99, 100, 101, 102, 103, 106]), ([106], [96, 97, 98, 99, 100, 101, 102, 103, 105, 10]), ([10], [106])] (by kernel_rfl) fun K hK => ?_
    | with_reducible refine SpecC.condW fun A B hA hB => ?_
    | with_reducible refine SpecC.block ?_
    | with_reducible refine SpecC.skip ?_
    | with_reducible refine SpecC.label ?_
    | with_reducible refine SpecC.exit ?_
    | with_reducible refine SpecC.goto ?_
    | with_reducible refine SpecC.ret ?_
    | ((with_reducible first | refine condK.split (fun hb => ?_) (fun hb => ?_) | refine gK.split_t (fun hb => ?_) (fun hb => ?_) | refine gK.split_f (fun hb => ?_) (fun hb => ?_)) <;> try simp only [decide_not, ilt_t, ilt_f, ile_t, ile_f, nlt_t, nlt_f, nle_t, nle_f, Bool.not_eq_true', Bool.not_eq_false', Int.ofNat_lt, Int.ofNat_le] at hb)
    | simp only [go_sem, ↓reduceIte, reduceIte, Nat.reduceEqDiff, String.reduceEq, Nat.reduceLT, Nat.reduceLeDiff, Nat.reduceAdd, Nat.reduceMul, Nat.reduceSub, Nat.reduceBEq, reduceCtorEq, *, -hmem, -hhas]
    | with_reducible refine fun (bn : Bool) hbn => ?_))
              all_goals ((repeat clear hK); (repeat clear hA); (repeat clear hB))
              all_goals first
                | (refine hM.on (xs[k].l.length - (j + 1)) (by omega) (by simp only [go_sem, ↓reduceIte, reduceIte, Nat.reduceEqDiff, String.reduceEq, Nat.reduceLT, Nat.reduceLeDiff, Nat.reduceAdd, Nat.reduceMul, Nat.reduceSub, Nat.reduceBEq, reduceCtorEq, *, w64_nat hltj hsi, -hmem, -hhas]) ⟨j + 1, rfl, by omega, ?_⟩; simp only [go_sem, ↓reduceIte, reduceIte, Nat.reduceEqDiff, String.reduceEq, Nat.reduceLT, Nat.reduceLeDiff, Nat.reduceAdd, Nat.reduceMul, Nat.reduceSub, Nat.reduceBEq, reduceCtorEq, *, w64_nat hltj hsi, -hmem, -hhas]; done)
                | trace_state
            · (repeat' (first
    | with_reducible refine callX.by awake_c ?_
    | with_reducible refine callX.by (few18_c _ _ ?_ ?_) ?_
    | with_reducible refine callX.by (pins1_c _ _ ?_) ?_
    | with_reducible refine callX.by (pSane_c _ _ ?_) ?_
    | with_reducible refine callX.by (pheld_c _ _ ?_ ?_ ?_) ?_
    | with_reducible refine callX.by awc7 ?_
    | with_reducible refine callX.by awc8 ?_
    | with_reducible refine callX.by (rkey_c _ _ _ _ _ _ _) ?_
    | with_reducible refine callX.by (kcmp_c _ _ _ _) ?_
    | with_reducible refine callX.by awc4 ?_
    | with_reducible refine callX.by awc6 ?_
    | with_reducible refine callX.by (pget_c _ _ _ ?_) ?_
    | with_reducible refine callX.by (all4_c _ _ ?_ ?_) ?_
    | with_reducible refine callX.by (has6_c _ _ _ ?_) ?_
    | with_reducible assumption
    | (with_reducible refine NxK.out hK _ ?_; clear hK K)
    | with_reducible refine NxK.out (by assumption) _ ?_
    | with_reducible refine Nx.out (by assumption) ?_
    | with_reducible refine SpecC.seqW fun K hK => ?_
    | with_reducible refine SpecC.regW T fun K hK => ?_
    | with_reducible refine SpecC.drawW (id := 15) T mixed [([51], []), ([52], []), ([53], [55, 57, 58, 59, 60, 61, 62, 63, 64, 65, 66, 67, 68]), ([54], [55, 58, 59, 60, 61, 62, 63, 64, 65, 66, 67, 68]), ([55], [53, 54, 58, 59, 60, 61, 62, 63, 64, 65, 66, 67, 68]), ([56], [59, 60, 61, 62, 63, 64, 65, 66, 67, 68]), ([57], [53, 59, 61, 62, 63, 64, 65, 66, 67, 68]), ([58], [53, 54, 55, 59, 62, 63, 64, 65, 66, 67, 68]), ([59], [53, 54, 55, 56, 57, 58, 62, 63, 64, 65, 66, 67, 68]), ([60], [53, 54, 55, 56, 63, 64, 65, 66, 67, 68]), ([61], [53, 54, 55, 56, 57, 63, 64, 65, 66, 68]), ([62], [53, 54, 55, 56, 57, 58, 59, 63, 64, 65, 66]), ([63], [53, 54, 55, 56, 57, 58, 59, 60, 61, 62, 64, 67, 68]), ([64], [53, 54, 55, 56, 57, 58, 59, 60, 61, 62, 63, 67, 68]), ([65], [53, 54, 55, 56, 57, 58, 59, 60, 61, 62, 68]), ([66], [53, 54, 55, 56, 57, 58, 59, 60, 61, 62]), ([67], [53, 54, 55, 56, 57, 58, 59, 60, 63, 64]), ([68], [53, 54, 55, 56, 57, 58, 59, 60, 61, 63, 64, 65])] (by kernel_rfl) fun K hK => ?_
    | with_reducible refine SpecC.drawW (id := 16) T mixed [([69], [72, 73, 74, 75, 76, 77, 78, 79, 80, 81, 82, 83, 84, 85, 86, 87]), ([70], [75, 76, 77, 78, 79, 80, 81, 82, 83, 84, 85]), ([71], []), ([72], [69, 75, 76, 77, 78, 79, 80, 81, 82, 83, 84, 85, 86, 87]), ([73], [69, 87]), ([74], [69]), ([75], [69, 70, 72, 76, 77, 80, 81, 82, 83, 84, 85, 86, 87]), ([76], [69, 70, 72, 75, 79, 80, 81, 82, 83, 84, 85, 86, 87]), ([77], [69, 70, 72, 75, 80, 81, 82, 83, 84, 85, 86, 87]), ([78], [69, 70, 72, 80, 81, 82, 83, 85, 86, 87]), ([79], [69, 70, 72, 76, 80, 81, 82, 83, 86, 87]), ([80], [69, 70, 72, 75, 76, 77, 78, 79, 81, 84, 85, 86, 87]), ([81], [69, 70, 72, 75, 76, 77, 78, 79, 80, 84, 85, 86, 87]), ([82], [69, 70, 72, 75, 76, 77, 78, 79, 85, 86, 87]), ([83], [69, 70, 72, 75, 76, 77, 78, 79, 86, 87]), ([84], [69, 70, 72, 75, 76, 77, 80, 81, 87]), ([85], [69, 70, 72, 75, 76, 77, 78, 80, 81, 82]), ([86], [69, 72, 75, 76, 77, 78, 79, 80, 81, 82, 83]), ([87], [69, 72, 73, 75, 76, 77, 78, 79, 80, 81, 82, 83, 84])] (by kernel_rfl) fun K hK => ?_
    | with_reducible refine SpecC.drawW (id := 21) T mixed [([96], [98, 99, 100, 101, 102, 103, 95, 105, 106]), ([97], [98, 99, 100, 101, 102, 103, 105, 106]), ([98], [96, 97, 100, 102, 103, 104, 95, 105, 106]), ([99], [96, 97, 100, 103, 104, 95, 105, 106]), ([100], [96, 97, 98, 99, 103, 104, 95, 105, 106]), ([101], [96, 97, 104, 95, 105, 106]), ([102], [96, 97, 98, 95, 105, 106]), ([103], [96, 97, 98, 99, 100, 105, 106]), ([104], [98, 99, 100, 101]), ([95], [96, 98, 99, 100, 101, 102]), ([105], [96, 97, 98, 99, 100, 101, 102, 103, 106]), ([106], [96, 97, 98, 99, 100, 101, 102, 103, 105, 10]), ([10], [106])] (by kernel_rfl) fun K hK => ?_
    | with_reducible refine SpecC.condW fun A B hA hB => ?_
    | with_reducible refine SpecC.block ?_
    | with_reducible refine SpecC.skip ?_
    | with_reducible refine SpecC.label ?_
    | with_reducible refine SpecC.exit ?_
    | with_reducible refine SpecC.goto ?_
    | with_reducible refine SpecC.ret ?_
    | ((with_reducible first | refine condK.split (fun hb => ?_) (fun hb => ?_) | refine gK.split_t (fun hb => ?_) (fun hb => ?_) | refine gK.split_f (fun hb => ?_) (fun hb => ?_)) <;> try simp only [decide_not, ilt_t, ilt_f, ile_t, ile_f, nlt_t, nlt_f, nle_t, nle_f, Bool.not_eq_true', Bool.not_eq_false', Int.ofNat_lt, Int.ofNat_le] at hb)
    | simp only [go_sem, ↓reduceIte, reduceIte, Nat.reduceEqDiff, String.reduceEq, Nat.reduceLT, Nat.reduceLeDiff, Nat.reduceAdd, Nat.reduceMul, Nat.reduceSub, Nat.reduceBEq, reduceCtorEq, *, -hmem, -hhas]
    | with_reducible refine fun (bn : Bool) hbn => ?_))
              all_goals ((repeat clear hK); (repeat clear hA); (repeat clear hB))
              all_goals (clear hM; revert hM0; intro hM)
              (refine hM.on (xs.length - (k + 1)) (by omega) (by simp only [go_sem, ↓reduceIte, reduceIte, Nat.reduceEqDiff, String.reduceEq, Nat.reduceLT, Nat.reduceLeDiff, Nat.reduceAdd, Nat.reduceMul, Nat.reduceSub, Nat.reduceBEq, reduceCtorEq, *, w64_nat hltk hl, -hmem, -hhas]) ⟨k + 1, rfl, by omega, ?_⟩; simp only [go_sem, ↓reduceIte, reduceIte, Nat.reduceEqDiff, String.reduceEq, Nat.reduceLT, Nat.reduceLeDiff, Nat.reduceAdd, Nat.reduceMul, Nat.reduceSub, Nat.reduceBEq, reduceCtorEq, *, w64_nat hltk hl, -hmem, -hhas]; done)
        · (repeat' (first
    | with_reducible refine callX.by awake_c ?_
    | with_reducible refine callX.by (few18_c _ _ ?_ ?_) ?_
    | with_reducible refine callX.by (pins1_c _ _ ?_) ?_
    | with_reducible refine callX.by (pSane_c _ _ ?_) ?_
    | with_reducible refine callX.by (pheld_c _ _ ?_ ?_ ?_) ?_
    | with_reducible refine callX.by awc7 ?_
    | with_reducible refine callX.by awc8 ?_
    | with_reducible refine callX.by (rkey_c _ _ _ _ _ _ _) ?_
    | with_reducible refine callX.by (kcmp_c _ _ _ _) ?_
    | with_reducible refine callX.by awc4 ?_
    | with_reducible refine callX.by awc6 ?_
    | with_reducible refine callX.by (pget_c _ _ _ ?_) ?_
    | with_reducible refine callX.by (all4_c _ _ ?_ ?_) ?_
    | with_reducible refine callX.by (has6_c _ _ _ ?_) ?_
    | with_reducible assumption
    | (with_reducible refine NxK.out hK _ ?_; clear hK K)
    | with_reducible refine NxK.out (by assumption) _ ?_
    | with_reducible refine Nx.out (by assumption) ?_
    | with_reducible refine SpecC.seqW fun K hK => ?_
    | with_reducible refine SpecC.regW T fun K hK => ?_
    | with_reducible refine SpecC.drawW (id := 15) T mixed [([51], []), ([52], []), ([53], [55, 57, 58, 59, 60, 61, 62, 63, 64, 65, 66, 67, 68]), ([54], [55, 58, 59, 60, 61, 62, 63, 64, 65, 66, 67, 68]), ([55], [53, 54, 58, 59, 60, 61, 62, 63, 64, 65, 66, 67, 68]), ([56], [59, 60, 61, 62, 63, 64, 65, 66, 67, 68]), ([57], [53, 59, 61, 62, 63, 64, 65, 66, 67, 68]), ([58], [53, 54, 55, 59, 62, 63, 64, 65, 66, 67, 68]), ([59], [53, 54, 55, 56, 57, 58, 62, 63, 64, 65, 66, 67, 68]), ([60], [53, 54, 55, 56, 63, 64, 65, 66, 67, 68]), ([61], [53, 54, 55, 56, 57, 63, 64, 65, 66, 68]), ([62], [53, 54, 55, 56, 57, 58, 59, 63, 64, 65, 66]), ([63], [53, 54, 55, 56, 57, 58, 59, 60, 61, 62, 64, 67, 68]), ([64], [53, 54, 55, 56, 57, 58, 59, 60, 61, 62, 63, 67, 68]), ([65], [53, 54, 55, 56, 57, 58, 59, 60, 61, 62, 68]), ([66], [53, 54, 55, 56, 57, 58, 59, 60, 61, 62]), ([67], [53, 54, 55, 56, 57, 58, 59, 60, 63, 64]), ([68], [53, 54, 55, 56, 57, 58, 59, 60, 61, 63, 64, 65])] (by kernel_rfl) fun K hK => ?_
    | with_reducible refine SpecC.drawW (id := 16) T mixed [([69], [72, 73, 74, 75, 76, 77, 78, 79, 80, 81, 82, 83, 84, 85, 86, 87]), ([70], [75, 76, 77, 78, 79, 80, 81, 82, 83, 84, 85]), ([71], []), ([72], [69, 75, 76, 77, 78, 79, 80, 81, 82, 83, 84, 85, 86, 87]), ([73], [69, 87]), ([74], [69]), ([75], [69, 70, 72, 76, 77, 80, 81, 82, 83, 84, 85, 86, 87]), ([76], [69, 70, 72, 75, 79, 80, 81, 82, 83, 84, 85, 86, 87]), ([77], [69, 70, 72, 75, 80, 81, 82, 83, 84, 85, 86, 87]), ([78], [69, 70, 72, 80, 81, 82, 83, 85, 86, 87]), ([79], [69, 70, 72, 76, 80, 81, 82, 83, 86, 87]), ([80], [69, 70, 72, 75, 76, 77, 78, 79, 81, 84, 85, 86, 87]), ([81], [69, 70, 72, 75, 76, 77, 78, 79, 80, 84, 85, 86, 87]), ([82], [69, 70, 72, 75, 76, 77, 78, 79, 85, 86, 87]), ([83], [69, 70, 72, 75, 76, 77, 78, 79, 86, 87]), ([84], [69, 70, 72, 75, 76, 77, 80, 81, 87]), ([85], [69, 70, 72, 75, 76, 77, 78, 80, 81, 82]), ([86], [69, 72, 75, 76, 77, 78, 79, 80, 81, 82, 83]), ([87], [69, 72, 73, 75, 76, 77, 78, 79, 80, 81, 82, 83, 84])] (by kernel_rfl) fun K hK => ?_
    | with_reducible refine SpecC.drawW (id := 21) T mixed [([96], [98, 99, 100, 101, 102, 103, 95, 105, 106]), ([97], [98, 99, 100, 101, 102, 103, 105, 106]), ([98], [96, 97, 100, 102, 103, 104, 95, 105, 106]), ([99], [96, 97, 100, 103, 104, 95, 105, 106]), ([100], [96, 97, 98, 99, 103, 104, 95, 105, 106]), ([101], [96, 97, 104, 95, 105, 106]), ([102], [96, 97, 98, 95, 105, 106]), ([103], [96, 97, 98, 99, 100, 105, 106]), ([104], [98, 99, 100, 101]), ([95], [96, 98, 99, 100, 101, 102]), ([105], [96, 97, 98, 99, 100, 101, 102, 103, 106]), ([106], [96, 97, 98, 99, 100, 101, 102, 103, 105, 10]), ([10], [106])] (by kernel_rfl) fun K hK => ?_
    | with_reducible refine SpecC.condW fun A B hA hB => ?_
    | with_reducible refine SpecC.block ?_
    | with_reducible refine SpecC.skip ?_
    | with_reducible refine SpecC.label ?_
    | with_reducible refine SpecC.exit ?_
    | with_reducible refine SpecC.goto ?_
    | with_reducible refine SpecC.ret ?_
    | ((with_reducible first | refine condK.split (fun hb => ?_) (fun hb => ?_) | refine gK.split_t (fun hb => ?_) (fun hb => ?_) | refine gK.split_f (fun hb => ?_) (fun hb => ?_)) <;> try simp only [decide_not, ilt_t, ilt_f, ile_t, ile_f, nlt_t, nlt_f, nle_t, nle_f, Bool.not_eq_true', Bool.not_eq_false', Int.ofNat_lt, Int.ofNat_le] at hb)
    | simp only [go_sem, ↓reduceIte, reduceIte, Nat.reduceEqDiff, String.reduceEq, Nat.reduceLT, Nat.reduceLeDiff, Nat.reduceAdd, Nat.reduceMul, Nat.reduceSub, Nat.reduceBEq, reduceCtorEq, *, -hmem, -hget]
    | with_reducible refine fun (bn : Bool) hbn => ?_))
          all_goals trace_state
end Go.Proofs.Ytjmnokbbodcaaaa.Lg
