/- slices.SortFunc at Key by res.Cmp (the shelf's contract). -/
import Derived.Test.YtjmnokbbodcaaaaPK
import Derived.Test.YtjmnokbbodcaaaaLg26
import Derived.Test.YtjmnokbbodcaaaaSort
namespace Go.Proofs.Ytjmnokbbodcaaaa.Lg
set_option linter.unusedVariables false
set_option linter.unusedSimpArgs false
open Go

theorem kswo : Go.Sort.SWO (ltOf kcmp) where
  irrefl x := by simp only [ltOf, decide_eq_false_iff_not]; exact kcmp_irrefl x
  trans x y z h k := by
    simp only [ltOf, decide_eq_true_eq] at h k ⊢
    exact kcmp_trans x y z h k
  ntrans x y z h k := by
    simp only [ltOf, decide_eq_false_iff_not] at h k ⊢
    intro h3
    by_cases h4 : kcmp y z = 0
    · have := kcmp_zero _ _ h4; subst this; exact h h3
    · have h5 : kcmp z y < 0 := by have := kcmp_swap y z; omega
      exact h (kcmp_trans _ _ _ h3 h5)
theorem ktot (x y : Key) (h : ltOf kcmp x y = false) (k : ltOf kcmp y x = false) : x = y := by
  simp only [ltOf, decide_eq_false_iff_not] at h k
  have := kcmp_swap x y
  exact kcmp_zero _ _ (by omega)

def kenc (k : Key) : List Value := [.int .i64 k.kind, .string ⟨k.name.toArray⟩]

theorem kenc_rep {c : Ctx} {v : Value} {k : Key} {j : Nat} (hj : j < 2) (h : Rep c v ((Dat.av k).cells.getD j .any)) : v = (kenc k)[j]! := by
  match j, hj with
  | 0, _ =>
    change Rep c v (.int .i64 k.kind) at h
    cases h; rfl
  | 1, _ =>
    change Rep c v (.str k.name) at h
    cases h with
    | str s _ h =>
      obtain ⟨a⟩ := s
      have e : a = k.name.toArray := by rw [← h]
      subst e; rfl
theorem rep_kenc (c : Ctx) (k : Key) {j : Nat} (hj : j < 2) : Rep c ((kenc k)[j]!) ((Dat.av k).cells.getD j .any) := by
  match j, hj with
  | 0, _ => exact .int _ _
  | 1, _ => exact .str _ _ rfl

theorem kcmp_top (x y : Key) (W : World) : Calls Try.prog 14 #[.agg (kenc x).toArray, .agg (kenc y).toArray] W fun e w' => e = .returned (.int .i64 (kcmp x y)) ∧ ∃ q os', w' = Go.Sort.grow (W.drewN q) os' := by
  have eg : ∀ args w, (callFunc 14 args).run Try.prog w = .ok (.enter 14 args) w := enters_of Try.func14 (by kernel_rfl) rfl
  have hx : ∀ (z : Key) (j : Nat), Rep (ctx0 W) ((kenc z).toArray.getD j undef) (([.int .i64 z.kind, .str z.name] : List AV).getD j .any) := fun z j => by
    match j with
    | 0 => exact .int _ _
    | 1 => exact .str _ _ rfl
    | j + 2 => exact .any _
  have h := (kcmp_c x.kind y.kind x.name y.name).top #[.agg (kenc x).toArray, .agg (kenc y).toArray] W rfl fun i => by
    match i with
    | 0 => exact .agg _ _ rfl (hx x)
    | 1 => exact .agg _ _ rfl (hx y)
    | i + 2 => exact .any _
  rw [eg] at h
  refine Calls.mono h ?_
  rintro e w' ⟨v, rfl, hv, hg⟩
  cases hv
  exact ⟨rfl, hg.grown⟩

open Go.Sort in
theorem sortKey_c (xs : List Key) (hl : Small xs.length) : CallA Try.prog 37 14 2 (avs xs) (avs (ksort xs)) := by
  intro E ts G a w d v0 hrel hob hos
  have L := Try.sortKey
  have e6 : ∀ args w, (callFunc 37 args).run Try.prog w = .ok (.enter 37 args) w := enters_of Try.func37 (by kernel_rfl) rfl
  have eg : ∀ args w, (callFunc 14 args).run Try.prog w = .ok (.enter 14 args) w := enters_of Try.func14 (by kernel_rfl) rfl
  rw [e6]
  show Calls _ _ _ _ _
  have hobk := hrel.obj d
  rw [hob] at hobk
  obtain ⟨_, hcl, hobk⟩ := hobk
  unfold OsIs at hos
  have hcl' : ∀ x ∈ avs (ksort xs), x.cells.length = 2 := fun x hx => by
    simp only [avs, List.mem_map] at hx
    obtain ⟨k, _, rfl⟩ := hx
    rfl
  cases hκ : G.κ d with
  | none =>
    have hκ' : (ctxOf E G ts w).κ d = none := hκ
    rw [hκ'] at hos hobk
    obtain ⟨hlen, ad, rfl⟩ := hos
    have hx : xs = [] := List.eq_nil_of_length_eq_zero (by simpa [avs] using hlen)
    subst hx
    have h := AnyF.slices_SortFunc_none L ad 0 (.func (.func 14) #[] #[]) w
    change Calls _ 37 _ _ _ at h
    refine h.mono ?_
    rintro e w' ⟨rfl, rfl⟩
    refine ⟨rfl, ⟨rfl, rfl, rfl, Nat.le_refl _, Nat.le_refl _, fun _ _ _ => rfl⟩, by decide, hcl', ?_⟩
    have hκ2 : (ctxOf E G (ts.setObj d (.arr 2 (avs (ksort [])))) w').κ d = none := hκ
    rw [hκ2]
    show avs (ksort []) = []
    simp [ksort, avs]
  | some cap =>
    have hκ' : (ctxOf E G ts w).κ d = some cap := hκ
    rw [hκ'] at hos hobk
    obtain ⟨rfl, hle⟩ := hos
    obtain ⟨vs, T, hh, hsz, hlc, hcells⟩ := hobk
    have hlen : (avs xs).length = xs.length := by simp [avs]
    rw [hlen] at hlc hle hcells ⊢
    have hval : ∀ t, t < xs.length * 2 → vs[t]? = some ((flatK kenc 2 xs.toArray)[t]!) := fun t ht => by
      have h2 : t < vs.size := by omega
      rw [get_flatK _ _ _ _ (by simpa using ht)]
      have hq : t / 2 < xs.length := by omega
      have h := hcells (t / 2) (t % 2) hq (by omega)
      have e : t / 2 * 2 + t % 2 = t := by omega
      rw [e] at h
      have e2 : (avs xs).getD (t / 2) .any = Dat.av xs[t / 2] := by simp [avs, hq]
      rw [e2] at h
      have := kenc_rep (by omega) h
      rw [Array.getElem?_eq_getElem h2]
      have e3 : vs.getD t undef = vs[t] := by simp [Array.getD, h2]
      rw [e3] at this
      rw [this]
      congr 2
      simp [hq]
    have hblk : G.β d < w.heap.size := by
      have : w.heap[G.β d]? = _ := hh
      by_cases hb : G.β d < w.heap.size
      · exact hb
      · rw [Array.getElem?_eq_none (by omega)] at this; cases this
    have hH : HoldsK kenc 2 w (G.β d) 0 xs.toArray := fun j hj => by
      rw [size_flatK] at hj
      have hj' : j < xs.length * 2 := by simpa using hj
      have hh' : w.heap[G.β d]? = some (.cells vs T (0, 0)) := hh
      constructor
      · simp only [World.cell?, hh', Nat.zero_add]
        exact hval j hj'
      · simp only [World.frozen?, hh']
        simp
    have hcmp : CmpLays Try.prog 14 #[] kenc 2 kcmp (G.β d) 0 xs.toArray.size w := fun m os dk hdk x y => by
      have h := kcmp_top x y (sortWorldK kenc 2 w (G.β d) 0 m dk os)
      simpa using h
    have h := AnyQ.slices_SortFunc_total L 2 Try.isAgg38 Try.sizeOf38 kenc (fun _ => rfl) (fun x v hv => by
      simp only [kenc, List.mem_cons, List.not_mem_nil, or_false] at hv
      rcases hv with rfl | rfl <;> rfl) kcmp kswo 14 #[] (G.β d) 0 cap xs.toArray w eg hcmp hH hblk (by unfold Small at hl; simp; omega) ktot
    change Calls _ 37 _ _ _ at h
    have hsa : xs.toArray.size = xs.length := by simp
    rw [hsa] at h
    refine h.mono ?_
    rintro e w' ⟨rfl, n, os, rfl⟩
    have hks : (xs.toArray.toList.mergeSort fun x y => !(ltOf kcmp) y x) = ksort xs := rfl
    rw [hks]
    have hh' : w.heap[G.β d]? = some (.cells vs T (0, 0)) := hh
    have hnew : (sortWorldK kenc 2 w (G.β d) 0 n (ksort xs).toArray os).heap[G.β d]? = some (.cells (putCells id 0 (flatK kenc 2 (ksort xs).toArray) vs) T (0, 0)) := by
      simp only [sortWorldK, grow, putRowK, putRow, mapBlock, Go.Sort.ahead]
      rw [Array.getElem?_append_left (by simpa using hblk), Array.getElem?_modify, if_pos rfl, hh']
      rfl
    refine ⟨rfl, ⟨rfl, rfl, rfl, ?_, ?_, fun i hi hne => ?_⟩, by decide, hcl', ?_⟩
    · simp only [sortWorldK, grow, putRowK, putRow, mapBlock, Go.Sort.ahead]; simp
    · simp only [sortWorldK, grow, putRowK, putRow, mapBlock, Go.Sort.ahead]; omega
    · have hlive : liveR ts G d := ⟨by simp [hob, Ob.kind], by rw [hκ]; simp⟩
      have hne := hne hlive
      simp only [sortWorldK, grow, putRowK, putRow, mapBlock, Go.Sort.ahead]
      rw [Array.getElem?_append_left (by simpa using hi), Array.getElem?_modify, if_neg (fun h => hne h.symm)]
    · have hκ2 : (ctxOf E G (ts.setObj d (.arr 2 (avs (ksort xs)))) (sortWorldK kenc 2 w (G.β d) 0 n (ksort xs).toArray os)).κ d = some cap := hκ
      rw [hκ2]
      have hlen2 : (avs (ksort xs)).length = xs.length := by simp [avs, ksort_length]
      refine ⟨_, T, hnew, by simp [putCells, hsz], by rw [hlen2]; exact hlc, fun i j hi hj => ?_⟩
      rw [hlen2] at hi
      have hi2 : i < (ksort xs).length := by rw [ksort_length]; exact hi
      have ht : i * 2 + j < vs.size := by omega
      have e2 : (avs (ksort xs)).getD i .any = Dat.av (ksort xs)[i] := by simp [avs, hi2]
      rw [e2]
      have e3 : (putCells id 0 (flatK kenc 2 (ksort xs).toArray) vs).getD (i * 2 + j) undef = (kenc (ksort xs)[i])[j]! := by
        have hf : i * 2 + j < (ksort xs).toArray.size * 2 := by simp [ksort_length]; omega
        simp only [putCells, Array.getD, Array.size_mapIdx, ht, dite_true, Array.getInternal_eq_getElem, Array.getElem_mapIdx]
        rw [if_pos ⟨Nat.zero_le _, by rw [size_flatK]; omega⟩]
        simp only [Nat.sub_zero, id]
        rw [get_flatK _ _ _ _ hf]
        have e4 : (i * 2 + j) / 2 = i := by omega
        have e5 : (i * 2 + j) % 2 = j := by omega
        rw [e4, e5]
        congr 2
        simp [hi2]
      rw [e3]
      exact rep_kenc _ _ hj
end Go.Proofs.Ytjmnokbbodcaaaa.Lg
