/- Typed data: Lean types for the program's structs, and how a list of them reads as a slice. -/
import Derived.Test.YtjmnokbbodcaaaaLg19
import Derived.IntWalk
import Derived.ScopeJumps
namespace Go.Proofs.Ytjmnokbbodcaaaa.Lg
set_option linter.unusedVariables false
set_option linter.unusedSimpArgs false
open Go

class Dat (α : Type) where
  av : α → AV
  sz : Nat
  len : ∀ x, (av x).cells.length = sz
  pure : ∀ x, (av x).pure = true
  nrm : ∀ x, (av x).nrm = av x
  one : ∀ x, (av x).cells.all AV.one = true
  known : ∀ x, (av x).known = true

def avs {α : Type} [Dat α] (l : List α) : List AV := l.map Dat.av

section
variable {α : Type} [Dat α] (l r : List α)
theorem pureL_map : AV.pure.pureL (avs l) = true := by
  induction l with
  | nil => rfl
  | cons x r ih => simp only [avs, List.map_cons, AV.pure.pureL, Dat.pure, Bool.true_and]; exact ih
theorem nrmL_map : AV.nrm.nrmL (avs l) = avs l := by
  induction l with
  | nil => rfl
  | cons x r ih => simp only [avs, List.map_cons, AV.nrm.nrmL, Dat.nrm]; exact congrArg _ ih
@[go_sem] theorem pureL_avs : AV.pure.pureL (avs l) = true := pureL_map l
@[go_sem] theorem nrmL_avs : AV.nrm.nrmL (avs l) = avs l := nrmL_map l
@[go_sem] theorem len_avs : (avs l).length = l.length := by simp [avs]
theorem avs_nil : avs ([] : List α) = [] := rfl
theorem avs_append : avs (l ++ r) = avs l ++ avs r := by simp [avs]
theorem avs_cons (x : α) : avs (x :: r) = Dat.av x :: avs r := rfl
@[go_sem] theorem avs_take (n : Nat) : (avs l).take n = avs (l.take n) := by simp [avs]
@[go_sem] theorem avs_drop (n : Nat) : (avs l).drop n = avs (l.drop n) := by simp [avs]
theorem avs_set (n : Nat) (x : α) : (avs l).set n (Dat.av x) = avs (l.set n x) := by simp [avs]
@[go_sem] theorem avs_get (n : Nat) (h : n < l.length) : (avs l).getD n .any = Dat.av l[n] := by simp [avs, h]
theorem avs_get? (n : Nat) (x : α) (h : l[n]? = some x) : (avs l).getD n .any = Dat.av x := by simp [avs, h]
@[go_sem] theorem cellsLen_avs (n : Nat) (h : Dat.sz α = n) : (∀ y ∈ avs l, y.cells.length = n) ↔ True := by
  simp only [iff_true]
  intro y hy
  obtain ⟨x, _, rfl⟩ := List.mem_map.1 hy
  rw [Dat.len, h]
@[go_sem] theorem ones_avs : (∀ y ∈ avs l, y.cells.all AV.one = true) ↔ True := by
  simp only [iff_true]
  intro y hy
  obtain ⟨x, _, rfl⟩ := List.mem_map.1 hy
  exact Dat.one x
end

instance : Dat Int where
  av n := .int .i64 n
  sz := 1
  len _ := rfl
  pure _ := rfl
  nrm _ := rfl
  one _ := rfl
  known _ := rfl
instance : Dat UInt8 where
  av n := .int .u8 n.toNat
  sz := 1
  len _ := rfl
  pure _ := rfl
  nrm _ := rfl
  one _ := rfl
  known _ := rfl
instance : Dat Bool where
  av n := .bool n
  sz := 1
  len _ := rfl
  pure _ := rfl
  nrm _ := rfl
  one _ := rfl
  known _ := rfl
instance : Dat (List UInt8) where
  av n := .str n
  sz := 1
  len _ := rfl
  pure _ := rfl
  nrm _ := rfl
  one _ := rfl
  known _ := rfl
@[go_sem] theorem av_int (n : Int) : Dat.av n = .int .i64 n := rfl
@[go_sem] theorem av_bool (b : Bool) : Dat.av b = .bool b := rfl
@[go_sem] theorem av_u8 (b : UInt8) : Dat.av b = .int .u8 b.toNat := rfl
@[go_sem] theorem av_str (b : List UInt8) : Dat.av b = .str b := rfl
@[go_sem] theorem set_Int (l : List Int) (n : Nat) (a : Int) : (avs l).set n (.int .i64 a) = avs (l.set n a) := avs_set l n a
@[go_sem] theorem set_Bool (l : List Bool) (n : Nat) (a : Bool) : (avs l).set n (.bool a) = avs (l.set n a) := avs_set l n a
@[go_sem] theorem set_Str (l : List (List UInt8)) (n : Nat) (a : List UInt8) : (avs l).set n (.str a) = avs (l.set n a) := avs_set l n a
@[go_sem] theorem set_U8 (l : List UInt8) (n : Nat) (a : UInt8) : (avs l).set n (.int .u8 a.toNat) = avs (l.set n a) := avs_set l n a
@[go_sem] theorem snoc_Int (l : List Int) (a : Int) : avs l ++ [.int .i64 a] = avs (l ++ [a]) := by rw [avs_append]; rfl
@[go_sem] theorem snoc_Bool (l : List Bool) (a : Bool) : avs l ++ [.bool a] = avs (l ++ [a]) := by rw [avs_append]; rfl
@[go_sem] theorem snoc_Str (l : List (List UInt8)) (a : List UInt8) : avs l ++ [.str a] = avs (l ++ [a]) := by rw [avs_append]; rfl
@[go_sem] theorem snoc_U8 (l : List UInt8) (a : UInt8) : avs l ++ [.int .u8 a.toNat] = avs (l ++ [a]) := by rw [avs_append]; rfl
@[go_sem] theorem avs_app {α : Type} [Dat α] (l r : List α) : avs l ++ avs r = avs (l ++ r) := (avs_append l r).symm
@[go_sem] theorem flatL_Int : ∀ l : List Int, AV.flat.flatL (avs l) = true
  | [] => rfl
  | _ :: r => by simp only [avs_cons, AV.flat.flatL, flatL_Int r, av_int, AV.flat, Bool.and_self]
@[go_sem] theorem flatL_Str : ∀ l : List (List UInt8), AV.flat.flatL (avs l) = true
  | [] => rfl
  | _ :: r => by simp only [avs_cons, AV.flat.flatL, flatL_Str r, av_str, AV.flat, Bool.and_self]
@[go_sem] theorem sz_int : Dat.sz Int = 1 := rfl
@[go_sem] theorem sz_u8 : Dat.sz UInt8 = 1 := rfl
@[go_sem] theorem sz_bool : Dat.sz Bool = 1 := rfl
@[go_sem] theorem sz_str : Dat.sz (List UInt8) = 1 := rfl
@[go_sem] theorem cast0 : ((0 : Nat) : Int) = 0 := rfl
@[go_sem] theorem natneg (k : Nat) : ((k : Int) < 0) = False := by simp only [eq_iff_iff, iff_false]; omega
@[go_sem] theorem getD_set (l : List AV) (i : Nat) (x : AV) (h : i < l.length) : (l.set i x).getD i .any = x := by simp [h]
@[go_sem] theorem getD_set_ne (l : List AV) (i j : Nat) (x : AV) (h : ¬ i = j) : (l.set i x).getD j .any = l.getD j .any := by simp [List.getElem?_set_ne h]
@[go_sem] theorem length_set' (l : List AV) (i : Nat) (x : AV) : (l.set i x).length = l.length := by simp
@[go_sem] theorem toNat_pred (n : Nat) : ((n : Int) - 1).toNat = n - 1 := by omega
@[go_sem] theorem pred_neg (n : Nat) : ((n : Int) - 1 < 0) = ¬ 0 < n := by apply propext; omega
@[go_sem] theorem pred_nonneg (n : Nat) : (0 ≤ (n : Int) - 1) = (0 < n) := by apply propext; omega
@[go_sem] theorem pred_ltI (n : Nat) : ((n : Int) - 1 < n) = True := by simp only [eq_iff_iff, iff_true]; omega
@[go_sem] theorem pred_ltN (n : Nat) (h : 0 < n) : (n - 1 < n) = True := by simp only [eq_iff_iff, iff_true]; omega
@[go_sem] theorem pred_ltI2 (k n : Nat) (h : k ≤ n) : ((k : Int) - 1 < n) = True := by simp only [eq_iff_iff, iff_true]; omega
@[go_sem] theorem pred_ltN2 (k n : Nat) (h : k ≤ n) (h0 : 0 < k) : (k - 1 < n) = True := by simp only [eq_iff_iff, iff_true]; omega
theorem w64_pred2 {k n : Nat} (h : k ≤ n) (h0 : 0 < k) (hn : Small n) : IntKind.i64.wrap ((k : Int) - 1 - 1) = ((k - 1 : Nat) : Int) - 1 := by
  unfold Small at hn
  rw [IntWalk.i64_in _ (by omega)]
  omega
theorem lit_lt (k n : Nat) : ((@OfNat.ofNat Int k instOfNat) < (n : Int)) = ((@OfNat.ofNat Nat k (instOfNatNat k)) < n) := propext (show ((k : Nat) : Int) < n ↔ k < n from Int.ofNat_lt)
theorem lit_le (k n : Nat) : ((@OfNat.ofNat Int k instOfNat) ≤ (n : Int)) = ((@OfNat.ofNat Nat k (instOfNatNat k)) ≤ n) := propext (show ((k : Nat) : Int) ≤ n ↔ k ≤ n from Int.ofNat_le)
theorem lt_lit (k n : Nat) : ((n : Int) < (@OfNat.ofNat Int k instOfNat)) = (n < (@OfNat.ofNat Nat k (instOfNatNat k))) := propext (show (n : Int) < ((k : Nat) : Int) ↔ n < k from Int.ofNat_lt)
theorem le_lit (k n : Nat) : ((n : Int) ≤ (@OfNat.ofNat Int k instOfNat)) = (n ≤ (@OfNat.ofNat Nat k (instOfNatNat k))) := propext (show (n : Int) ≤ ((k : Nat) : Int) ↔ n ≤ k from Int.ofNat_le)
theorem eq_lit (k n : Nat) : ((n : Int) = (@OfNat.ofNat Int k instOfNat)) = (n = (@OfNat.ofNat Nat k (instOfNatNat k))) := propext (show (n : Int) = ((k : Nat) : Int) ↔ n = k from Int.ofNat_inj)
@[go_sem] theorem lit1a (n : Nat) : ((1 : Int) < n) = (1 < n) := lit_lt 1 n
@[go_sem] theorem lit1b (n : Nat) : ((1 : Int) ≤ n) = (1 ≤ n) := lit_le 1 n
@[go_sem] theorem lit1c (n : Nat) : ((n : Int) < 1) = (n < 1) := lt_lit 1 n
@[go_sem] theorem lit1d (n : Nat) : ((n : Int) ≤ 1) = (n ≤ 1) := le_lit 1 n
@[go_sem] theorem lit1e (n : Nat) : ((n : Int) = 1) = (n = 1) := eq_lit 1 n
@[go_sem] theorem lit2a (n : Nat) : ((2 : Int) < n) = (2 < n) := lit_lt 2 n
@[go_sem] theorem lit2b (n : Nat) : ((2 : Int) ≤ n) = (2 ≤ n) := lit_le 2 n
@[go_sem] theorem lit2c (n : Nat) : ((n : Int) < 2) = (n < 2) := lt_lit 2 n
@[go_sem] theorem lit2d (n : Nat) : ((n : Int) ≤ 2) = (n ≤ 2) := le_lit 2 n
@[go_sem] theorem lit2e (n : Nat) : ((n : Int) = 2) = (n = 2) := eq_lit 2 n
@[go_sem] theorem lit3a (n : Nat) : ((3 : Int) < n) = (3 < n) := lit_lt 3 n
@[go_sem] theorem lit3b (n : Nat) : ((3 : Int) ≤ n) = (3 ≤ n) := lit_le 3 n
@[go_sem] theorem lit3c (n : Nat) : ((n : Int) < 3) = (n < 3) := lt_lit 3 n
@[go_sem] theorem lit3d (n : Nat) : ((n : Int) ≤ 3) = (n ≤ 3) := le_lit 3 n
@[go_sem] theorem lit3e (n : Nat) : ((n : Int) = 3) = (n = 3) := eq_lit 3 n
@[go_sem] theorem lit4a (n : Nat) : ((4 : Int) < n) = (4 < n) := lit_lt 4 n
@[go_sem] theorem lit4b (n : Nat) : ((4 : Int) ≤ n) = (4 ≤ n) := lit_le 4 n
@[go_sem] theorem lit4c (n : Nat) : ((n : Int) < 4) = (n < 4) := lt_lit 4 n
@[go_sem] theorem lit4d (n : Nat) : ((n : Int) ≤ 4) = (n ≤ 4) := le_lit 4 n
@[go_sem] theorem lit4e (n : Nat) : ((n : Int) = 4) = (n = 4) := eq_lit 4 n
@[go_sem] theorem lit8a (n : Nat) : ((8 : Int) < n) = (8 < n) := lit_lt 8 n
@[go_sem] theorem lit8b (n : Nat) : ((8 : Int) ≤ n) = (8 ≤ n) := lit_le 8 n
@[go_sem] theorem lit8c (n : Nat) : ((n : Int) < 8) = (n < 8) := lt_lit 8 n
@[go_sem] theorem lit8d (n : Nat) : ((n : Int) ≤ 8) = (n ≤ 8) := le_lit 8 n
@[go_sem] theorem lit8e (n : Nat) : ((n : Int) = 8) = (n = 8) := eq_lit 8 n
@[go_sem] theorem lit12a (n : Nat) : ((12 : Int) < n) = (12 < n) := lit_lt 12 n
@[go_sem] theorem lit12b (n : Nat) : ((12 : Int) ≤ n) = (12 ≤ n) := lit_le 12 n
@[go_sem] theorem lit12c (n : Nat) : ((n : Int) < 12) = (n < 12) := lt_lit 12 n
@[go_sem] theorem lit12d (n : Nat) : ((n : Int) ≤ 12) = (n ≤ 12) := le_lit 12 n
@[go_sem] theorem lit12e (n : Nat) : ((n : Int) = 12) = (n = 12) := eq_lit 12 n
@[go_sem] theorem lit16a (n : Nat) : ((16 : Int) < n) = (16 < n) := lit_lt 16 n
@[go_sem] theorem lit16b (n : Nat) : ((16 : Int) ≤ n) = (16 ≤ n) := lit_le 16 n
@[go_sem] theorem lit16c (n : Nat) : ((n : Int) < 16) = (n < 16) := lt_lit 16 n
@[go_sem] theorem lit16d (n : Nat) : ((n : Int) ≤ 16) = (n ≤ 16) := le_lit 16 n
@[go_sem] theorem lit16e (n : Nat) : ((n : Int) = 16) = (n = 16) := eq_lit 16 n
@[go_sem] theorem lit20a (n : Nat) : ((20 : Int) < n) = (20 < n) := lit_lt 20 n
@[go_sem] theorem lit20b (n : Nat) : ((20 : Int) ≤ n) = (20 ≤ n) := lit_le 20 n
@[go_sem] theorem lit20c (n : Nat) : ((n : Int) < 20) = (n < 20) := lt_lit 20 n
@[go_sem] theorem lit20d (n : Nat) : ((n : Int) ≤ 20) = (n ≤ 20) := le_lit 20 n
@[go_sem] theorem lit20e (n : Nat) : ((n : Int) = 20) = (n = 20) := eq_lit 20 n
@[go_sem] theorem lit40a (n : Nat) : ((40 : Int) < n) = (40 < n) := lit_lt 40 n
@[go_sem] theorem lit40b (n : Nat) : ((40 : Int) ≤ n) = (40 ≤ n) := lit_le 40 n
@[go_sem] theorem lit40c (n : Nat) : ((n : Int) < 40) = (n < 40) := lt_lit 40 n
@[go_sem] theorem lit40d (n : Nat) : ((n : Int) ≤ 40) = (n ≤ 40) := le_lit 40 n
@[go_sem] theorem lit40e (n : Nat) : ((n : Int) = 40) = (n = 40) := eq_lit 40 n
@[go_sem] theorem lit60a (n : Nat) : ((60 : Int) < n) = (60 < n) := lit_lt 60 n
@[go_sem] theorem lit60b (n : Nat) : ((60 : Int) ≤ n) = (60 ≤ n) := lit_le 60 n
@[go_sem] theorem lit60c (n : Nat) : ((n : Int) < 60) = (n < 60) := lt_lit 60 n
@[go_sem] theorem lit60d (n : Nat) : ((n : Int) ≤ 60) = (n ≤ 60) := le_lit 60 n
@[go_sem] theorem lit60e (n : Nat) : ((n : Int) = 60) = (n = 60) := eq_lit 60 n
@[go_sem] theorem lit64a (n : Nat) : ((64 : Int) < n) = (64 < n) := lit_lt 64 n
@[go_sem] theorem lit64b (n : Nat) : ((64 : Int) ≤ n) = (64 ≤ n) := lit_le 64 n
@[go_sem] theorem lit64c (n : Nat) : ((n : Int) < 64) = (n < 64) := lt_lit 64 n
@[go_sem] theorem lit64d (n : Nat) : ((n : Int) ≤ 64) = (n ≤ 64) := le_lit 64 n
@[go_sem] theorem lit64e (n : Nat) : ((n : Int) = 64) = (n = 64) := eq_lit 64 n
@[go_sem] theorem lit80a (n : Nat) : ((80 : Int) < n) = (80 < n) := lit_lt 80 n
@[go_sem] theorem lit80b (n : Nat) : ((80 : Int) ≤ n) = (80 ≤ n) := lit_le 80 n
@[go_sem] theorem lit80c (n : Nat) : ((n : Int) < 80) = (n < 80) := lt_lit 80 n
@[go_sem] theorem lit80d (n : Nat) : ((n : Int) ≤ 80) = (n ≤ 80) := le_lit 80 n
@[go_sem] theorem lit80e (n : Nat) : ((n : Int) = 80) = (n = 80) := eq_lit 80 n
@[go_sem] theorem lit100a (n : Nat) : ((100 : Int) < n) = (100 < n) := lit_lt 100 n
@[go_sem] theorem lit100b (n : Nat) : ((100 : Int) ≤ n) = (100 ≤ n) := lit_le 100 n
@[go_sem] theorem lit100c (n : Nat) : ((n : Int) < 100) = (n < 100) := lt_lit 100 n
@[go_sem] theorem lit100d (n : Nat) : ((n : Int) ≤ 100) = (n ≤ 100) := le_lit 100 n
@[go_sem] theorem lit100e (n : Nat) : ((n : Int) = 100) = (n = 100) := eq_lit 100 n
@[go_sem] theorem lit400a (n : Nat) : ((400 : Int) < n) = (400 < n) := lit_lt 400 n
@[go_sem] theorem lit400b (n : Nat) : ((400 : Int) ≤ n) = (400 ≤ n) := lit_le 400 n
@[go_sem] theorem lit400c (n : Nat) : ((n : Int) < 400) = (n < 400) := lt_lit 400 n
@[go_sem] theorem lit400d (n : Nat) : ((n : Int) ≤ 400) = (n ≤ 400) := le_lit 400 n
@[go_sem] theorem lit400e (n : Nat) : ((n : Int) = 400) = (n = 400) := eq_lit 400 n
@[go_sem] theorem lit1000a (n : Nat) : ((1000 : Int) < n) = (1000 < n) := lit_lt 1000 n
@[go_sem] theorem lit1000b (n : Nat) : ((1000 : Int) ≤ n) = (1000 ≤ n) := lit_le 1000 n
@[go_sem] theorem lit1000c (n : Nat) : ((n : Int) < 1000) = (n < 1000) := lt_lit 1000 n
@[go_sem] theorem lit1000d (n : Nat) : ((n : Int) ≤ 1000) = (n ≤ 1000) := le_lit 1000 n
@[go_sem] theorem lit1000e (n : Nat) : ((n : Int) = 1000) = (n = 1000) := eq_lit 1000 n
@[go_sem] theorem lit0e (n : Nat) : ((n : Int) = 0) = (n = 0) := eq_lit 0 n
theorem ilt_t (a b : Int) : (decide (a < b) = true) = (a < b) := by simp
theorem ilt_f (a b : Int) : (decide (a < b) = false) = (¬ a < b) := by simp
theorem ile_t (a b : Int) : (decide (a ≤ b) = true) = (a ≤ b) := by simp
theorem ile_f (a b : Int) : (decide (a ≤ b) = false) = (¬ a ≤ b) := by simp
theorem nlt_t (a b : Nat) : (decide (a < b) = true) = (a < b) := by simp
theorem nlt_f (a b : Nat) : (decide (a < b) = false) = (¬ a < b) := by simp
theorem nle_t (a b : Nat) : (decide (a ≤ b) = true) = (a ≤ b) := by simp
theorem nle_f (a b : Nat) : (decide (a ≤ b) = false) = (¬ a ≤ b) := by simp
theorem w64_nat {i n : Nat} (h : i < n) (hn : Small n) : IntKind.i64.wrap (i + 1 : Int) = ((i + 1 : Nat) : Int) := by
  unfold Small at hn
  rw [IntWalk.i64_in _ (by omega)]
  omega
theorem w64_pred {n : Nat} (hn : Small n) : IntKind.i64.wrap (n - 1 : Int) = (n : Int) - 1 := by
  unfold Small at hn
  rw [IntWalk.i64_in _ (by omega)]

/-! ### A scope in which the run jumps back to a label -/
def jumpK (l : Nat) (J : TS → Prop) (Q : Exit → TS → Prop) : Exit → TS → Prop
  | .goto l', ts => l' = l ∧ J ts
  | e, ts => Q e ts
section
variable {P : Program} {Q : Exit → TS → Prop} {ts : TS}
theorem SpecC.scope_jumps {c rest : Code} (l : Nat) (I : Nat → TS → Prop) (hf : findLabel c l = some rest) (first : SpecC P c ts (jumpK l (fun ts' => ∃ m, I m ts') Q))
    (pass : ∀ n ts, I n ts → SpecC P rest ts (jumpK l (fun ts' => ∃ m, m < n ∧ I m ts') Q)) : SpecC P (.scope c) ts Q := by
  intro E G a w hr
  let p : Act → World → Nat → Prop := fun a w n => ∃ ts G, I n ts ∧ Rel E ts G a w
  let μ : Act → World → Nat := fun a w => open Classical in if h : ∃ n, p a w n then Classical.choose (exists_least _ h) else 0
  have hμ : ∀ a w, (∃ n, p a w n) → p a w (μ a w) := fun a w h => by
    simp only [μ, dif_pos h]; exact (Classical.choose_spec (exists_least _ h)).1
  have hμ' : ∀ a w n, p a w n → μ a w ≤ n := fun a w n h => by
    simp only [μ, dif_pos (⟨n, h⟩ : ∃ n, p a w n)]; exact (Classical.choose_spec (exists_least _ ⟨n, h⟩)).2 n h
  refine wp_scope_jumps l (fun a w => ∃ n, p a w n) μ hf (wp_mono (first E G a w hr) ?_) ?_
  · rintro e a' w' ⟨ts', G', hq, hr'⟩
    cases e with
    | goto l' => exact ⟨hq.1, hq.2.choose, ts', G', hq.2.choose_spec, hr'⟩
    | _ => exact ⟨ts', G', hq, hr'⟩
  · intro a w hI
    obtain ⟨ts, G, hI, hr⟩ := hμ a w hI
    refine wp_mono (pass (μ a w) ts hI E G a w hr) ?_
    rintro e a' w' ⟨ts', G', hq, hr'⟩
    cases e with
    | goto l' =>
      obtain ⟨hl, m, hm, hI'⟩ := hq
      exact ⟨hl, ⟨m, ts', G', hI', hr'⟩, Nat.lt_of_le_of_lt (hμ' a' w' m ⟨ts', G', hI', hr'⟩) hm⟩
    | _ => exact ⟨ts', G', hq, hr'⟩
@[go_sem] theorem jumpK_ret (l : Nat) (J : TS → Prop) : jumpK l J Q .ret ts = Q .ret ts := rfl
@[go_sem] theorem jumpK_normal (l : Nat) (J : TS → Prop) : jumpK l J Q .normal ts = Q .normal ts := rfl
@[go_sem] theorem jumpK_exit (l id : Nat) (J : TS → Prop) : jumpK l J Q (.exit id) ts = Q (.exit id) ts := rfl
@[go_sem] theorem jumpK_goto (l l' : Nat) (J : TS → Prop) : jumpK l J Q (.goto l') ts = (l' = l ∧ J ts) := rfl
end

end Go.Proofs.Ytjmnokbbodcaaaa.Lg
