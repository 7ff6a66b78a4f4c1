/- Regions that draw their order, in the form in which a proof takes them: each operation of the first part once, over a state in which what need not be there yet is anything. -/
import Derived.Test.YtjmnokbbodcaaaaLg18
namespace Go.Proofs.Ytjmnokbbodcaaaa.Lg
set_option linter.unusedVariables false
set_option linter.unusedSimpArgs false
open Go
variable {P : Program}

def PreOk (P : Program) (ops : Array Oper) (wr bads : List (List Nat)) (C : TS → Prop) : Nat → List Oper → TS → Prop
  | _, [], F => C F
  | i, o :: l, F => ∃ F', F'.n = F.n ∧ (∀ t, t ∉ wr.getD i [] → SameSlot F' F t) ∧ (∀ J, SpecG P ops o (mix (bads.getD i []) J F) (fun ts' => ts' = mix (wr.getD i []) F' (mix (bads.getD i []) J F))) ∧ PreOk P ops wr bads C (i + 1) l F'

/-- Of a turn of the state: it touches these slots alone, and asks nothing of the others. -/
structure Loc (ws : List Nat) (g : TS → TS) : Prop where
  n : ∀ A, (g A).n = A.n
  off : ∀ A t, t ∉ ws → SameSlot (g A) A t
  on : ∀ A B t, t ∈ ws → (∀ s ∈ ws, SameSlot A B s) → SameSlot (g A) (g B) t

theorem Loc.put (d : Nat) (x : AV) : Loc [d] (fun A => A.put d x) where
  n _ := rfl
  off A t h := by
    have h : t ≠ d := by simpa using h
    simp [SameSlot, TS.put, upd, h]
  on A B t h k := by
    have h : t = d := by simpa using h
    subst h
    have := k t (by simp)
    exact ⟨by simp [TS.put], this.2.1, this.2.2⟩

theorem Loc.new (d : Nat) (ob : Ob) : Loc [d] (fun A => A.new d ob) where
  n _ := rfl
  off A t h := by
    have h : t ≠ d := by simpa using h
    simp [SameSlot, TS.new, upd, h]
  on A B t h k := by
    have h : t = d := by simpa using h
    subst h
    have := k t (by simp)
    refine ⟨this.1, ?_, by simp [TS.new]⟩
    show (A.new t ob).gen t = (B.new t ob).gen t
    simp only [TS.new, upd_same, this.2.1]

theorem Loc.setObj (d : Nat) (ob : Ob) : Loc [d] (fun A => A.setObj d ob) where
  n _ := rfl
  off A t h := by
    have h : t ≠ d := by simpa using h
    simp [SameSlot, TS.setObj, upd, h]
  on A B t h k := by
    have h : t = d := by simpa using h
    subst h
    have := k t (by simp)
    exact ⟨this.1, this.2.1, by simp [TS.setObj]⟩

theorem Loc.kill (d : Nat) : Loc [d] (fun A => A.kill d) where
  n _ := rfl
  off A t h := by
    have h : t ≠ d := by simpa using h
    simp [SameSlot, TS.kill, TS.setObj, upd, h]
  on A B t h k := by
    have h : t = d := by simpa using h
    subst h
    have := k t (by simp)
    exact ⟨this.1, this.2.1, by simp [TS.kill, TS.setObj]⟩

theorem Loc.comp {ws : List Nat} {g h : TS → TS} (hg : Loc ws g) (hh : Loc ws h) : Loc ws (fun A => h (g A)) where
  n A := (hh.n _).trans (hg.n A)
  off A t ht := (hh.off _ t ht).trans (hg.off A t ht)
  on A B t ht k := hh.on _ _ t ht fun s hs => hg.on A B s hs k

theorem Loc.wide {ws vs : List Nat} {g : TS → TS} (hg : Loc ws g) (h : ∀ t ∈ ws, t ∈ vs) : Loc vs g where
  n := hg.n
  off A t ht := hg.off A t fun k => ht (h t k)
  on A B t ht k := by
    by_cases hw : t ∈ ws
    · exact hg.on A B t hw fun s hs => k s (h s hs)
    · exact ((hg.off A t hw).trans (k t ht)).trans (hg.off B t hw).symm

theorem loc_mix {ws bad : List Nat} {g : TS → TS} (hg : Loc ws g) (hb : ws.all (fun t => !bad.contains t) = true) (J F : TS) : g (mix bad J F) = mix ws (g F) (mix bad J F) := by
  have hb : ∀ t ∈ ws, bad.contains t = false := fun t ht => by
    have := List.all_eq_true.1 hb t ht
    simpa using this
  refine ts_ext (hg.n _) fun t => ?_
  by_cases ht : t ∈ ws
  · exact (hg.on _ F t ht fun s hs => mix_out (hb s hs)).trans (mix_in (List.contains_iff_mem.2 ht)).symm
  · refine (hg.off _ t ht).trans (mix_out ?_).symm
    cases h : ws.contains t with
    | false => rfl
    | true => exact absurd (List.contains_iff_mem.1 h) ht

section
variable {ops : Array Oper} {wr bads : List (List Nat)} {C : TS → Prop} {i : Nat} {o : Oper} {l : List Oper} {F : TS}

theorem PreOk.nil (h : C F) : PreOk P ops wr bads C i [] F := h

theorem PreOk.loc {ws bad : List Nat} {g : TS → TS} (hw : wr.getD i [] = ws) (hbd : bads.getD i [] = bad) (hg : Loc ws g) (hb : ws.all (fun t => !bad.contains t) = true)
    (h : ∀ J, SpecG P ops o (mix bad J F) (fun ts' => ts' = g (mix bad J F))) (hl : PreOk P ops wr bads C (i + 1) l (g F)) : PreOk P ops wr bads C i (o :: l) F := by
  subst hw hbd
  refine ⟨g F, hg.n F, fun t ht => hg.off F t ht, fun J => ?_, hl⟩
  rw [← loc_mix hg hb]
  exact h J

end

theorem pre_run {ops : Array Oper} {wr bads : List (List Nat)} {m : Nat} (hle : m ≤ ops.size) {C : TS → Prop} : ∀ (k i : Nat) (F : TS), i + k = m → PreOk P ops wr bads C i ((ops.toList.take m).drop i) F →
    ∃ Fs : Nat → TS, Fs i = F ∧ C (Fs m) ∧ ∀ q (hq : q < ops.size), i ≤ q → q < m → (Fs (q + 1)).n = (Fs q).n ∧ (∀ t, t ∉ wr.getD q [] → SameSlot (Fs (q + 1)) (Fs q) t) ∧
      ∀ J, SpecG P ops ops[q] (mix (bads.getD q []) J (Fs q)) (fun ts' => ts' = mix (wr.getD q []) (Fs (q + 1)) (mix (bads.getD q []) J (Fs q)))
  | 0, i, F, hik, h => by
    have : (ops.toList.take m).drop i = [] := List.drop_eq_nil_of_le (by simp; omega)
    rw [this] at h
    exact ⟨fun _ => F, rfl, h, fun q _ h1 h2 => by omega⟩
  | k + 1, i, F, hik, h => by
    have hi : i < ops.size := by omega
    have hdrop : (ops.toList.take m).drop i = ops[i] :: (ops.toList.take m).drop (i + 1) := by
      rw [List.drop_eq_getElem_cons (by simp; omega)]
      simp
    rw [hdrop] at h
    obtain ⟨F', h1, h2, h3, h4⟩ := h
    obtain ⟨Fs, g1, g2, g3⟩ := pre_run hle k (i + 1) F' (by omega) h4
    refine ⟨fun q => if q ≤ i then F else Fs q, by simp, by simp only [show ¬ m ≤ i by omega, if_false]; exact g2, fun q hq hq1 hq2 => ?_⟩
    by_cases hqi : q = i
    · subst hqi
      simp only [Nat.le_refl, if_true, show ¬ q + 1 ≤ q by omega, if_false, g1]
      exact ⟨h1, h2, h3⟩
    · simp only [show ¬ q ≤ i by omega, show ¬ q + 1 ≤ i by omega, if_false]
      exact g3 q hq (by omega) hq2

theorem SpecC.drawP (hmix : P.follows .mixedOrders = true) (id : Nat) {ops : Array Oper} {ts : TS} {Q : Exit → TS → Prop} (m : Nat) (wr bads : List (List Nat)) (hc : drawChk ops m wr bads = true)
    (h : PreOk P ops wr bads (SpecOs P ops (Q .normal) (ops.toList.drop m)) 0 (ops.toList.take m) ts) : SpecC P (.region id ops true) ts Q := by
  have hd := drawChk_spec hc
  obtain ⟨Fs, g1, g2, g3⟩ := pre_run hd.le (C := SpecOs P ops (Q .normal) (ops.toList.drop m)) m 0 ts (by omega) (by simpa using h)
  have hn : ∀ k, k ≤ m → (Fs k).n = (Fs 0).n := by
    intro k
    induction k with
    | zero => intro _; rfl
    | succ k ih => intro hk; exact (g3 k (by have := hd.le; omega) (Nat.zero_le _) (by omega)).1.trans (ih (by omega))
  intro E G a w hr
  refine wp_region_any hmix ?_
  have hlist : ∀ j, ¬ listedIs (Array.replicate ops.size false) j := fun j => by
    unfold listedIs
    by_cases h : j < ops.size <;> simp [h]
  refine draw_pre hd (E := E) (K := Q .normal) (Q := fun ex a' w' => ∃ ts' G', Q ex ts' ∧ Rel E ts' G' a' w') (fun ts' G' a' w' hK hr' => ⟨ts', G', hK, hr'⟩) hn
    (fun i hi t ht => (g3 i (by have := hd.le; omega) (Nat.zero_le _) hi).2.1 t ht) (fun i hi him ts1 hn1 hag => ?_) g2 ops.size _ ts G a { w with drawn := w.drawn + 1 } (by simp)
    (by unfold left; exact Nat.le_trans (List.length_filter_le _ _) (by simp)) (fun i _ hl => absurd hl (hlist i)) (fun j _ _ => hlist j) ⟨by rw [g1], fun t k hk h1 h2 => ?_⟩ hr.drew
  · have := (g3 i hi (Nat.zero_le _) him).2.2 ts1
    have he : mix (bads.getD i []) ts1 (Fs i) = ts1 := by
      refine ts_ext (by show (Fs i).n = ts1.n; rw [hn i (by omega), hn1]) fun t => ?_
      cases hb : (bads.getD i []).contains t with
      | true => exact mix_in hb
      | false => exact (mix_out hb).trans (hag t hb).symm
    rw [he] at this
    exact this
  · have hF : ∀ i, i < m → ∀ t, t ∉ wr.getD i [] → SameSlot (Fs (i + 1)) (Fs i) t := fun i hi t ht => (g3 i (by have := hd.le; omega) (Nat.zero_le _) hi).2.1 t ht
    have := seq_same hF (t := t) k 0 (by omega) fun j _ h4 hw => hlist j (h1 j (by omega) hw)
    rw [Nat.zero_add, g1] at this
    exact this.symm

section
variable (bad : List Nat) (J F : TS) (t : Nat)
@[go_sem] theorem n_mix : (mix bad J F).n = F.n := rfl
@[go_sem] theorem tmp_mix : (mix bad J F).tmp t = if bad.contains t then J.tmp t else F.tmp t := rfl
@[go_sem] theorem gen_mix : (mix bad J F).gen t = if bad.contains t then J.gen t else F.gen t := rfl
@[go_sem] theorem obj_mix : (mix bad J F).obj t = if bad.contains t then J.obj t else F.obj t := rfl
end

end Go.Proofs.Ytjmnokbbodcaaaa.Lg
