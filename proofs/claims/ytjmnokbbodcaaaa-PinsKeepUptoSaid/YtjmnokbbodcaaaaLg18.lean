/- Regions that draw their order: the operations of the first part each turn one slot of their own; the rest come behind them, in the order of the text. -/
import Derived.Test.YtjmnokbbodcaaaaLg17
namespace Go.Proofs.Ytjmnokbbodcaaaa.Lg
set_option linter.unusedVariables false
set_option linter.unusedSimpArgs false
open Go
variable {P : Program}

def SameSlot (a b : TS) (t : Nat) : Prop := a.tmp t = b.tmp t ∧ a.gen t = b.gen t ∧ a.obj t = b.obj t

def TS.slotOf (a F : TS) (d : Nat) : TS := { a with tmp := upd a.tmp d (F.tmp d), gen := upd a.gen d (F.gen d), obj := upd a.obj d (F.obj d) }

theorem slotOf_same (a F : TS) (d : Nat) : SameSlot (a.slotOf F d) F d := by simp [SameSlot, TS.slotOf]
theorem slotOf_ne (a F : TS) {d t : Nat} (h : t ≠ d) : SameSlot (a.slotOf F d) a t := by simp [SameSlot, TS.slotOf, upd, h]

theorem ts_ext {a b : TS} (hn : a.n = b.n) (h : ∀ t, SameSlot a b t) : a = b := by
  cases a; cases b
  simp only at hn
  subst hn
  have h1 := funext fun t => (h t).1
  have h2 := funext fun t => (h t).2.1
  have h3 := funext fun t => (h t).2.2
  simp only at h1 h2 h3
  subst h1 h2 h3
  rfl

def afterOf (ops : Array Oper) (i : Nat) : List Nat :=
  match ops[i]? with
  | some o => (o.after.toList.filter (Region.binds .any)).map (·.on)
  | none => []

/-- j comes ahead of k, by the edges: by so many at most. -/
def reach (ops : Array Oper) : Nat → Nat → Nat → Bool
  | 0, _, _ => false
  | f + 1, k, j => (afterOf ops k).contains j || (afterOf ops k).any fun e => reach ops f e j

/-- The check of a region: m operations in whatever order, each with slots of its own that it turns, and slots of which it knows nothing; the rest in the order of the text. -/
def drawChk (ops : Array Oper) (m : Nat) (wr bads : List (List Nat)) : Bool :=
  decide (m ≤ ops.size) &&
  ((List.range ops.size).all fun i => (afterOf ops i).all fun e => decide (e < i)) &&
  ((List.range m).all fun i => ((wr.getD i []).all fun t => !(bads.getD i []).contains t) &&
    (List.range m).all fun j => i == j || (decide (j < i) && reach ops 2 i j) || (decide (i < j) && reach ops 2 j i) || (wr.getD j []).all fun t => (bads.getD i []).contains t) &&
  ((List.range ops.size).all fun k => decide (k < m) || (List.range k).all fun j => reach ops 2 k j)

structure DrawOk (ops : Array Oper) (m : Nat) (wr bads : List (List Nat)) : Prop where
  le : m ≤ ops.size
  lt : ∀ i, i < ops.size → ∀ e ∈ afterOf ops i, e < i
  own : ∀ i, i < m → ∀ t ∈ wr.getD i [], (bads.getD i []).contains t = false
  ord : ∀ i, i < m → ∀ j, j < m → i ≠ j → (j < i ∧ reach ops 2 i j = true) ∨ (i < j ∧ reach ops 2 j i = true) ∨ ∀ t ∈ wr.getD j [], (bads.getD i []).contains t = true
  tail : ∀ k, m ≤ k → k < ops.size → ∀ j, j < k → reach ops 2 k j = true

theorem drawChk_spec {ops : Array Oper} {m : Nat} {wr bads : List (List Nat)} (h : drawChk ops m wr bads = true) : DrawOk ops m wr bads := by
  unfold drawChk at h
  simp only [Bool.and_eq_true] at h
  obtain ⟨⟨⟨h1, h2⟩, h3⟩, h4⟩ := h
  refine ⟨by simpa using h1, fun i hi e he => ?_, fun i hi t ht => ?_, fun i hi j hj hne => ?_, fun k hk hk2 j hj => ?_⟩
  · have := List.all_eq_true.1 (List.all_eq_true.1 h2 i (List.mem_range.2 hi)) e he
    simpa using this
  · have := (Bool.and_eq_true _ _ ▸ List.all_eq_true.1 h3 i (List.mem_range.2 hi) : _ ∧ _).1
    have := List.all_eq_true.1 this t ht
    simpa using this
  · have := (Bool.and_eq_true _ _ ▸ List.all_eq_true.1 h3 i (List.mem_range.2 hi) : _ ∧ _).2
    have := List.all_eq_true.1 this j (List.mem_range.2 hj)
    simp only [Bool.or_eq_true, Bool.and_eq_true, decide_eq_true_eq, beq_iff_eq] at this
    rcases this with ((h | h) | h) | h
    · exact absurd h hne
    · exact .inl h
    · exact .inr (.inl h)
    · exact .inr (.inr fun t ht => List.all_eq_true.1 h t ht)
  · have := List.all_eq_true.1 h4 k (List.mem_range.2 hk2)
    simp only [Bool.or_eq_true, decide_eq_true_eq] at this
    rcases this with h | h
    · omega
    · exact List.all_eq_true.1 h j (List.mem_range.2 hj)

def listedIs (l : Array Bool) (i : Nat) : Prop := l.getD i false = true

theorem mem_ready {ops : Array Oper} {l : Array Bool} (hs : l.size = ops.size) {i : Nat} : i ∈ Region.ready .any ops l ↔ i < ops.size ∧ ¬ listedIs l i ∧ ∀ e ∈ afterOf ops i, listedIs l e := by
  unfold Region.ready
  simp only [List.mem_filter, List.mem_range]
  constructor
  · rintro ⟨hi, h⟩
    simp only [Bool.and_eq_true, Bool.not_eq_true'] at h
    obtain ⟨h1, h2⟩ := h
    refine ⟨hi, ?_, fun e he => ?_⟩
    · unfold listedIs
      have : l.getD i true = l.getD i false := by simp [show i < l.size by omega]
      rw [← this, h1]; simp
    · unfold afterOf at he
      cases ho : ops[i]? with
      | none => rw [ho] at he; simp at he
      | some o =>
        rw [ho] at he h2
        simp only [Option.map_some, Option.getD_some, Array.all_eq_true_iff_forall_mem, Bool.or_eq_true, Bool.not_eq_true'] at h2
        obtain ⟨x, hx, rfl⟩ := List.mem_map.1 he
        obtain ⟨hx1, hx2⟩ := List.mem_filter.1 hx
        rcases h2 x (by simpa using hx1) with h | h
        · rw [hx2] at h; cases h
        · exact h
  · rintro ⟨hi, h1, h2⟩
    refine ⟨hi, ?_⟩
    simp only [Bool.and_eq_true, Bool.not_eq_true']
    refine ⟨?_, ?_⟩
    · have : l.getD i true = l.getD i false := by simp [show i < l.size by omega]
      rw [this]; simpa [listedIs] using h1
    · have ho : ops[i]? = some ops[i] := Array.getElem?_eq_getElem hi
      rw [ho]
      simp only [Option.map_some, Option.getD_some, Array.all_eq_true_iff_forall_mem, Bool.or_eq_true, Bool.not_eq_true']
      intro e he
      cases hb : Region.binds .any e with
      | false => exact .inl rfl
      | true =>
        right
        refine h2 e.on ?_
        unfold afterOf
        rw [ho]
        exact List.mem_map.2 ⟨e, List.mem_filter.2 ⟨by simpa using he, hb⟩, rfl⟩

def closed (ops : Array Oper) (l : Array Bool) : Prop := ∀ i, i < ops.size → listedIs l i → ∀ e ∈ afterOf ops i, listedIs l e

theorem reach_listed {ops : Array Oper} {l : Array Bool} (hc : closed ops l) (hlt : ∀ i, i < ops.size → ∀ e ∈ afterOf ops i, e < i) : ∀ (f k j : Nat), k < ops.size → (∀ e ∈ afterOf ops k, listedIs l e) → reach ops f k j = true → listedIs l j
  | 0, k, j, _, _, h => by simp [reach] at h
  | f + 1, k, j, hk, ha, h => by
    simp only [reach, List.any_eq_true, Bool.or_eq_true, List.contains_iff_mem] at h
    rcases h with h | ⟨e, he, h⟩
    · exact ha j h
    · have hek := hlt k hk e he
      exact reach_listed hc hlt f e j (by omega) (hc e (by omega) (ha e he)) h

theorem listed_set {l : Array Bool} {i j : Nat} (hi : i < l.size) : listedIs (l.setIfInBounds i true) j ↔ j = i ∨ listedIs l j := by
  unfold listedIs
  by_cases e : j = i
  · subst e; simp [hi]
  · simp [Array.getElem?_setIfInBounds, Ne.symm e, e]

/-- How many are still to come. -/
def left (ops : Array Oper) (l : Array Bool) : Nat := ((List.range ops.size).filter fun i => !l.getD i false).length

theorem left_set {ops : Array Oper} {l : Array Bool} (hs : l.size = ops.size) {i : Nat} (hi : i < ops.size) (hn : ¬ listedIs l i) : left ops (l.setIfInBounds i true) < left ops l := by
  unfold left
  have key : ∀ (r : List Nat), r.Nodup → i ∈ r → (r.filter fun j => !(l.setIfInBounds i true).getD j false).length < (r.filter fun j => !l.getD j false).length := by
    intro r
    induction r with
    | nil => intro _ h; simp at h
    | cons x r ih =>
      intro hnd hm
      have hnd' := List.nodup_cons.1 hnd
      have hle : ∀ (q : List Nat), (q.filter fun j => !(l.setIfInBounds i true).getD j false).length ≤ (q.filter fun j => !l.getD j false).length := by
        intro q
        induction q with
        | nil => simp
        | cons y q ihq =>
          simp only [List.filter_cons]
          have : (!(l.setIfInBounds i true).getD y false) = true → (!l.getD y false) = true := by
            intro h
            simp only [Bool.not_eq_true'] at h ⊢
            cases hy : l.getD y false with
            | false => rfl
            | true => have := (listed_set (l := l) (i := i) (j := y) (by omega)).2 (.inr hy); unfold listedIs at this; rw [this] at h; cases h
          by_cases h1 : (!(l.setIfInBounds i true).getD y false) = true
          · rw [if_pos h1, if_pos (this h1)]; simpa using ihq
          · rw [if_neg h1]
            split
            · simp only [List.length_cons]; omega
            · exact ihq
      simp only [List.filter_cons]
      rcases List.mem_cons.1 hm with rfl | hm'
      · have h1 : (!(l.setIfInBounds i true).getD i false) = false := by
          have : i < l.size := by omega
          simp [this]
        have h2 : (!l.getD i false) = true := by
          cases hx : l.getD i false with
          | false => rfl
          | true => exact absurd hx hn
        rw [if_neg (by rw [h1]; decide), if_pos h2]
        simp only [List.length_cons]
        have := hle r
        omega
      · have hxi : x ≠ i := fun e => hnd'.1 (e ▸ hm')
        have h3 : (l.setIfInBounds i true).getD x false = l.getD x false := by simp [Array.getElem?_setIfInBounds, Ne.symm hxi]
        rw [h3]
        have := ih hnd'.2 hm'
        split
        · simp only [List.length_cons]; omega
        · exact this
  exact key _ List.nodup_range (by simpa using hi)

theorem ready_nil {ops : Array Oper} {l : Array Bool} (hs : l.size = ops.size) (hlt : ∀ i, i < ops.size → ∀ e ∈ afterOf ops i, e < i) (h : Region.ready .any ops l = []) : ∀ i, i < ops.size → listedIs l i := by
  intro i
  induction i using Nat.strongRecOn with
  | _ i ih =>
    intro hi
    by_cases hl : listedIs l i
    · exact hl
    · have : i ∈ Region.ready .any ops l := (mem_ready hs).2 ⟨hi, hl, fun e he => ih e (hlt i hi e he) (by have := hlt i hi e he; omega)⟩
      rw [h] at this
      simp at this

theorem left_pos {ops : Array Oper} {l : Array Bool} {i : Nat} (hi : i < ops.size) (hn : ¬ listedIs l i) : 0 < left ops l := by
  unfold left
  refine List.length_pos_iff.2 fun e => ?_
  have : i ∈ (List.range ops.size).filter fun i => !l.getD i false := List.mem_filter.2 ⟨by simpa using hi, by
    cases hx : l.getD i false with
    | false => rfl
    | true => exact absurd hx hn⟩
  rw [e] at this
  simp at this

/-- The rest, in the order of the text. -/
theorem draw_tail {ops : Array Oper} {m : Nat} {wr bads : List (List Nat)} (hd : DrawOk ops m wr bads) {K : TS → Prop} {Q : Exit → Act → World → Prop} {E : Env} (hQ : ∀ ts' G' a' w', K ts' → Rel E ts' G' a' w' → Q .normal a' w') :
    ∀ (fuel : Nat) (l : Array Bool) (k : Nat) (ts : TS) (G : Ghost) (a : Act) (w : World), l.size = ops.size → left ops l ≤ fuel → m ≤ k → k ≤ ops.size → (∀ j, j < ops.size → (listedIs l j ↔ j < k)) →
      SpecOs P ops K (ops.toList.drop k) ts → Rel E ts G a w → wpAny P .any ops Q fuel l a w := by
  intro fuel
  induction fuel with
  | zero =>
    intro l k ts G a w hs hf hm hk hl h hr
    have hall : ∀ j, j < ops.size → listedIs l j := fun j hj => by
      by_cases hn : listedIs l j
      · exact hn
      · have := left_pos hj hn; omega
    have hke : k = ops.size := by
      rcases Nat.lt_or_ge k ops.size with h1 | h1
      · exact absurd ((hl k h1).1 (hall k h1)) (Nat.lt_irrefl k)
      · omega
    subst hke
    have : ops.toList.drop ops.size = [] := by simp
    rw [this] at h
    refine ⟨?_, hQ ts G a w h hr⟩
    by_cases e : Region.ready .any ops l = []
    · exact e
    · obtain ⟨i, hi⟩ := List.exists_mem_of_ne_nil _ e
      obtain ⟨h1, h2, _⟩ := (mem_ready hs).1 hi
      exact absurd (hall i h1) h2
  | succ fuel ih =>
    intro l k ts G a w hs hf hm hk hl h hr
    refine ⟨fun hnil => ?_, fun i hi => ?_⟩
    · have hall := ready_nil hs hd.lt hnil
      have hke : k = ops.size := by
        rcases Nat.lt_or_ge k ops.size with h1 | h1
        · exact absurd ((hl k h1).1 (hall k h1)) (Nat.lt_irrefl k)
        · omega
      subst hke
      have : ops.toList.drop ops.size = [] := by simp
      rw [this] at h
      exact hQ ts G a w h hr
    · obtain ⟨hi1, hi2, hi3⟩ := (mem_ready hs).1 hi
      have hik : k ≤ i := Nat.le_of_not_lt fun hlt => hi2 ((hl i hi1).2 hlt)
      have hc : closed ops l := fun q hq hlq e he => (hl e (by have := hd.lt q hq e he; omega)).2 (by have := hd.lt q hq e he; have := (hl q hq).1 hlq; omega)
      have hik2 : i = k := by
        rcases Nat.lt_or_ge k i with h1 | h1
        · have := reach_listed hc hd.lt 2 i k hi1 hi3 (hd.tail i (by omega) hi1 k h1)
          exact absurd ((hl k (by omega)).1 this) (Nat.lt_irrefl k)
        · omega
      subst hik2
      have hdrop : ops.toList.drop i = ops[i] :: ops.toList.drop (i + 1) := by
        rw [List.drop_eq_getElem_cons (by simpa using hi1)]; simp
      rw [hdrop] at h
      refine SpecG.sound h (Array.getElem?_eq_getElem hi1) hr fun ts' G' a' w' hK hr' => ?_
      refine ih (l.setIfInBounds i true) (i + 1) ts' G' a' w' (by simp [hs]) (by have := left_set hs hi1 hi2; omega) (by omega) hi1 (fun j hj => ?_) hK hr'
      rw [listed_set (by omega), hl j hj]
      omega


/-- F, with another state's at the slots of a list. -/
def mix (bad : List Nat) (J F : TS) : TS :=
  { n := F.n
    tmp := fun t => if bad.contains t then J.tmp t else F.tmp t
    gen := fun t => if bad.contains t then J.gen t else F.gen t
    obj := fun t => if bad.contains t then J.obj t else F.obj t }

theorem mix_in {bad : List Nat} {J F : TS} {t : Nat} (h : bad.contains t = true) : SameSlot (mix bad J F) J t := by simp only [SameSlot, mix, h, if_true, and_self]
theorem mix_out {bad : List Nat} {J F : TS} {t : Nat} (h : bad.contains t = false) : SameSlot (mix bad J F) F t := by simp only [SameSlot, mix, h, Bool.false_eq_true, if_false, and_self]
theorem SameSlot.symm {a b : TS} {t : Nat} (h : SameSlot a b t) : SameSlot b a t := ⟨h.1.symm, h.2.1.symm, h.2.2.symm⟩
theorem SameSlot.trans {a b c : TS} {t : Nat} (h : SameSlot a b t) (k : SameSlot b c t) : SameSlot a c t := ⟨h.1.trans k.1, h.2.1.trans k.2.1, h.2.2.trans k.2.2⟩
theorem SameSlot.rfl' {a : TS} {t : Nat} : SameSlot a a t := ⟨rfl, rfl, rfl⟩

/-- What the state is, when so many of the operations have been carried out: each slot as behind the last one that turns it. -/
def DrawInv (m : Nat) (wr : List (List Nat)) (F : Nat → TS) (l : Array Bool) (ts : TS) : Prop :=
  ts.n = (F 0).n ∧ ∀ t k, k ≤ m → (∀ j, j < k → t ∈ wr.getD j [] → listedIs l j) → (∀ j, k ≤ j → j < m → t ∈ wr.getD j [] → ¬ listedIs l j) → SameSlot ts (F k) t

theorem seq_same {m : Nat} {wr : List (List Nat)} {F : Nat → TS} (hF : ∀ i, i < m → ∀ t, t ∉ wr.getD i [] → SameSlot (F (i + 1)) (F i) t) {t : Nat} : ∀ (q i : Nat), i + q ≤ m → (∀ j, i ≤ j → j < i + q → t ∉ wr.getD j []) → SameSlot (F (i + q)) (F i) t
  | 0, _, _, _ => SameSlot.rfl'
  | q + 1, i, h, hj => (hF (i + q) (by omega) t (hj (i + q) (by omega) (by omega))).trans (seq_same hF q i (by omega) fun j h1 h2 => hj j h1 (by omega))

theorem draw_pre {ops : Array Oper} {m : Nat} {wr bads : List (List Nat)} (hd : DrawOk ops m wr bads) {K : TS → Prop} {Q : Exit → Act → World → Prop} {E : Env} (hQ : ∀ ts' G' a' w', K ts' → Rel E ts' G' a' w' → Q .normal a' w')
    {F : Nat → TS} (hn : ∀ k, k ≤ m → (F k).n = (F 0).n) (hF : ∀ i, i < m → ∀ t, t ∉ wr.getD i [] → SameSlot (F (i + 1)) (F i) t)
    (hop : ∀ i (hi : i < ops.size), i < m → ∀ ts1 : TS, ts1.n = (F 0).n → (∀ t, (bads.getD i []).contains t = false → SameSlot ts1 (F i) t) → SpecG P ops ops[i] ts1 (fun ts' => ts' = mix (wr.getD i []) (F (i + 1)) ts1))
    (htail : SpecOs P ops K (ops.toList.drop m) (F m)) :
    ∀ (fuel : Nat) (l : Array Bool) (ts : TS) (G : Ghost) (a : Act) (w : World), l.size = ops.size → left ops l ≤ fuel → closed ops l → (∀ j, j < ops.size → m ≤ j → ¬ listedIs l j) →
      DrawInv m wr F l ts → Rel E ts G a w → wpAny P .any ops Q fuel l a w := by
  have sameF : ∀ (l : Array Bool) (ts : TS), (∀ j, j < m → listedIs l j) → DrawInv m wr F l ts → ts = F m := fun l ts hall hi =>
    ts_ext (by rw [hi.1, hn m (Nat.le_refl _)]) fun t => hi.2 t m (Nat.le_refl _) (fun j hj _ => hall j hj) fun j h1 h2 => by omega
  intro fuel
  induction fuel with
  | zero =>
    intro l ts G a w hs hf hc htl hinv hr
    have hall : ∀ j, j < ops.size → listedIs l j := fun j hj => by
      by_cases hx : listedIs l j
      · exact hx
      · have := left_pos hj hx; omega
    have hme : m = ops.size := by
      rcases Nat.lt_or_ge m ops.size with h | h
      · exact absurd (hall m h) (htl m h (Nat.le_refl _))
      · have := hd.le; omega
    have heq := sameF l ts (fun j hj => hall j (by have := hd.le; omega)) hinv
    subst heq
    have hdr : ops.toList.drop m = [] := by rw [hme]; simp
    rw [hdr] at htail
    refine ⟨?_, hQ _ G a w htail hr⟩
    by_cases e : Region.ready .any ops l = []
    · exact e
    · obtain ⟨i, hi⟩ := List.exists_mem_of_ne_nil _ e
      obtain ⟨q1, q2, _⟩ := (mem_ready hs).1 hi
      exact absurd (hall i q1) q2
  | succ fuel ih =>
    intro l ts G a w hs hf hc htl hinv hr
    refine ⟨fun hnil => ?_, fun i hi => ?_⟩
    · have hall := ready_nil hs hd.lt hnil
      have hme : m = ops.size := by
        rcases Nat.lt_or_ge m ops.size with h | h
        · exact absurd (hall m h) (htl m h (Nat.le_refl _))
        · have := hd.le; omega
      have heq := sameF l ts (fun j hj => hall j (by have := hd.le; omega)) hinv
      subst heq
      have hdr : ops.toList.drop m = [] := by rw [hme]; simp
      rw [hdr] at htail
      exact hQ _ G a w htail hr
    · obtain ⟨hi1, hi2, hi3⟩ := (mem_ready hs).1 hi
      have hbefore : ∀ j, reach ops 2 i j = true → listedIs l j := fun j h => reach_listed hc hd.lt 2 i j hi1 hi3 h
      have hnot : ∀ j, j < ops.size → reach ops 2 j i = true → ¬ listedIs l j := fun j hj h hlj => hi2 (reach_listed hc hd.lt 2 j i hj (hc j hj hlj) h)
      by_cases him : i < m
      · have hord : ∀ j, j < m → i ≠ j → ∀ t ∈ wr.getD j [], (bads.getD i []).contains t = false → (j < i → listedIs l j) ∧ (i < j → ¬ listedIs l j) := by
          intro j hj hne t ht hb
          rcases hd.ord i him j hj hne with ⟨h1, h2⟩ | ⟨h1, h2⟩ | h
          · exact ⟨fun _ => hbefore j h2, fun h => by omega⟩
          · exact ⟨fun h => by omega, fun _ => hnot j (by have := hd.le; omega) h2⟩
          · rw [h t ht] at hb; cases hb
        have hreads : ∀ t, (bads.getD i []).contains t = false → SameSlot ts (F i) t := fun t ht =>
          hinv.2 t i (by omega) (fun j hj hw => (hord j (by omega) (by omega) t hw ht).1 hj) fun j h1 h2 hw => by
            by_cases hji : i = j
            · subst hji; exact hi2
            · exact (hord j h2 hji t hw ht).2 (by omega)
        refine SpecG.sound (hop i hi1 him ts hinv.1 hreads) (Array.getElem?_eq_getElem hi1) hr fun ts' G' a' w' hK hr' => ?_
        subst hK
        refine ih (l.setIfInBounds i true) (mix (wr.getD i []) (F (i + 1)) ts) G' a' w' (by simp [hs]) (by have := left_set hs hi1 hi2; omega) ?_ ?_ ⟨hinv.1, fun t k hk h1 h2 => ?_⟩ hr'
        · intro q hq hlq e he
          rw [listed_set (by omega)] at hlq ⊢
          rcases hlq with rfl | hlq
          · exact .inr (hi3 e he)
          · exact .inr (hc q hq hlq e he)
        · intro j hj hmj hlj
          rw [listed_set (by omega)] at hlj
          rcases hlj with rfl | hlj
          · omega
          · exact htl j hj hmj hlj
        · by_cases htw : t ∈ wr.getD i []
          · have hik : i < k := by
              rcases Nat.lt_or_ge i k with h | h
              · exact h
              · exact absurd ((listed_set (by omega)).2 (.inl rfl)) (h2 i h him htw)
            have a1 : SameSlot (mix (wr.getD i []) (F (i + 1)) ts) (F (i + 1)) t := mix_in (List.contains_iff_mem.2 htw)
            refine a1.trans (SameSlot.symm ?_)
            have := seq_same hF (t := t) (k - (i + 1)) (i + 1) (by omega) fun j h3 h4 hw => by
              have hlj := (listed_set (i := i) (by omega)).1 (h1 j (by omega) hw)
              rcases hlj with h | h
              · omega
              · exact (hord j (by omega) (by omega) t hw (hd.own i him t htw)).2 (by omega) h
            rwa [show i + 1 + (k - (i + 1)) = k by omega] at this
          · have a1 : SameSlot (mix (wr.getD i []) (F (i + 1)) ts) ts t := mix_out (by
              cases h : (wr.getD i []).contains t with
              | false => rfl
              | true => exact absurd (List.contains_iff_mem.1 h) htw)
            refine a1.trans (hinv.2 t k hk (fun j hj hw => ?_) fun j h3 h4 hw hl => h2 j h3 h4 hw ((listed_set (by omega)).2 (.inr hl)))
            rcases (listed_set (i := i) (by omega)).1 (h1 j hj hw) with h | h
            · subst h; exact absurd hw htw
            · exact h
      · have hmi : m ≤ i := Nat.le_of_not_lt him
        have hall : ∀ j, j < i → listedIs l j := fun j hj => hbefore j (hd.tail i hmi hi1 j hj)
        have hmi2 : m = i := by
          rcases Nat.lt_or_ge m i with h | h
          · exact absurd (hall m h) (htl m (by omega) (Nat.le_refl _))
          · omega
        subst hmi2
        have heq := sameF l ts (fun j hj => hall j hj) hinv
        subst heq
        have hdrop : ops.toList.drop m = ops[m] :: ops.toList.drop (m + 1) := by
          rw [List.drop_eq_getElem_cons (by simpa using hi1)]; simp
        rw [hdrop] at htail
        refine SpecG.sound htail (Array.getElem?_eq_getElem hi1) hr fun ts' G' a' w' hK hr' => ?_
        refine draw_tail hd hQ fuel (l.setIfInBounds m true) (m + 1) ts' G' a' w' (by simp [hs]) (by have := left_set hs hi1 hi2; omega) (by omega) hi1 (fun j hj => ?_) hK hr'
        rw [listed_set (by omega)]
        constructor
        · rintro (rfl | hlj)
          · omega
          · rcases Nat.lt_or_ge j m with h | h
            · omega
            · exact absurd hlj (htl j hj h)
        · intro hj2
          rcases Nat.lt_or_ge j m with h | h
          · exact .inr (hall j h)
          · exact .inl (by omega)

end Go.Proofs.Ytjmnokbbodcaaaa.Lg
