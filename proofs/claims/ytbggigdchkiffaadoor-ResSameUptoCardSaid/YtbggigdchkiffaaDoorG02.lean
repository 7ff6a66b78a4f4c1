/- Parts of the proof, one behind the other. -/
import Derived.IntWalk
import Derived.ScopeJumps
import Derived.Test.YtbggigdchkiffaaDoorG01
/- Regions that draw their order: the operations of the first part each turn one slot of their own; the rest come behind them, in the order of the text. -/
namespace Go.Proofs.YtbggigdchkiffaaDoor.Lg
set_option linter.unusedVariables false
set_option linter.unusedSimpArgs false
open Go
variable {P : Program}

def SameSlot (a b : TS) (t : Nat) : Prop := a.tmp t = b.tmp t ∧ a.gen t = b.gen t ∧ a.obj t = b.obj t

def TS.slotOf (a F : TS) (d : Nat) : TS := { a with tmp := upd a.tmp d (F.tmp d), gen := upd a.gen d (F.gen d), obj := upd a.obj d (F.obj d) }

theorem slotOf_same (a F : TS) (d : Nat) : SameSlot (a.slotOf F d) F d := by simp [SameSlot, TS.slotOf]
theorem slotOf_ne (a F : TS) {d t : Nat} (h : t ≠ d) : SameSlot (a.slotOf F d) a t := by simp [SameSlot, TS.slotOf, upd, h]

theorem ts_ext {a b : TS} (hn : a.n = b.n) (h : ∀ t, SameSlot a b t) : a = b := by
  cases a; cases b
  simp only at hn
  subst hn
  have h1 := funext fun t => (h t).1
  have h2 := funext fun t => (h t).2.1
  have h3 := funext fun t => (h t).2.2
  simp only at h1 h2 h3
  subst h1 h2 h3
  rfl

def afterOf (ops : Array Oper) (i : Nat) : List Nat :=
  match ops[i]? with
  | some o => (o.after.toList.filter (Region.binds .any)).map (·.on)
  | none => []

/-- j comes ahead of k, by the edges: by so many at most. -/
def reach (ops : Array Oper) : Nat → Nat → Nat → Bool
  | 0, _, _ => false
  | f + 1, k, j => (afterOf ops k).contains j || (afterOf ops k).any fun e => reach ops f e j

/-- The check of a region: m operations in whatever order, each with slots of its own that it turns, and slots of which it knows nothing; the rest in the order of the text. -/
def drawChk (ops : Array Oper) (m : Nat) (wr bads : List (List Nat)) : Bool :=
  decide (m ≤ ops.size) &&
  ((List.range ops.size).all fun i => (afterOf ops i).all fun e => decide (e < i)) &&
  ((List.range m).all fun i => ((wr.getD i []).all fun t => !(bads.getD i []).contains t) &&
    (List.range m).all fun j => i == j || (decide (j < i) && reach ops 2 i j) || (decide (i < j) && reach ops 2 j i) || (wr.getD j []).all fun t => (bads.getD i []).contains t) &&
  ((List.range ops.size).all fun k => decide (k < m) || (List.range k).all fun j => reach ops 2 k j)

structure DrawOk (ops : Array Oper) (m : Nat) (wr bads : List (List Nat)) : Prop where
  le : m ≤ ops.size
  lt : ∀ i, i < ops.size → ∀ e ∈ afterOf ops i, e < i
  own : ∀ i, i < m → ∀ t ∈ wr.getD i [], (bads.getD i []).contains t = false
  ord : ∀ i, i < m → ∀ j, j < m → i ≠ j → (j < i ∧ reach ops 2 i j = true) ∨ (i < j ∧ reach ops 2 j i = true) ∨ ∀ t ∈ wr.getD j [], (bads.getD i []).contains t = true
  tail : ∀ k, m ≤ k → k < ops.size → ∀ j, j < k → reach ops 2 k j = true

theorem drawChk_spec {ops : Array Oper} {m : Nat} {wr bads : List (List Nat)} (h : drawChk ops m wr bads = true) : DrawOk ops m wr bads := by
  unfold drawChk at h
  simp only [Bool.and_eq_true] at h
  obtain ⟨⟨⟨h1, h2⟩, h3⟩, h4⟩ := h
  refine ⟨by simpa using h1, fun i hi e he => ?_, fun i hi t ht => ?_, fun i hi j hj hne => ?_, fun k hk hk2 j hj => ?_⟩
  · have := List.all_eq_true.1 (List.all_eq_true.1 h2 i (List.mem_range.2 hi)) e he
    simpa using this
  · have := (Bool.and_eq_true _ _ ▸ List.all_eq_true.1 h3 i (List.mem_range.2 hi) : _ ∧ _).1
    have := List.all_eq_true.1 this t ht
    simpa using this
  · have := (Bool.and_eq_true _ _ ▸ List.all_eq_true.1 h3 i (List.mem_range.2 hi) : _ ∧ _).2
    have := List.all_eq_true.1 this j (List.mem_range.2 hj)
    simp only [Bool.or_eq_true, Bool.and_eq_true, decide_eq_true_eq, beq_iff_eq] at this
    rcases this with ((h | h) | h) | h
    · exact absurd h hne
    · exact .inl h
    · exact .inr (.inl h)
    · exact .inr (.inr fun t ht => List.all_eq_true.1 h t ht)
  · have := List.all_eq_true.1 h4 k (List.mem_range.2 hk2)
    simp only [Bool.or_eq_true, decide_eq_true_eq] at this
    rcases this with h | h
    · omega
    · exact List.all_eq_true.1 h j (List.mem_range.2 hj)

def listedIs (l : Array Bool) (i : Nat) : Prop := l.getD i false = true

theorem mem_ready {ops : Array Oper} {l : Array Bool} (hs : l.size = ops.size) {i : Nat} : i ∈ Region.ready .any ops l ↔ i < ops.size ∧ ¬ listedIs l i ∧ ∀ e ∈ afterOf ops i, listedIs l e := by
  unfold Region.ready
  simp only [List.mem_filter, List.mem_range]
  constructor
  · rintro ⟨hi, h⟩
    simp only [Bool.and_eq_true, Bool.not_eq_true'] at h
    obtain ⟨h1, h2⟩ := h
    refine ⟨hi, ?_, fun e he => ?_⟩
    · unfold listedIs
      have : l.getD i true = l.getD i false := by simp [show i < l.size by omega]
      rw [← this, h1]; simp
    · unfold afterOf at he
      cases ho : ops[i]? with
      | none => rw [ho] at he; simp at he
      | some o =>
        rw [ho] at he h2
        simp only [Option.map_some, Option.getD_some, Array.all_eq_true_iff_forall_mem, Bool.or_eq_true, Bool.not_eq_true'] at h2
        obtain ⟨x, hx, rfl⟩ := List.mem_map.1 he
        obtain ⟨hx1, hx2⟩ := List.mem_filter.1 hx
        rcases h2 x (by simpa using hx1) with h | h
        · rw [hx2] at h; cases h
        · exact h
  · rintro ⟨hi, h1, h2⟩
    refine ⟨hi, ?_⟩
    simp only [Bool.and_eq_true, Bool.not_eq_true']
    refine ⟨?_, ?_⟩
    · have : l.getD i true = l.getD i false := by simp [show i < l.size by omega]
      rw [this]; simpa [listedIs] using h1
    · have ho : ops[i]? = some ops[i] := Array.getElem?_eq_getElem hi
      rw [ho]
      simp only [Option.map_some, Option.getD_some, Array.all_eq_true_iff_forall_mem, Bool.or_eq_true, Bool.not_eq_true']
      intro e he
      cases hb : Region.binds .any e with
      | false => exact .inl rfl
      | true =>
        right
        refine h2 e.on ?_
        unfold afterOf
        rw [ho]
        exact List.mem_map.2 ⟨e, List.mem_filter.2 ⟨by simpa using he, hb⟩, rfl⟩

def closed (ops : Array Oper) (l : Array Bool) : Prop := ∀ i, i < ops.size → listedIs l i → ∀ e ∈ afterOf ops i, listedIs l e

theorem reach_listed {ops : Array Oper} {l : Array Bool} (hc : closed ops l) (hlt : ∀ i, i < ops.size → ∀ e ∈ afterOf ops i, e < i) : ∀ (f k j : Nat), k < ops.size → (∀ e ∈ afterOf ops k, listedIs l e) → reach ops f k j = true → listedIs l j
  | 0, k, j, _, _, h => by simp [reach] at h
  | f + 1, k, j, hk, ha, h => by
    simp only [reach, List.any_eq_true, Bool.or_eq_true, List.contains_iff_mem] at h
    rcases h with h | ⟨e, he, h⟩
    · exact ha j h
    · have hek := hlt k hk e he
      exact reach_listed hc hlt f e j (by omega) (hc e (by omega) (ha e he)) h

theorem listed_set {l : Array Bool} {i j : Nat} (hi : i < l.size) : listedIs (l.setIfInBounds i true) j ↔ j = i ∨ listedIs l j := by
  unfold listedIs
  by_cases e : j = i
  · subst e; simp [hi]
  · simp [Array.getElem?_setIfInBounds, Ne.symm e, e]

/-- How many are still to come. -/
def left (ops : Array Oper) (l : Array Bool) : Nat := ((List.range ops.size).filter fun i => !l.getD i false).length

theorem left_set {ops : Array Oper} {l : Array Bool} (hs : l.size = ops.size) {i : Nat} (hi : i < ops.size) (hn : ¬ listedIs l i) : left ops (l.setIfInBounds i true) < left ops l := by
  unfold left
  have key : ∀ (r : List Nat), r.Nodup → i ∈ r → (r.filter fun j => !(l.setIfInBounds i true).getD j false).length < (r.filter fun j => !l.getD j false).length := by
    intro r
    induction r with
    | nil => intro _ h; simp at h
    | cons x r ih =>
      intro hnd hm
      have hnd' := List.nodup_cons.1 hnd
      have hle : ∀ (q : List Nat), (q.filter fun j => !(l.setIfInBounds i true).getD j false).length ≤ (q.filter fun j => !l.getD j false).length := by
        intro q
        induction q with
        | nil => simp
        | cons y q ihq =>
          simp only [List.filter_cons]
          have : (!(l.setIfInBounds i true).getD y false) = true → (!l.getD y false) = true := by
            intro h
            simp only [Bool.not_eq_true'] at h ⊢
            cases hy : l.getD y false with
            | false => rfl
            | true => have := (listed_set (l := l) (i := i) (j := y) (by omega)).2 (.inr hy); unfold listedIs at this; rw [this] at h; cases h
          by_cases h1 : (!(l.setIfInBounds i true).getD y false) = true
          · rw [if_pos h1, if_pos (this h1)]; simpa using ihq
          · rw [if_neg h1]
            split
            · simp only [List.length_cons]; omega
            · exact ihq
      simp only [List.filter_cons]
      rcases List.mem_cons.1 hm with rfl | hm'
      · have h1 : (!(l.setIfInBounds i true).getD i false) = false := by
          have : i < l.size := by omega
          simp [this]
        have h2 : (!l.getD i false) = true := by
          cases hx : l.getD i false with
          | false => rfl
          | true => exact absurd hx hn
        rw [if_neg (by rw [h1]; decide), if_pos h2]
        simp only [List.length_cons]
        have := hle r
        omega
      · have hxi : x ≠ i := fun e => hnd'.1 (e ▸ hm')
        have h3 : (l.setIfInBounds i true).getD x false = l.getD x false := by simp [Array.getElem?_setIfInBounds, Ne.symm hxi]
        rw [h3]
        have := ih hnd'.2 hm'
        split
        · simp only [List.length_cons]; omega
        · exact this
  exact key _ List.nodup_range (by simpa using hi)

theorem ready_nil {ops : Array Oper} {l : Array Bool} (hs : l.size = ops.size) (hlt : ∀ i, i < ops.size → ∀ e ∈ afterOf ops i, e < i) (h : Region.ready .any ops l = []) : ∀ i, i < ops.size → listedIs l i := by
  intro i
  induction i using Nat.strongRecOn with
  | _ i ih =>
    intro hi
    by_cases hl : listedIs l i
    · exact hl
    · have : i ∈ Region.ready .any ops l := (mem_ready hs).2 ⟨hi, hl, fun e he => ih e (hlt i hi e he) (by have := hlt i hi e he; omega)⟩
      rw [h] at this
      simp at this

theorem left_pos {ops : Array Oper} {l : Array Bool} {i : Nat} (hi : i < ops.size) (hn : ¬ listedIs l i) : 0 < left ops l := by
  unfold left
  refine List.length_pos_iff.2 fun e => ?_
  have : i ∈ (List.range ops.size).filter fun i => !l.getD i false := List.mem_filter.2 ⟨by simpa using hi, by
    cases hx : l.getD i false with
    | false => rfl
    | true => exact absurd hx hn⟩
  rw [e] at this
  simp at this

/-- The rest, in the order of the text. -/
theorem draw_tail {ops : Array Oper} {m : Nat} {wr bads : List (List Nat)} (hd : DrawOk ops m wr bads) {K : TS → Prop} {Q : Exit → Act → World → Prop} {E : Env} (hQ : ∀ ts' G' a' w', K ts' → Rel E ts' G' a' w' → Q .normal a' w') :
    ∀ (fuel : Nat) (l : Array Bool) (k : Nat) (ts : TS) (G : Ghost) (a : Act) (w : World), l.size = ops.size → left ops l ≤ fuel → m ≤ k → k ≤ ops.size → (∀ j, j < ops.size → (listedIs l j ↔ j < k)) →
      SpecOs P ops K (ops.toList.drop k) ts → Rel E ts G a w → wpAny P .any ops Q fuel l a w := by
  intro fuel
  induction fuel with
  | zero =>
    intro l k ts G a w hs hf hm hk hl h hr
    have hall : ∀ j, j < ops.size → listedIs l j := fun j hj => by
      by_cases hn : listedIs l j
      · exact hn
      · have := left_pos hj hn; omega
    have hke : k = ops.size := by
      rcases Nat.lt_or_ge k ops.size with h1 | h1
      · exact absurd ((hl k h1).1 (hall k h1)) (Nat.lt_irrefl k)
      · omega
    subst hke
    have : ops.toList.drop ops.size = [] := by simp
    rw [this] at h
    refine ⟨?_, hQ ts G a w h hr⟩
    by_cases e : Region.ready .any ops l = []
    · exact e
    · obtain ⟨i, hi⟩ := List.exists_mem_of_ne_nil _ e
      obtain ⟨h1, h2, _⟩ := (mem_ready hs).1 hi
      exact absurd (hall i h1) h2
  | succ fuel ih =>
    intro l k ts G a w hs hf hm hk hl h hr
    refine ⟨fun hnil => ?_, fun i hi => ?_⟩
    · have hall := ready_nil hs hd.lt hnil
      have hke : k = ops.size := by
        rcases Nat.lt_or_ge k ops.size with h1 | h1
        · exact absurd ((hl k h1).1 (hall k h1)) (Nat.lt_irrefl k)
        · omega
      subst hke
      have : ops.toList.drop ops.size = [] := by simp
      rw [this] at h
      exact hQ ts G a w h hr
    · obtain ⟨hi1, hi2, hi3⟩ := (mem_ready hs).1 hi
      have hik : k ≤ i := Nat.le_of_not_lt fun hlt => hi2 ((hl i hi1).2 hlt)
      have hc : closed ops l := fun q hq hlq e he => (hl e (by have := hd.lt q hq e he; omega)).2 (by have := hd.lt q hq e he; have := (hl q hq).1 hlq; omega)
      have hik2 : i = k := by
        rcases Nat.lt_or_ge k i with h1 | h1
        · have := reach_listed hc hd.lt 2 i k hi1 hi3 (hd.tail i (by omega) hi1 k h1)
          exact absurd ((hl k (by omega)).1 this) (Nat.lt_irrefl k)
        · omega
      subst hik2
      have hdrop : ops.toList.drop i = ops[i] :: ops.toList.drop (i + 1) := by
        rw [List.drop_eq_getElem_cons (by simpa using hi1)]; simp
      rw [hdrop] at h
      refine SpecG.sound h (Array.getElem?_eq_getElem hi1) hr fun ts' G' a' w' hK hr' => ?_
      refine ih (l.setIfInBounds i true) (i + 1) ts' G' a' w' (by simp [hs]) (by have := left_set hs hi1 hi2; omega) (by omega) hi1 (fun j hj => ?_) hK hr'
      rw [listed_set (by omega), hl j hj]
      omega


/-- F, with another state's at the slots of a list. -/
def mix (bad : List Nat) (J F : TS) : TS :=
  { n := F.n
    tmp := fun t => if bad.contains t then J.tmp t else F.tmp t
    gen := fun t => if bad.contains t then J.gen t else F.gen t
    obj := fun t => if bad.contains t then J.obj t else F.obj t }

theorem mix_in {bad : List Nat} {J F : TS} {t : Nat} (h : bad.contains t = true) : SameSlot (mix bad J F) J t := by simp only [SameSlot, mix, h, if_true, and_self]
theorem mix_out {bad : List Nat} {J F : TS} {t : Nat} (h : bad.contains t = false) : SameSlot (mix bad J F) F t := by simp only [SameSlot, mix, h, Bool.false_eq_true, if_false, and_self]
theorem SameSlot.symm {a b : TS} {t : Nat} (h : SameSlot a b t) : SameSlot b a t := ⟨h.1.symm, h.2.1.symm, h.2.2.symm⟩
theorem SameSlot.trans {a b c : TS} {t : Nat} (h : SameSlot a b t) (k : SameSlot b c t) : SameSlot a c t := ⟨h.1.trans k.1, h.2.1.trans k.2.1, h.2.2.trans k.2.2⟩
theorem SameSlot.rfl' {a : TS} {t : Nat} : SameSlot a a t := ⟨rfl, rfl, rfl⟩

/-- What the state is, when so many of the operations have been carried out: each slot as behind the last one that turns it. -/
def DrawInv (m : Nat) (wr : List (List Nat)) (F : Nat → TS) (l : Array Bool) (ts : TS) : Prop :=
  ts.n = (F 0).n ∧ ∀ t k, k ≤ m → (∀ j, j < k → t ∈ wr.getD j [] → listedIs l j) → (∀ j, k ≤ j → j < m → t ∈ wr.getD j [] → ¬ listedIs l j) → SameSlot ts (F k) t

theorem seq_same {m : Nat} {wr : List (List Nat)} {F : Nat → TS} (hF : ∀ i, i < m → ∀ t, t ∉ wr.getD i [] → SameSlot (F (i + 1)) (F i) t) {t : Nat} : ∀ (q i : Nat), i + q ≤ m → (∀ j, i ≤ j → j < i + q → t ∉ wr.getD j []) → SameSlot (F (i + q)) (F i) t
  | 0, _, _, _ => SameSlot.rfl'
  | q + 1, i, h, hj => (hF (i + q) (by omega) t (hj (i + q) (by omega) (by omega))).trans (seq_same hF q i (by omega) fun j h1 h2 => hj j h1 (by omega))

theorem draw_pre {ops : Array Oper} {m : Nat} {wr bads : List (List Nat)} (hd : DrawOk ops m wr bads) {K : TS → Prop} {Q : Exit → Act → World → Prop} {E : Env} (hQ : ∀ ts' G' a' w', K ts' → Rel E ts' G' a' w' → Q .normal a' w')
    {F : Nat → TS} (hn : ∀ k, k ≤ m → (F k).n = (F 0).n) (hF : ∀ i, i < m → ∀ t, t ∉ wr.getD i [] → SameSlot (F (i + 1)) (F i) t)
    (hop : ∀ i (hi : i < ops.size), i < m → ∀ ts1 : TS, ts1.n = (F 0).n → (∀ t, (bads.getD i []).contains t = false → SameSlot ts1 (F i) t) → SpecG P ops ops[i] ts1 (fun ts' => ts' = mix (wr.getD i []) (F (i + 1)) ts1))
    (htail : SpecOs P ops K (ops.toList.drop m) (F m)) :
    ∀ (fuel : Nat) (l : Array Bool) (ts : TS) (G : Ghost) (a : Act) (w : World), l.size = ops.size → left ops l ≤ fuel → closed ops l → (∀ j, j < ops.size → m ≤ j → ¬ listedIs l j) →
      DrawInv m wr F l ts → Rel E ts G a w → wpAny P .any ops Q fuel l a w := by
  have sameF : ∀ (l : Array Bool) (ts : TS), (∀ j, j < m → listedIs l j) → DrawInv m wr F l ts → ts = F m := fun l ts hall hi =>
    ts_ext (by rw [hi.1, hn m (Nat.le_refl _)]) fun t => hi.2 t m (Nat.le_refl _) (fun j hj _ => hall j hj) fun j h1 h2 => by omega
  intro fuel
  induction fuel with
  | zero =>
    intro l ts G a w hs hf hc htl hinv hr
    have hall : ∀ j, j < ops.size → listedIs l j := fun j hj => by
      by_cases hx : listedIs l j
      · exact hx
      · have := left_pos hj hx; omega
    have hme : m = ops.size := by
      rcases Nat.lt_or_ge m ops.size with h | h
      · exact absurd (hall m h) (htl m h (Nat.le_refl _))
      · have := hd.le; omega
    have heq := sameF l ts (fun j hj => hall j (by have := hd.le; omega)) hinv
    subst heq
    have hdr : ops.toList.drop m = [] := by rw [hme]; simp
    rw [hdr] at htail
    refine ⟨?_, hQ _ G a w htail hr⟩
    by_cases e : Region.ready .any ops l = []
    · exact e
    · obtain ⟨i, hi⟩ := List.exists_mem_of_ne_nil _ e
      obtain ⟨q1, q2, _⟩ := (mem_ready hs).1 hi
      exact absurd (hall i q1) q2
  | succ fuel ih =>
    intro l ts G a w hs hf hc htl hinv hr
    refine ⟨fun hnil => ?_, fun i hi => ?_⟩
    · have hall := ready_nil hs hd.lt hnil
      have hme : m = ops.size := by
        rcases Nat.lt_or_ge m ops.size with h | h
        · exact absurd (hall m h) (htl m h (Nat.le_refl _))
        · have := hd.le; omega
      have heq := sameF l ts (fun j hj => hall j (by have := hd.le; omega)) hinv
      subst heq
      have hdr : ops.toList.drop m = [] := by rw [hme]; simp
      rw [hdr] at htail
      exact hQ _ G a w htail hr
    · obtain ⟨hi1, hi2, hi3⟩ := (mem_ready hs).1 hi
      have hbefore : ∀ j, reach ops 2 i j = true → listedIs l j := fun j h => reach_listed hc hd.lt 2 i j hi1 hi3 h
      have hnot : ∀ j, j < ops.size → reach ops 2 j i = true → ¬ listedIs l j := fun j hj h hlj => hi2 (reach_listed hc hd.lt 2 j i hj (hc j hj hlj) h)
      by_cases him : i < m
      · have hord : ∀ j, j < m → i ≠ j → ∀ t ∈ wr.getD j [], (bads.getD i []).contains t = false → (j < i → listedIs l j) ∧ (i < j → ¬ listedIs l j) := by
          intro j hj hne t ht hb
          rcases hd.ord i him j hj hne with ⟨h1, h2⟩ | ⟨h1, h2⟩ | h
          · exact ⟨fun _ => hbefore j h2, fun h => by omega⟩
          · exact ⟨fun h => by omega, fun _ => hnot j (by have := hd.le; omega) h2⟩
          · rw [h t ht] at hb; cases hb
        have hreads : ∀ t, (bads.getD i []).contains t = false → SameSlot ts (F i) t := fun t ht =>
          hinv.2 t i (by omega) (fun j hj hw => (hord j (by omega) (by omega) t hw ht).1 hj) fun j h1 h2 hw => by
            by_cases hji : i = j
            · subst hji; exact hi2
            · exact (hord j h2 hji t hw ht).2 (by omega)
        refine SpecG.sound (hop i hi1 him ts hinv.1 hreads) (Array.getElem?_eq_getElem hi1) hr fun ts' G' a' w' hK hr' => ?_
        subst hK
        refine ih (l.setIfInBounds i true) (mix (wr.getD i []) (F (i + 1)) ts) G' a' w' (by simp [hs]) (by have := left_set hs hi1 hi2; omega) ?_ ?_ ⟨hinv.1, fun t k hk h1 h2 => ?_⟩ hr'
        · intro q hq hlq e he
          rw [listed_set (by omega)] at hlq ⊢
          rcases hlq with rfl | hlq
          · exact .inr (hi3 e he)
          · exact .inr (hc q hq hlq e he)
        · intro j hj hmj hlj
          rw [listed_set (by omega)] at hlj
          rcases hlj with rfl | hlj
          · omega
          · exact htl j hj hmj hlj
        · by_cases htw : t ∈ wr.getD i []
          · have hik : i < k := by
              rcases Nat.lt_or_ge i k with h | h
              · exact h
              · exact absurd ((listed_set (by omega)).2 (.inl rfl)) (h2 i h him htw)
            have a1 : SameSlot (mix (wr.getD i []) (F (i + 1)) ts) (F (i + 1)) t := mix_in (List.contains_iff_mem.2 htw)
            refine a1.trans (SameSlot.symm ?_)
            have := seq_same hF (t := t) (k - (i + 1)) (i + 1) (by omega) fun j h3 h4 hw => by
              have hlj := (listed_set (i := i) (by omega)).1 (h1 j (by omega) hw)
              rcases hlj with h | h
              · omega
              · exact (hord j (by omega) (by omega) t hw (hd.own i him t htw)).2 (by omega) h
            rwa [show i + 1 + (k - (i + 1)) = k by omega] at this
          · have a1 : SameSlot (mix (wr.getD i []) (F (i + 1)) ts) ts t := mix_out (by
              cases h : (wr.getD i []).contains t with
              | false => rfl
              | true => exact absurd (List.contains_iff_mem.1 h) htw)
            refine a1.trans (hinv.2 t k hk (fun j hj hw => ?_) fun j h3 h4 hw hl => h2 j h3 h4 hw ((listed_set (by omega)).2 (.inr hl)))
            rcases (listed_set (i := i) (by omega)).1 (h1 j hj hw) with h | h
            · subst h; exact absurd hw htw
            · exact h
      · have hmi : m ≤ i := Nat.le_of_not_lt him
        have hall : ∀ j, j < i → listedIs l j := fun j hj => hbefore j (hd.tail i hmi hi1 j hj)
        have hmi2 : m = i := by
          rcases Nat.lt_or_ge m i with h | h
          · exact absurd (hall m h) (htl m (by omega) (Nat.le_refl _))
          · omega
        subst hmi2
        have heq := sameF l ts (fun j hj => hall j hj) hinv
        subst heq
        have hdrop : ops.toList.drop m = ops[m] :: ops.toList.drop (m + 1) := by
          rw [List.drop_eq_getElem_cons (by simpa using hi1)]; simp
        rw [hdrop] at htail
        refine SpecG.sound htail (Array.getElem?_eq_getElem hi1) hr fun ts' G' a' w' hK hr' => ?_
        refine draw_tail hd hQ fuel (l.setIfInBounds m true) (m + 1) ts' G' a' w' (by simp [hs]) (by have := left_set hs hi1 hi2; omega) (by omega) hi1 (fun j hj => ?_) hK hr'
        rw [listed_set (by omega)]
        constructor
        · rintro (rfl | hlj)
          · omega
          · rcases Nat.lt_or_ge j m with h | h
            · omega
            · exact absurd hlj (htl j hj h)
        · intro hj2
          rcases Nat.lt_or_ge j m with h | h
          · exact .inr (hall j h)
          · exact .inl (by omega)

end Go.Proofs.YtbggigdchkiffaaDoor.Lg

/- Regions that draw their order, in the form in which a proof takes them: each operation of the first part once, over a state in which what need not be there yet is anything. -/
namespace Go.Proofs.YtbggigdchkiffaaDoor.Lg
set_option linter.unusedVariables false
set_option linter.unusedSimpArgs false
open Go
variable {P : Program}

def PreOk (P : Program) (ops : Array Oper) (wr bads : List (List Nat)) (C : TS → Prop) : Nat → List Oper → TS → Prop
  | _, [], F => C F
  | i, o :: l, F => ∃ F', F'.n = F.n ∧ (∀ t, t ∉ wr.getD i [] → SameSlot F' F t) ∧ (∀ J, SpecG P ops o (mix (bads.getD i []) J F) (fun ts' => ts' = mix (wr.getD i []) F' (mix (bads.getD i []) J F))) ∧ PreOk P ops wr bads C (i + 1) l F'

/-- Of a turn of the state: it touches these slots alone, and asks nothing of the others. -/
structure Loc (ws : List Nat) (g : TS → TS) : Prop where
  n : ∀ A, (g A).n = A.n
  off : ∀ A t, t ∉ ws → SameSlot (g A) A t
  on : ∀ A B t, t ∈ ws → (∀ s ∈ ws, SameSlot A B s) → SameSlot (g A) (g B) t

theorem Loc.put (d : Nat) (x : AV) : Loc [d] (fun A => A.put d x) where
  n _ := rfl
  off A t h := by
    have h : t ≠ d := by simpa using h
    simp [SameSlot, TS.put, upd, h]
  on A B t h k := by
    have h : t = d := by simpa using h
    subst h
    have := k t (by simp)
    exact ⟨by simp [TS.put], this.2.1, this.2.2⟩

theorem Loc.new (d : Nat) (ob : Ob) : Loc [d] (fun A => A.new d ob) where
  n _ := rfl
  off A t h := by
    have h : t ≠ d := by simpa using h
    simp [SameSlot, TS.new, upd, h]
  on A B t h k := by
    have h : t = d := by simpa using h
    subst h
    have := k t (by simp)
    refine ⟨this.1, ?_, by simp [TS.new]⟩
    show (A.new t ob).gen t = (B.new t ob).gen t
    simp only [TS.new, upd_same, this.2.1]

theorem Loc.setObj (d : Nat) (ob : Ob) : Loc [d] (fun A => A.setObj d ob) where
  n _ := rfl
  off A t h := by
    have h : t ≠ d := by simpa using h
    simp [SameSlot, TS.setObj, upd, h]
  on A B t h k := by
    have h : t = d := by simpa using h
    subst h
    have := k t (by simp)
    exact ⟨this.1, this.2.1, by simp [TS.setObj]⟩

theorem Loc.kill (d : Nat) : Loc [d] (fun A => A.kill d) where
  n _ := rfl
  off A t h := by
    have h : t ≠ d := by simpa using h
    simp [SameSlot, TS.kill, TS.setObj, upd, h]
  on A B t h k := by
    have h : t = d := by simpa using h
    subst h
    have := k t (by simp)
    exact ⟨this.1, this.2.1, by simp [TS.kill, TS.setObj]⟩

theorem Loc.comp {ws : List Nat} {g h : TS → TS} (hg : Loc ws g) (hh : Loc ws h) : Loc ws (fun A => h (g A)) where
  n A := (hh.n _).trans (hg.n A)
  off A t ht := (hh.off _ t ht).trans (hg.off A t ht)
  on A B t ht k := hh.on _ _ t ht fun s hs => hg.on A B s hs k

theorem Loc.wide {ws vs : List Nat} {g : TS → TS} (hg : Loc ws g) (h : ∀ t ∈ ws, t ∈ vs) : Loc vs g where
  n := hg.n
  off A t ht := hg.off A t fun k => ht (h t k)
  on A B t ht k := by
    by_cases hw : t ∈ ws
    · exact hg.on A B t hw fun s hs => k s (h s hs)
    · exact ((hg.off A t hw).trans (k t ht)).trans (hg.off B t hw).symm

theorem loc_mix {ws bad : List Nat} {g : TS → TS} (hg : Loc ws g) (hb : ws.all (fun t => !bad.contains t) = true) (J F : TS) : g (mix bad J F) = mix ws (g F) (mix bad J F) := by
  have hb : ∀ t ∈ ws, bad.contains t = false := fun t ht => by
    have := List.all_eq_true.1 hb t ht
    simpa using this
  refine ts_ext (hg.n _) fun t => ?_
  by_cases ht : t ∈ ws
  · exact (hg.on _ F t ht fun s hs => mix_out (hb s hs)).trans (mix_in (List.contains_iff_mem.2 ht)).symm
  · refine (hg.off _ t ht).trans (mix_out ?_).symm
    cases h : ws.contains t with
    | false => rfl
    | true => exact absurd (List.contains_iff_mem.1 h) ht

section
variable {ops : Array Oper} {wr bads : List (List Nat)} {C : TS → Prop} {i : Nat} {o : Oper} {l : List Oper} {F : TS}

theorem PreOk.nil (h : C F) : PreOk P ops wr bads C i [] F := h

theorem PreOk.loc {ws bad : List Nat} {g : TS → TS} (hw : wr.getD i [] = ws) (hbd : bads.getD i [] = bad) (hg : Loc ws g) (hb : ws.all (fun t => !bad.contains t) = true)
    (h : ∀ J, SpecG P ops o (mix bad J F) (fun ts' => ts' = g (mix bad J F))) (hl : PreOk P ops wr bads C (i + 1) l (g F)) : PreOk P ops wr bads C i (o :: l) F := by
  subst hw hbd
  refine ⟨g F, hg.n F, fun t ht => hg.off F t ht, fun J => ?_, hl⟩
  rw [← loc_mix hg hb]
  exact h J

end

theorem pre_run {ops : Array Oper} {wr bads : List (List Nat)} {m : Nat} (hle : m ≤ ops.size) {C : TS → Prop} : ∀ (k i : Nat) (F : TS), i + k = m → PreOk P ops wr bads C i ((ops.toList.take m).drop i) F →
    ∃ Fs : Nat → TS, Fs i = F ∧ C (Fs m) ∧ ∀ q (hq : q < ops.size), i ≤ q → q < m → (Fs (q + 1)).n = (Fs q).n ∧ (∀ t, t ∉ wr.getD q [] → SameSlot (Fs (q + 1)) (Fs q) t) ∧
      ∀ J, SpecG P ops ops[q] (mix (bads.getD q []) J (Fs q)) (fun ts' => ts' = mix (wr.getD q []) (Fs (q + 1)) (mix (bads.getD q []) J (Fs q)))
  | 0, i, F, hik, h => by
    have : (ops.toList.take m).drop i = [] := List.drop_eq_nil_of_le (by simp; omega)
    rw [this] at h
    exact ⟨fun _ => F, rfl, h, fun q _ h1 h2 => by omega⟩
  | k + 1, i, F, hik, h => by
    have hi : i < ops.size := by omega
    have hdrop : (ops.toList.take m).drop i = ops[i] :: (ops.toList.take m).drop (i + 1) := by
      rw [List.drop_eq_getElem_cons (by simp; omega)]
      simp
    rw [hdrop] at h
    obtain ⟨F', h1, h2, h3, h4⟩ := h
    obtain ⟨Fs, g1, g2, g3⟩ := pre_run hle k (i + 1) F' (by omega) h4
    refine ⟨fun q => if q ≤ i then F else Fs q, by simp, by simp only [show ¬ m ≤ i by omega, if_false]; exact g2, fun q hq hq1 hq2 => ?_⟩
    by_cases hqi : q = i
    · subst hqi
      simp only [Nat.le_refl, if_true, show ¬ q + 1 ≤ q by omega, if_false, g1]
      exact ⟨h1, h2, h3⟩
    · simp only [show ¬ q ≤ i by omega, show ¬ q + 1 ≤ i by omega, if_false]
      exact g3 q hq (by omega) hq2

theorem SpecC.drawP (hmix : P.follows .mixedOrders = true) (id : Nat) {ops : Array Oper} {ts : TS} {Q : Exit → TS → Prop} (m : Nat) (wr bads : List (List Nat)) (hc : drawChk ops m wr bads = true)
    (h : PreOk P ops wr bads (SpecOs P ops (Q .normal) (ops.toList.drop m)) 0 (ops.toList.take m) ts) : SpecC P (.region id ops true) ts Q := by
  have hd := drawChk_spec hc
  obtain ⟨Fs, g1, g2, g3⟩ := pre_run hd.le (C := SpecOs P ops (Q .normal) (ops.toList.drop m)) m 0 ts (by omega) (by simpa using h)
  have hn : ∀ k, k ≤ m → (Fs k).n = (Fs 0).n := by
    intro k
    induction k with
    | zero => intro _; rfl
    | succ k ih => intro hk; exact (g3 k (by have := hd.le; omega) (Nat.zero_le _) (by omega)).1.trans (ih (by omega))
  intro E G a w hr
  refine wp_region_any hmix ?_
  have hlist : ∀ j, ¬ listedIs (Array.replicate ops.size false) j := fun j => by
    unfold listedIs
    by_cases h : j < ops.size <;> simp [h]
  refine draw_pre hd (E := E) (K := Q .normal) (Q := fun ex a' w' => ∃ ts' G', Q ex ts' ∧ Rel E ts' G' a' w') (fun ts' G' a' w' hK hr' => ⟨ts', G', hK, hr'⟩) hn
    (fun i hi t ht => (g3 i (by have := hd.le; omega) (Nat.zero_le _) hi).2.1 t ht) (fun i hi him ts1 hn1 hag => ?_) g2 ops.size _ ts G a { w with drawn := w.drawn + 1 } (by simp)
    (by unfold left; exact Nat.le_trans (List.length_filter_le _ _) (by simp)) (fun i _ hl => absurd hl (hlist i)) (fun j _ _ => hlist j) ⟨by rw [g1], fun t k hk h1 h2 => ?_⟩ hr.drew
  · have := (g3 i hi (Nat.zero_le _) him).2.2 ts1
    have he : mix (bads.getD i []) ts1 (Fs i) = ts1 := by
      refine ts_ext (by show (Fs i).n = ts1.n; rw [hn i (by omega), hn1]) fun t => ?_
      cases hb : (bads.getD i []).contains t with
      | true => exact mix_in hb
      | false => exact (mix_out hb).trans (hag t hb).symm
    rw [he] at this
    exact this
  · have hF : ∀ i, i < m → ∀ t, t ∉ wr.getD i [] → SameSlot (Fs (i + 1)) (Fs i) t := fun i hi t ht => (g3 i (by have := hd.le; omega) (Nat.zero_le _) hi).2.1 t ht
    have := seq_same hF (t := t) k 0 (by omega) fun j _ h4 hw => hlist j (h1 j (by omega) hw)
    rw [Nat.zero_add, g1] at this
    exact this.symm

section
variable (bad : List Nat) (J F : TS) (t : Nat)
@[go_sem] theorem n_mix : (mix bad J F).n = F.n := rfl
@[go_sem] theorem tmp_mix : (mix bad J F).tmp t = if bad.contains t then J.tmp t else F.tmp t := rfl
@[go_sem] theorem gen_mix : (mix bad J F).gen t = if bad.contains t then J.gen t else F.gen t := rfl
@[go_sem] theorem obj_mix : (mix bad J F).obj t = if bad.contains t then J.obj t else F.obj t := rfl
end

end Go.Proofs.YtbggigdchkiffaaDoor.Lg

/- Typed data: Lean types for the program's structs, and how a list of them reads as a slice. -/
namespace Go.Proofs.YtbggigdchkiffaaDoor.Lg
set_option linter.unusedVariables false
set_option linter.unusedSimpArgs false
open Go

class Dat (α : Type) where
  av : α → AV
  sz : Nat
  len : ∀ x, (av x).cells.length = sz
  pure : ∀ x, (av x).pure = true
  nrm : ∀ x, (av x).nrm = av x
  one : ∀ x, (av x).cells.all AV.one = true
  known : ∀ x, (av x).known = true

def avs {α : Type} [Dat α] (l : List α) : List AV := l.map Dat.av

section
variable {α : Type} [Dat α] (l r : List α)
theorem pureL_map : AV.pure.pureL (avs l) = true := by
  induction l with
  | nil => rfl
  | cons x r ih => simp only [avs, List.map_cons, AV.pure.pureL, Dat.pure, Bool.true_and]; exact ih
theorem nrmL_map : AV.nrm.nrmL (avs l) = avs l := by
  induction l with
  | nil => rfl
  | cons x r ih => simp only [avs, List.map_cons, AV.nrm.nrmL, Dat.nrm]; exact congrArg _ ih
@[go_sem] theorem pureL_avs : AV.pure.pureL (avs l) = true := pureL_map l
@[go_sem] theorem nrmL_avs : AV.nrm.nrmL (avs l) = avs l := nrmL_map l
@[go_sem] theorem len_avs : (avs l).length = l.length := by simp [avs]
theorem avs_nil : avs ([] : List α) = [] := rfl
theorem avs_append : avs (l ++ r) = avs l ++ avs r := by simp [avs]
theorem avs_cons (x : α) : avs (x :: r) = Dat.av x :: avs r := rfl
@[go_sem] theorem avs_take (n : Nat) : (avs l).take n = avs (l.take n) := by simp [avs]
@[go_sem] theorem avs_drop (n : Nat) : (avs l).drop n = avs (l.drop n) := by simp [avs]
theorem avs_set (n : Nat) (x : α) : (avs l).set n (Dat.av x) = avs (l.set n x) := by simp [avs]
@[go_sem] theorem avs_get (n : Nat) (h : n < l.length) : (avs l).getD n .any = Dat.av l[n] := by simp [avs, h]
theorem avs_get? (n : Nat) (x : α) (h : l[n]? = some x) : (avs l).getD n .any = Dat.av x := by simp [avs, h]
@[go_sem] theorem cellsLen_avs (n : Nat) (h : Dat.sz α = n) : (∀ y ∈ avs l, y.cells.length = n) ↔ True := by
  simp only [iff_true]
  intro y hy
  obtain ⟨x, _, rfl⟩ := List.mem_map.1 hy
  rw [Dat.len, h]
@[go_sem] theorem ones_avs : (∀ y ∈ avs l, y.cells.all AV.one = true) ↔ True := by
  simp only [iff_true]
  intro y hy
  obtain ⟨x, _, rfl⟩ := List.mem_map.1 hy
  exact Dat.one x
end

instance : Dat Int where
  av n := .int .i64 n
  sz := 1
  len _ := rfl
  pure _ := rfl
  nrm _ := rfl
  one _ := rfl
  known _ := rfl
instance : Dat UInt8 where
  av n := .int .u8 n.toNat
  sz := 1
  len _ := rfl
  pure _ := rfl
  nrm _ := rfl
  one _ := rfl
  known _ := rfl
instance : Dat Bool where
  av n := .bool n
  sz := 1
  len _ := rfl
  pure _ := rfl
  nrm _ := rfl
  one _ := rfl
  known _ := rfl
instance : Dat (List UInt8) where
  av n := .str n
  sz := 1
  len _ := rfl
  pure _ := rfl
  nrm _ := rfl
  one _ := rfl
  known _ := rfl
@[go_sem] theorem av_int (n : Int) : Dat.av n = .int .i64 n := rfl
@[go_sem] theorem av_bool (b : Bool) : Dat.av b = .bool b := rfl
@[go_sem] theorem av_u8 (b : UInt8) : Dat.av b = .int .u8 b.toNat := rfl
@[go_sem] theorem av_str (b : List UInt8) : Dat.av b = .str b := rfl
@[go_sem] theorem set_Int (l : List Int) (n : Nat) (a : Int) : (avs l).set n (.int .i64 a) = avs (l.set n a) := avs_set l n a
@[go_sem] theorem set_Bool (l : List Bool) (n : Nat) (a : Bool) : (avs l).set n (.bool a) = avs (l.set n a) := avs_set l n a
@[go_sem] theorem set_Str (l : List (List UInt8)) (n : Nat) (a : List UInt8) : (avs l).set n (.str a) = avs (l.set n a) := avs_set l n a
@[go_sem] theorem set_U8 (l : List UInt8) (n : Nat) (a : UInt8) : (avs l).set n (.int .u8 a.toNat) = avs (l.set n a) := avs_set l n a
@[go_sem] theorem snoc_Int (l : List Int) (a : Int) : avs l ++ [.int .i64 a] = avs (l ++ [a]) := by rw [avs_append]; rfl
@[go_sem] theorem snoc_Bool (l : List Bool) (a : Bool) : avs l ++ [.bool a] = avs (l ++ [a]) := by rw [avs_append]; rfl
@[go_sem] theorem snoc_Str (l : List (List UInt8)) (a : List UInt8) : avs l ++ [.str a] = avs (l ++ [a]) := by rw [avs_append]; rfl
@[go_sem] theorem snoc_U8 (l : List UInt8) (a : UInt8) : avs l ++ [.int .u8 a.toNat] = avs (l ++ [a]) := by rw [avs_append]; rfl
@[go_sem] theorem avs_app {α : Type} [Dat α] (l r : List α) : avs l ++ avs r = avs (l ++ r) := (avs_append l r).symm
@[go_sem] theorem flatL_Int : ∀ l : List Int, AV.flat.flatL (avs l) = true
  | [] => rfl
  | _ :: r => by simp only [avs_cons, AV.flat.flatL, flatL_Int r, av_int, AV.flat, Bool.and_self]
@[go_sem] theorem flatL_Str : ∀ l : List (List UInt8), AV.flat.flatL (avs l) = true
  | [] => rfl
  | _ :: r => by simp only [avs_cons, AV.flat.flatL, flatL_Str r, av_str, AV.flat, Bool.and_self]
@[go_sem] theorem sz_int : Dat.sz Int = 1 := rfl
@[go_sem] theorem sz_u8 : Dat.sz UInt8 = 1 := rfl
@[go_sem] theorem sz_bool : Dat.sz Bool = 1 := rfl
@[go_sem] theorem sz_str : Dat.sz (List UInt8) = 1 := rfl
@[go_sem] theorem cast0 : ((0 : Nat) : Int) = 0 := rfl
@[go_sem] theorem natneg (k : Nat) : ((k : Int) < 0) = False := by simp only [eq_iff_iff, iff_false]; omega
@[go_sem] theorem getD_set (l : List AV) (i : Nat) (x : AV) (h : i < l.length) : (l.set i x).getD i .any = x := by simp [h]
@[go_sem] theorem getD_set_ne (l : List AV) (i j : Nat) (x : AV) (h : ¬ i = j) : (l.set i x).getD j .any = l.getD j .any := by simp [List.getElem?_set_ne h]
@[go_sem] theorem length_set' (l : List AV) (i : Nat) (x : AV) : (l.set i x).length = l.length := by simp
@[go_sem] theorem toNat_pred (n : Nat) : ((n : Int) - 1).toNat = n - 1 := by omega
@[go_sem] theorem pred_neg (n : Nat) : ((n : Int) - 1 < 0) = ¬ 0 < n := by apply propext; omega
@[go_sem] theorem pred_nonneg (n : Nat) : (0 ≤ (n : Int) - 1) = (0 < n) := by apply propext; omega
@[go_sem] theorem pred_ltI (n : Nat) : ((n : Int) - 1 < n) = True := by simp only [eq_iff_iff, iff_true]; omega
@[go_sem] theorem pred_ltN (n : Nat) (h : 0 < n) : (n - 1 < n) = True := by simp only [eq_iff_iff, iff_true]; omega
@[go_sem] theorem pred_ltI2 (k n : Nat) (h : k ≤ n) : ((k : Int) - 1 < n) = True := by simp only [eq_iff_iff, iff_true]; omega
@[go_sem] theorem pred_ltN2 (k n : Nat) (h : k ≤ n) (h0 : 0 < k) : (k - 1 < n) = True := by simp only [eq_iff_iff, iff_true]; omega
theorem w64_pred2 {k n : Nat} (h : k ≤ n) (h0 : 0 < k) (hn : Small n) : IntKind.i64.wrap ((k : Int) - 1 - 1) = ((k - 1 : Nat) : Int) - 1 := by
  unfold Small at hn
  rw [IntWalk.i64_in _ (by omega)]
  omega
theorem lit_lt (k n : Nat) : ((@OfNat.ofNat Int k instOfNat) < (n : Int)) = ((@OfNat.ofNat Nat k (instOfNatNat k)) < n) := propext (show ((k : Nat) : Int) < n ↔ k < n from Int.ofNat_lt)
theorem lit_le (k n : Nat) : ((@OfNat.ofNat Int k instOfNat) ≤ (n : Int)) = ((@OfNat.ofNat Nat k (instOfNatNat k)) ≤ n) := propext (show ((k : Nat) : Int) ≤ n ↔ k ≤ n from Int.ofNat_le)
theorem lt_lit (k n : Nat) : ((n : Int) < (@OfNat.ofNat Int k instOfNat)) = (n < (@OfNat.ofNat Nat k (instOfNatNat k))) := propext (show (n : Int) < ((k : Nat) : Int) ↔ n < k from Int.ofNat_lt)
theorem le_lit (k n : Nat) : ((n : Int) ≤ (@OfNat.ofNat Int k instOfNat)) = (n ≤ (@OfNat.ofNat Nat k (instOfNatNat k))) := propext (show (n : Int) ≤ ((k : Nat) : Int) ↔ n ≤ k from Int.ofNat_le)
theorem eq_lit (k n : Nat) : ((n : Int) = (@OfNat.ofNat Int k instOfNat)) = (n = (@OfNat.ofNat Nat k (instOfNatNat k))) := propext (show (n : Int) = ((k : Nat) : Int) ↔ n = k from Int.ofNat_inj)
@[go_sem] theorem lit1a (n : Nat) : ((1 : Int) < n) = (1 < n) := lit_lt 1 n
@[go_sem] theorem lit1b (n : Nat) : ((1 : Int) ≤ n) = (1 ≤ n) := lit_le 1 n
@[go_sem] theorem lit1c (n : Nat) : ((n : Int) < 1) = (n < 1) := lt_lit 1 n
@[go_sem] theorem lit1d (n : Nat) : ((n : Int) ≤ 1) = (n ≤ 1) := le_lit 1 n
@[go_sem] theorem lit1e (n : Nat) : ((n : Int) = 1) = (n = 1) := eq_lit 1 n
@[go_sem] theorem lit2a (n : Nat) : ((2 : Int) < n) = (2 < n) := lit_lt 2 n
@[go_sem] theorem lit2b (n : Nat) : ((2 : Int) ≤ n) = (2 ≤ n) := lit_le 2 n
@[go_sem] theorem lit2c (n : Nat) : ((n : Int) < 2) = (n < 2) := lt_lit 2 n
@[go_sem] theorem lit2d (n : Nat) : ((n : Int) ≤ 2) = (n ≤ 2) := le_lit 2 n
@[go_sem] theorem lit2e (n : Nat) : ((n : Int) = 2) = (n = 2) := eq_lit 2 n
@[go_sem] theorem lit3a (n : Nat) : ((3 : Int) < n) = (3 < n) := lit_lt 3 n
@[go_sem] theorem lit3b (n : Nat) : ((3 : Int) ≤ n) = (3 ≤ n) := lit_le 3 n
@[go_sem] theorem lit3c (n : Nat) : ((n : Int) < 3) = (n < 3) := lt_lit 3 n
@[go_sem] theorem lit3d (n : Nat) : ((n : Int) ≤ 3) = (n ≤ 3) := le_lit 3 n
@[go_sem] theorem lit3e (n : Nat) : ((n : Int) = 3) = (n = 3) := eq_lit 3 n
@[go_sem] theorem lit4a (n : Nat) : ((4 : Int) < n) = (4 < n) := lit_lt 4 n
@[go_sem] theorem lit4b (n : Nat) : ((4 : Int) ≤ n) = (4 ≤ n) := lit_le 4 n
@[go_sem] theorem lit4c (n : Nat) : ((n : Int) < 4) = (n < 4) := lt_lit 4 n
@[go_sem] theorem lit4d (n : Nat) : ((n : Int) ≤ 4) = (n ≤ 4) := le_lit 4 n
@[go_sem] theorem lit4e (n : Nat) : ((n : Int) = 4) = (n = 4) := eq_lit 4 n
@[go_sem] theorem lit8a (n : Nat) : ((8 : Int) < n) = (8 < n) := lit_lt 8 n
@[go_sem] theorem lit8b (n : Nat) : ((8 : Int) ≤ n) = (8 ≤ n) := lit_le 8 n
@[go_sem] theorem lit8c (n : Nat) : ((n : Int) < 8) = (n < 8) := lt_lit 8 n
@[go_sem] theorem lit8d (n : Nat) : ((n : Int) ≤ 8) = (n ≤ 8) := le_lit 8 n
@[go_sem] theorem lit8e (n : Nat) : ((n : Int) = 8) = (n = 8) := eq_lit 8 n
@[go_sem] theorem lit12a (n : Nat) : ((12 : Int) < n) = (12 < n) := lit_lt 12 n
@[go_sem] theorem lit12b (n : Nat) : ((12 : Int) ≤ n) = (12 ≤ n) := lit_le 12 n
@[go_sem] theorem lit12c (n : Nat) : ((n : Int) < 12) = (n < 12) := lt_lit 12 n
@[go_sem] theorem lit12d (n : Nat) : ((n : Int) ≤ 12) = (n ≤ 12) := le_lit 12 n
@[go_sem] theorem lit12e (n : Nat) : ((n : Int) = 12) = (n = 12) := eq_lit 12 n
@[go_sem] theorem lit16a (n : Nat) : ((16 : Int) < n) = (16 < n) := lit_lt 16 n
@[go_sem] theorem lit16b (n : Nat) : ((16 : Int) ≤ n) = (16 ≤ n) := lit_le 16 n
@[go_sem] theorem lit16c (n : Nat) : ((n : Int) < 16) = (n < 16) := lt_lit 16 n
@[go_sem] theorem lit16d (n : Nat) : ((n : Int) ≤ 16) = (n ≤ 16) := le_lit 16 n
@[go_sem] theorem lit16e (n : Nat) : ((n : Int) = 16) = (n = 16) := eq_lit 16 n
@[go_sem] theorem lit20a (n : Nat) : ((20 : Int) < n) = (20 < n) := lit_lt 20 n
@[go_sem] theorem lit20b (n : Nat) : ((20 : Int) ≤ n) = (20 ≤ n) := lit_le 20 n
@[go_sem] theorem lit20c (n : Nat) : ((n : Int) < 20) = (n < 20) := lt_lit 20 n
@[go_sem] theorem lit20d (n : Nat) : ((n : Int) ≤ 20) = (n ≤ 20) := le_lit 20 n
@[go_sem] theorem lit20e (n : Nat) : ((n : Int) = 20) = (n = 20) := eq_lit 20 n
@[go_sem] theorem lit40a (n : Nat) : ((40 : Int) < n) = (40 < n) := lit_lt 40 n
@[go_sem] theorem lit40b (n : Nat) : ((40 : Int) ≤ n) = (40 ≤ n) := lit_le 40 n
@[go_sem] theorem lit40c (n : Nat) : ((n : Int) < 40) = (n < 40) := lt_lit 40 n
@[go_sem] theorem lit40d (n : Nat) : ((n : Int) ≤ 40) = (n ≤ 40) := le_lit 40 n
@[go_sem] theorem lit40e (n : Nat) : ((n : Int) = 40) = (n = 40) := eq_lit 40 n
@[go_sem] theorem lit60a (n : Nat) : ((60 : Int) < n) = (60 < n) := lit_lt 60 n
@[go_sem] theorem lit60b (n : Nat) : ((60 : Int) ≤ n) = (60 ≤ n) := lit_le 60 n
@[go_sem] theorem lit60c (n : Nat) : ((n : Int) < 60) = (n < 60) := lt_lit 60 n
@[go_sem] theorem lit60d (n : Nat) : ((n : Int) ≤ 60) = (n ≤ 60) := le_lit 60 n
@[go_sem] theorem lit60e (n : Nat) : ((n : Int) = 60) = (n = 60) := eq_lit 60 n
@[go_sem] theorem lit64a (n : Nat) : ((64 : Int) < n) = (64 < n) := lit_lt 64 n
@[go_sem] theorem lit64b (n : Nat) : ((64 : Int) ≤ n) = (64 ≤ n) := lit_le 64 n
@[go_sem] theorem lit64c (n : Nat) : ((n : Int) < 64) = (n < 64) := lt_lit 64 n
@[go_sem] theorem lit64d (n : Nat) : ((n : Int) ≤ 64) = (n ≤ 64) := le_lit 64 n
@[go_sem] theorem lit64e (n : Nat) : ((n : Int) = 64) = (n = 64) := eq_lit 64 n
@[go_sem] theorem lit80a (n : Nat) : ((80 : Int) < n) = (80 < n) := lit_lt 80 n
@[go_sem] theorem lit80b (n : Nat) : ((80 : Int) ≤ n) = (80 ≤ n) := lit_le 80 n
@[go_sem] theorem lit80c (n : Nat) : ((n : Int) < 80) = (n < 80) := lt_lit 80 n
@[go_sem] theorem lit80d (n : Nat) : ((n : Int) ≤ 80) = (n ≤ 80) := le_lit 80 n
@[go_sem] theorem lit80e (n : Nat) : ((n : Int) = 80) = (n = 80) := eq_lit 80 n
@[go_sem] theorem lit100a (n : Nat) : ((100 : Int) < n) = (100 < n) := lit_lt 100 n
@[go_sem] theorem lit100b (n : Nat) : ((100 : Int) ≤ n) = (100 ≤ n) := lit_le 100 n
@[go_sem] theorem lit100c (n : Nat) : ((n : Int) < 100) = (n < 100) := lt_lit 100 n
@[go_sem] theorem lit100d (n : Nat) : ((n : Int) ≤ 100) = (n ≤ 100) := le_lit 100 n
@[go_sem] theorem lit100e (n : Nat) : ((n : Int) = 100) = (n = 100) := eq_lit 100 n
@[go_sem] theorem lit400a (n : Nat) : ((400 : Int) < n) = (400 < n) := lit_lt 400 n
@[go_sem] theorem lit400b (n : Nat) : ((400 : Int) ≤ n) = (400 ≤ n) := lit_le 400 n
@[go_sem] theorem lit400c (n : Nat) : ((n : Int) < 400) = (n < 400) := lt_lit 400 n
@[go_sem] theorem lit400d (n : Nat) : ((n : Int) ≤ 400) = (n ≤ 400) := le_lit 400 n
@[go_sem] theorem lit400e (n : Nat) : ((n : Int) = 400) = (n = 400) := eq_lit 400 n
@[go_sem] theorem lit1000a (n : Nat) : ((1000 : Int) < n) = (1000 < n) := lit_lt 1000 n
@[go_sem] theorem lit1000b (n : Nat) : ((1000 : Int) ≤ n) = (1000 ≤ n) := lit_le 1000 n
@[go_sem] theorem lit1000c (n : Nat) : ((n : Int) < 1000) = (n < 1000) := lt_lit 1000 n
@[go_sem] theorem lit1000d (n : Nat) : ((n : Int) ≤ 1000) = (n ≤ 1000) := le_lit 1000 n
@[go_sem] theorem lit1000e (n : Nat) : ((n : Int) = 1000) = (n = 1000) := eq_lit 1000 n
@[go_sem] theorem lit0e (n : Nat) : ((n : Int) = 0) = (n = 0) := eq_lit 0 n
theorem ilt_t (a b : Int) : (decide (a < b) = true) = (a < b) := by simp
theorem ilt_f (a b : Int) : (decide (a < b) = false) = (¬ a < b) := by simp
theorem ile_t (a b : Int) : (decide (a ≤ b) = true) = (a ≤ b) := by simp
theorem ile_f (a b : Int) : (decide (a ≤ b) = false) = (¬ a ≤ b) := by simp
theorem nlt_t (a b : Nat) : (decide (a < b) = true) = (a < b) := by simp
theorem nlt_f (a b : Nat) : (decide (a < b) = false) = (¬ a < b) := by simp
theorem nle_t (a b : Nat) : (decide (a ≤ b) = true) = (a ≤ b) := by simp
theorem nle_f (a b : Nat) : (decide (a ≤ b) = false) = (¬ a ≤ b) := by simp
theorem w64_nat {i n : Nat} (h : i < n) (hn : Small n) : IntKind.i64.wrap (i + 1 : Int) = ((i + 1 : Nat) : Int) := by
  unfold Small at hn
  rw [IntWalk.i64_in _ (by omega)]
  omega
theorem w64_pred {n : Nat} (hn : Small n) : IntKind.i64.wrap (n - 1 : Int) = (n : Int) - 1 := by
  unfold Small at hn
  rw [IntWalk.i64_in _ (by omega)]

/-! ### A scope in which the run jumps back to a label -/
def jumpK (l : Nat) (J : TS → Prop) (Q : Exit → TS → Prop) : Exit → TS → Prop
  | .goto l', ts => l' = l ∧ J ts
  | e, ts => Q e ts
section
variable {P : Program} {Q : Exit → TS → Prop} {ts : TS}
theorem SpecC.scope_jumps {c rest : Code} (l : Nat) (I : Nat → TS → Prop) (hf : findLabel c l = some rest) (first : SpecC P c ts (jumpK l (fun ts' => ∃ m, I m ts') Q))
    (pass : ∀ n ts, I n ts → SpecC P rest ts (jumpK l (fun ts' => ∃ m, m < n ∧ I m ts') Q)) : SpecC P (.scope c) ts Q := by
  intro E G a w hr
  let p : Act → World → Nat → Prop := fun a w n => ∃ ts G, I n ts ∧ Rel E ts G a w
  let μ : Act → World → Nat := fun a w => open Classical in if h : ∃ n, p a w n then Classical.choose (exists_least _ h) else 0
  have hμ : ∀ a w, (∃ n, p a w n) → p a w (μ a w) := fun a w h => by
    simp only [μ, dif_pos h]; exact (Classical.choose_spec (exists_least _ h)).1
  have hμ' : ∀ a w n, p a w n → μ a w ≤ n := fun a w n h => by
    simp only [μ, dif_pos (⟨n, h⟩ : ∃ n, p a w n)]; exact (Classical.choose_spec (exists_least _ ⟨n, h⟩)).2 n h
  refine wp_scope_jumps l (fun a w => ∃ n, p a w n) μ hf (wp_mono (first E G a w hr) ?_) ?_
  · rintro e a' w' ⟨ts', G', hq, hr'⟩
    cases e with
    | goto l' => exact ⟨hq.1, hq.2.choose, ts', G', hq.2.choose_spec, hr'⟩
    | _ => exact ⟨ts', G', hq, hr'⟩
  · intro a w hI
    obtain ⟨ts, G, hI, hr⟩ := hμ a w hI
    refine wp_mono (pass (μ a w) ts hI E G a w hr) ?_
    rintro e a' w' ⟨ts', G', hq, hr'⟩
    cases e with
    | goto l' =>
      obtain ⟨hl, m, hm, hI'⟩ := hq
      exact ⟨hl, ⟨m, ts', G', hI', hr'⟩, Nat.lt_of_le_of_lt (hμ' a' w' m ⟨ts', G', hI', hr'⟩) hm⟩
    | _ => exact ⟨ts', G', hq, hr'⟩
@[go_sem] theorem jumpK_ret (l : Nat) (J : TS → Prop) : jumpK l J Q .ret ts = Q .ret ts := rfl
@[go_sem] theorem jumpK_normal (l : Nat) (J : TS → Prop) : jumpK l J Q .normal ts = Q .normal ts := rfl
@[go_sem] theorem jumpK_exit (l id : Nat) (J : TS → Prop) : jumpK l J Q (.exit id) ts = Q (.exit id) ts := rfl
@[go_sem] theorem jumpK_goto (l l' : Nat) (J : TS → Prop) : jumpK l J Q (.goto l') ts = (l' = l ∧ J ts) := rfl
end

end Go.Proofs.YtbggigdchkiffaaDoor.Lg

/- A nil slice, read as an array of one's own: so that a loop that appends has one form of state from the start. -/
namespace Go.Proofs.YtbggigdchkiffaaDoor.Lg
set_option linter.unusedVariables false
set_option linter.unusedSimpArgs false
open Go
variable {P : Program}

theorem Rel.newVirt {E : Env} {ts : TS} {G : Ghost} {a : Act} {w : World} (h : Rel E ts G a w) (d sz : Nat) (hsz : 0 < sz) : Rel E (ts.new d (.arr sz [])) (G.set d w.heap.size none) a w := by
  have hle := le_new E G ts w w d w.heap.size none (.arr sz []) (Nat.le_refl _) (fun _ _ => rfl)
  have live : ∀ e, e ≠ d → (liveR (ts.new d (.arr sz [])) (G.set d w.heap.size none) e ↔ liveR ts G e) := fun e he => by
    simp [liveR, Ghost.set, TS.new, upd, he]
  have hβ : ∀ e, e ≠ d → (G.set d w.heap.size none).β e = G.β e := fun e he => by simp [Ghost.set, upd, he]
  have hdead : ¬ liveR (ts.new d (.arr sz [])) (G.set d w.heap.size none) d := fun hl => hl.2 (by simp [Ghost.set])
  constructor
  · exact h.size
  · exact h.defers
  · exact fun t => (h.tmp t).mono hle
  · intro e
    show ObOk (ctxOf E (G.set d w.heap.size none) (ts.new d (.arr sz [])) w) e ((upd ts.obj d (.arr sz [])) e)
    by_cases he : e = d
    · subst he
      rw [upd_same]
      exact ⟨hsz, by simp, by simp [ctxOf, Ghost.set]⟩
    · rw [upd_ne _ _ he]
      exact ObOk.mono hle (by simp [ctxOf, Ghost.set, upd, he]) (by simp [ctxOf, Ghost.set, upd, he]) (fun _ _ => rfl) (h.obj e)
  · intro e e' h1 h2 h3
    by_cases he : e = d
    · subst he; exact absurd h1 hdead
    · by_cases he' : e' = d
      · subst he'; exact absurd h2 hdead
      · rw [hβ e he, hβ e' he'] at h3
        exact h.sep e e' ((live e he).1 h1) ((live e' he').1 h2) h3
  · intro e h1
    by_cases he : e = d
    · subst he; exact absurd h1 hdead
    · rw [hβ e he]
      exact h.own e ((live e he).1 h1)
  · exact h.inF
  · exact h.bel
  · intro j b' hj hg
    by_cases he : j = d
    · subst he; simp [TS.new] at hg
    · rw [hβ j he]; exact h.pin j b' hj (by simpa [TS.new, upd, he] using hg)

theorem Rel.reput {E : Env} {ts : TS} {G : Ghost} {a : Act} {w : World} (h : Rel E ts G a w) {t : Nat} {x : AV} (hr : Rep (ctxOf E G ts w) (a.tmps.getD t undef) x) : Rel E (ts.put t x) G a w := by
  refine ⟨h.size, h.defers, fun u => ?_, h.obj, h.sep, h.own, h.inF, h.bel, h.pin⟩
  show Rep (ctxOf E G ts w) _ (upd ts.tmp t x u)
  by_cases e : u = t
  · subst e; simpa using hr
  · rw [upd_ne _ _ e]; exact h.tmp u

theorem nil_os {E : Env} {ts : TS} {G : Ghost} {w : World} {d sz : Nat} {v : Value} {c : Ctx} (h : Rep c v (.slice true [])) : Rep (ctxOf E (G.set d w.heap.size none) (ts.new d (.arr sz [])) w) v (.os d (ts.gen d + 1) 0) := by
  have hv : ∃ a, v = .slice a 0 0 := by
    cases h with
    | slice0 _ a cap h => exact ⟨a, by rw [h rfl]⟩
    | slice => contradiction
  obtain ⟨a, rfl⟩ := hv
  exact .os d _ _ _ rfl (by simp [ctxOf, TS.new]) fun _ _ => by unfold OsIs; simp [ctxOf, Ghost.set]

theorem SpecC.virt {c : Code} {ts : TS} {Q : Exit → TS → Prop} (t d sz : Nat) (hsz : 0 < sz) (ht : ts.tmp t = .slice true []) (h : SpecC P c ((ts.new d (.arr sz [])).put t (.os d (ts.gen d + 1) 0)) Q) : SpecC P c ts Q := by
  intro E G a w hr
  have h0 := hr.tmp t
  rw [ht] at h0
  exact h E _ a w ((hr.newVirt d sz hsz).reput (nil_os h0))

theorem Rel.rebox {E : Env} {ts : TS} {G : Ghost} {a : Act} {w : World} (h : Rel E ts G a w) {b j : Nat} {cs : List AV} {x : AV} (ho : ts.obj b = .box cs) (hx : ∀ v, Rep (ctxOf E G ts w) v (cs.getD j .any) → Rep (ctxOf E G ts w) v x) :
    Rel E (ts.setObj b (.box (cs.set j x))) G a w := by
  have hkind : (fun e => ((ts.setObj b (.box (cs.set j x))).obj e).kind) = fun e => (ts.obj e).kind := by
    funext e
    simp only [TS.setObj]
    by_cases he : e = b
    · subst he; rw [upd_same, ho]; rfl
    · rw [upd_ne _ _ he]
  have hlive : ∀ e, liveR (ts.setObj b (.box (cs.set j x))) G e ↔ liveR ts G e := fun e => by
    unfold liveR
    rw [congrFun hkind e]
  have hctx : ctxOf E G (ts.setObj b (.box (cs.set j x))) w = ctxOf E G ts w := by
    unfold ctxOf
    have e1 : (fun k => E.F k ∨ ∃ e, liveR (ts.setObj b (.box (cs.set j x))) G e ∧ G.β e = k) = fun k => E.F k ∨ ∃ e, liveR ts G e ∧ G.β e = k := by
      funext k
      simp only [hlive]
    rw [e1, hkind]
    rfl
  refine ⟨h.size, h.defers, fun t => by rw [hctx]; exact h.tmp t, fun e => ?_, fun e e' h1 h2 h3 => h.sep e e' ((hlive e).1 h1) ((hlive e').1 h2) h3, fun e h1 => h.own e ((hlive e).1 h1), h.inF, h.bel, h.pin⟩
  rw [hctx]
  by_cases he : e = b
  · subst he
    have := h.obj e
    rw [ho] at this
    show ObOk _ e (upd ts.obj e _ e)
    rw [upd_same]
    obtain ⟨h1, vs, Ty, h2, h3, h4⟩ := this
    refine ⟨h1, vs, Ty, h2, by simpa using h3, fun i => ?_⟩
    by_cases hi : i = j
    · subst hi
      by_cases hlt : i < cs.length
      · have e1 : (cs.set i x).getD i .any = x := by simp [hlt]
        rw [e1]; exact hx _ (h4 i)
      · have e1 : (cs.set i x).getD i .any = .any := by simp [hlt]
        rw [e1]; exact .any _
    · have e1 : (cs.set j x).getD i .any = cs.getD i .any := by simp [List.getElem?_set_ne (Ne.symm hi)]
      rw [e1]; exact h4 i
  · show ObOk _ e (upd ts.obj b _ e)
    rw [upd_ne _ _ he]
    exact h.obj e

theorem SpecC.virtBox {c : Code} {ts : TS} {Q : Exit → TS → Prop} (b j d sz : Nat) {cs : List AV} (hsz : 0 < sz) (hbd : b ≠ d) (ho : ts.obj b = .box cs) (hj : cs.getD j .any = .slice true [])
    (h : SpecC P c ((ts.new d (.arr sz [])).setObj b (.box (cs.set j (.os d (ts.gen d + 1) 0)))) Q) : SpecC P c ts Q := by
  intro E G a w hr
  refine h E _ a w ((hr.newVirt d sz hsz).rebox (by simp [TS.new, upd, hbd, ho]) fun v hv => ?_)
  rw [hj] at hv
  exact nil_os hv

end Go.Proofs.YtbggigdchkiffaaDoor.Lg

/- Contracts of functions that the model answers itself (no Go body). -/
namespace Go.Proofs.YtbggigdchkiffaaDoor.Lg
set_option linter.unusedVariables false
set_option linter.unusedSimpArgs false
open Go
variable {P : Program}

def oneTS (x : AV) : TS := { n := 1, tmp := fun t => if t = 0 then x else .any, gen := fun _ => 0, obj := fun _ => .dead }

theorem CallP.extn {f : FuncId} {args : List AV} {x : AV} (hp : x.pure = true)
    (h : ∀ (vals : Array Value) (w : World) (c : Ctx), vals.size = args.length → (∀ i, Rep c (vals.getD i undef) (args.getD i .any)) → ∃ v, (callFunc f vals).run P w = .ok (.value v) w ∧ Rep c v x) : CallP P f args x := by
  intro E G vals w hw hrel hpin
  have hobj : ∀ d, (argTS (args.map Arg.v) (args.map Arg.v).length).obj d = .dead := fun d => by
    simp only [argTS, List.getElem?_map]
    cases args[d]? <;> rfl
  have hdead : ∀ d, ¬ liveR (argTS (args.map Arg.v) (args.map Arg.v).length) G d := fun d hl => hl.1 (by rw [hobj]; rfl)
  have hdead1 : ∀ d, ¬ liveR (oneTS x) G d := fun d hl => hl.1 rfl
  have hctx : ctxOf E G (oneTS x) w = ctxOf E G (argTS (args.map Arg.v) (args.map Arg.v).length) w := by
    unfold ctxOf
    have e1 : (fun b => E.F b ∨ ∃ d, liveR (oneTS x) G d ∧ G.β d = b) = fun b => E.F b ∨ ∃ d, liveR (argTS (args.map Arg.v) (args.map Arg.v).length) G d ∧ G.β d = b := by
      funext b
      apply propext
      constructor
      · rintro (h | ⟨d, h, _⟩)
        · exact .inl h
        · exact absurd h (hdead1 d)
      · rintro (h | ⟨d, h, _⟩)
        · exact .inl h
        · exact absurd h (hdead d)
    have e2 : (fun d => ((oneTS x).obj d).kind) = fun d => ((argTS (args.map Arg.v) (args.map Arg.v).length).obj d).kind := by
      funext d
      rw [hobj]; rfl
    rw [e1, e2]
    rfl
  obtain ⟨v, hv, hr⟩ := h vals w (ctxOf E G (argTS (args.map Arg.v) (args.map Arg.v).length) w) (by have := hrel.size; simpa [argTS] using this) fun i => by
    have := hrel.tmp i
    have e : (argTS (args.map Arg.v) (args.map Arg.v).length).tmp i = args.getD i .any := by
      simp only [argTS, List.getElem?_map, List.getD_eq_getElem?_getD]
      cases args[i]? <;> rfl
    rwa [e] at this
  rw [hv]
  refine ⟨v, .val x, fun _ => [], oneTS x, G, rfl, rfl, ?_, fun j b hj => ?_, hp, rfl⟩
  · refine ⟨rfl, rfl, fun t => ?_, fun d => trivial, fun d d' h1 _ _ => absurd h1 (hdead1 d), fun d h1 => absurd h1 (hdead1 d), hrel.inF, hrel.bel, fun j b hj _ => ?_⟩
    · rw [hctx]
      by_cases ht : t = 0
      · subst ht; simpa [oneTS] using hr
      · simp only [oneTS, if_neg ht]; exact .any _
    · obtain ⟨cs, hcs⟩ := (hpin j).2 ⟨b, hj⟩
      simp only [List.getElem?_map] at hcs
      cases hh : args[j]? <;> rw [hh] at hcs <;> simp at hcs
  · obtain ⟨cs, hcs⟩ := (hpin j).2 ⟨b, hj⟩
    simp only [List.getElem?_map] at hcs
    cases hh : args[j]? <;> rw [hh] at hcs <;> simp at hcs

end Go.Proofs.YtbggigdchkiffaaDoor.Lg

/- What an operation asks of the state: of the slots that it reads, and of the objects that these point to, alone. -/
namespace Go.Proofs.YtbggigdchkiffaaDoor.Lg
set_option linter.unusedVariables false
set_option linter.unusedSimpArgs false
open Go
variable {P : Program}

def vOk (bad : List Nat) : AV → Bool
  | .os d _ _ => !bad.contains d
  | .ref d _ _ => !bad.contains d
  | .eref d _ _ _ => !bad.contains d
  | .ot d _ _ _ => !bad.contains d
  | .agg cs => vOkL cs
  | .tup cs => vOkL cs
  | .clo _ a b => vOkL a && vOkL b
  | _ => true
where vOkL : List AV → Bool
  | [] => true
  | x :: r => vOk bad x && vOkL r

def xOk (bad : List Nat) (F : TS) : Operand → Bool
  | .tmp t => !bad.contains t && vOk bad (F.tmp t)
  | _ => true

section mix
variable {bad : List Nat} {J F : TS}
theorem ev_mix {x : Operand} (h : xOk bad F x = true) : (mix bad J F).ev x = F.ev x := by
  cases x with
  | tmp t =>
    simp only [xOk, Bool.and_eq_true, Bool.not_eq_true'] at h
    exact (mix_out h.1).1
  | _ => rfl
theorem vOk_ev {x : Operand} (h : xOk bad F x = true) : vOk bad (F.ev x) = true := by
  cases x with
  | tmp t => simp only [xOk, Bool.and_eq_true] at h; exact h.2
  | const v => simp only [TS.ev]; unfold ofV; split <;> rfl
  | func f => rfl
  | global g => rfl
theorem gen_out {d : Nat} (h : bad.contains d = false) : (mix bad J F).gen d = F.gen d := (mix_out h).2.1
theorem obj_out {d : Nat} (h : bad.contains d = false) : (mix bad J F).obj d = F.obj d := (mix_out h).2.2
theorem ptr_mix {x : AV} (h : vOk bad x = true) : (mix bad J F).ptr x = F.ptr x := by
  cases x with
  | ref d g off => simp only [vOk, Bool.not_eq_true'] at h; simp only [TS.ptr, gen_out h, obj_out h]
  | eref d g i o => simp only [vOk, Bool.not_eq_true'] at h; simp only [TS.ptr, gen_out h, obj_out h]
  | _ => rfl
theorem live_mix {d g : Nat} (h : bad.contains d = false) : (mix bad J F).live d g = F.live d g := by simp only [TS.live, gen_out h, obj_out h]
theorem shift_mix {x : AV} {o : Nat} (h : vOk bad x = true) : (mix bad J F).shift x o = F.shift x o := by
  cases x with
  | ref d g off => simp only [vOk, Bool.not_eq_true'] at h; simp only [TS.shift, live_mix h]
  | eref d g i o => simp only [vOk, Bool.not_eq_true'] at h; simp only [TS.shift, live_mix h]
  | _ => rfl
theorem sl_mix {x : AV} (h : vOk bad x = true) : (mix bad J F).sl x = F.sl x := by
  cases x with
  | os d g len => simp only [vOk, Bool.not_eq_true'] at h; simp only [TS.sl, gen_out h, obj_out h]
  | ot d g o len => simp only [vOk, Bool.not_eq_true'] at h; simp only [TS.sl, gen_out h, obj_out h]
  | _ => rfl
theorem len_mix {x : AV} (h : vOk bad x = true) : (mix bad J F).len x = F.len x := by
  cases x with
  | os d g len => simp only [vOk, Bool.not_eq_true'] at h; simp only [TS.len, live_mix h]
  | ot d g o len => simp only [vOk, Bool.not_eq_true'] at h; simp only [TS.len, live_mix h]
  | _ => rfl
theorem at_mix {x : AV} {sz : Nat} {n : Int} (h : vOk bad x = true) : (mix bad J F).at x sz n = F.at x sz n := by
  cases x with
  | os d g len => simp only [vOk, Bool.not_eq_true'] at h; simp only [TS.at, gen_out h, obj_out h]
  | ot d g o len => simp only [vOk, Bool.not_eq_true'] at h; simp only [TS.at, gen_out h, obj_out h]
  | _ => rfl
theorem poke_mix {x : AV} {ys : List AV} (h : vOk bad x = true) : (mix bad J F).poke x ys = F.poke x ys := by
  cases x with
  | ref d g off => simp only [vOk, Bool.not_eq_true'] at h; simp only [TS.poke, gen_out h, obj_out h]
  | eref d g i o => simp only [vOk, Bool.not_eq_true'] at h; simp only [TS.poke, gen_out h, obj_out h]
  | _ => rfl
theorem optI_mix {x : Option Operand} {d : Int} (h : ∀ y, x = some y → xOk bad F y = true) : (mix bad J F).optI x d = F.optI x d := by
  cases x with
  | none => rfl
  | some y => simp only [TS.optI, ev_mix (h y rfl)]
mutual
theorem res_mix : ∀ (x : AV), vOk bad x = true → x.res (mix bad J F) = x.res F
  | .os d g len, h => by simp only [vOk, Bool.not_eq_true'] at h; simp only [AV.res, gen_out h, obj_out h]
  | .agg cs, h => by simp only [vOk] at h; simp only [AV.res, resL_mix cs h]
  | .tup cs, h => by simp only [vOk] at h; simp only [AV.res, resL_mix cs h]
  | .any, _ | .bool _, _ | .int _ _, _ | .str _, _ | .slice _ _, _ | .ro _, _ | .nilp, _ | .clo _ _ _, _ | .nilf, _ | .nilm, _ | .niface, _ | .iface _ _, _ | .ref _ _ _, _ | .eref _ _ _ _, _ | .ot _ _ _ _, _ => rfl
theorem resL_mix : ∀ (l : List AV), vOk.vOkL bad l = true → AV.res.resL (mix bad J F) l = AV.res.resL F l
  | [], _ => rfl
  | x :: r, h => by
    simp only [vOk.vOkL, Bool.and_eq_true] at h
    simp only [AV.res.resL, res_mix x h.1, resL_mix r h.2]
end
theorem toArgs_mix : ∀ (l : List AV), vOk.vOkL bad l = true → (mix bad J F).toArgs l = F.toArgs l
  | [], _ => rfl
  | x :: r, h => by
    simp only [vOk.vOkL, Bool.and_eq_true] at h
    simp only [TS.toArgs, res_mix x h.1, toArgs_mix r h.2]
theorem vOkL_append : ∀ (l r : List AV), vOk.vOkL bad (l ++ r) = (vOk.vOkL bad l && vOk.vOkL bad r)
  | [], r => by simp [vOk.vOkL]
  | x :: l, r => by simp [vOk.vOkL, vOkL_append l r, Bool.and_assoc]
theorem evs_mix : ∀ (l : List Operand), (l.all fun x => xOk bad F x) = true → l.map (mix bad J F).ev = l.map F.ev ∧ vOk.vOkL bad (l.map F.ev) = true
  | [], _ => ⟨rfl, rfl⟩
  | x :: r, h => by
    simp only [List.all_cons, Bool.and_eq_true] at h
    obtain ⟨h1, h2⟩ := evs_mix r h.2
    exact ⟨by simp only [List.map_cons, ev_mix h.1, h1], by simp only [List.map_cons, vOk.vOkL, vOk_ev h.1, h2, Bool.and_self]⟩
end mix

theorem Loc.id (ws : List Nat) : Loc ws (fun A => A) := ⟨fun _ => rfl, fun _ _ _ => .rfl', fun _ _ t ht k => k t ht⟩

/-- An operation turns the state alike, whatever stands in the slots that it does not ask. -/
def Same (o : Oper) (bad : List Nat) (F : TS) (tgt : Nat → Prop) (K : TS → Prop) (sem : TS → (TS → Prop) → Prop) : Prop :=
  ∃ (g : TS → TS) (ws : List Nat), Loc ws g ∧ (∀ t ∈ ws, o.dst = some t ∨ tgt t) ∧ K (g F) ∧ ∀ J (K' : TS → Prop), K' (g (mix bad J F)) → sem (mix bad J F) K'

section same
variable {o : Oper} {bad : List Nat} {F : TS} {tgt : Nat → Prop} {K : TS → Prop}
theorem Same.mono {s s' : TS → (TS → Prop) → Prop} (h : Same o bad F tgt K s) (hs : ∀ J K', s (mix bad J F) K' → s' (mix bad J F) K') : Same o bad F tgt K s' := by
  obtain ⟨g, ws, h1, h2, h3, h4⟩ := h
  exact ⟨g, ws, h1, h2, h3, fun J K' hk => hs J K' (h4 J K' hk)⟩
theorem Same.set {v : AV} (h : setK F o.dst v K) : Same o bad F tgt K fun A K' => setK A o.dst v K' := by
  cases hd : o.dst with
  | none => rw [hd] at h; exact ⟨fun A => A, [], Loc.id [], by simp, h, fun J K' hk => hk⟩
  | some d => rw [hd] at h; exact ⟨fun A => A.put d v, [d], Loc.put d v, by simp [hd], h.2, fun J K' hk => ⟨h.1, hk⟩⟩
theorem Same.box {cs : List AV} (hd : ∀ d, o.dst = some d → bad.contains d = false) (h : newBoxK F o.dst cs K) : Same o bad F tgt K fun A K' => newBoxK A o.dst cs K' := by
  cases hdst : o.dst with
  | none => rw [hdst] at h; exact h.elim
  | some d =>
    rw [hdst] at h
    refine ⟨fun A => (A.new d (.box cs)).put d (.ref d (F.gen d + 1) 0), [d], (Loc.new d _).comp (Loc.put d _), by simp [hdst], h.2, fun J K' hk => ⟨h.1, ?_⟩⟩
    rw [gen_out (hd d hdst)]; exact hk
theorem Same.arr {sz : Nat} {xs : List AV} (hd : ∀ d, o.dst = some d → bad.contains d = false) (h : newArrK F o.dst sz xs K) : Same o bad F tgt K fun A K' => newArrK A o.dst sz xs K' := by
  cases hdst : o.dst with
  | none => rw [hdst] at h; exact h.elim
  | some d =>
    rw [hdst] at h
    refine ⟨fun A => (A.new d (.arr sz xs)).put d (.os d (F.gen d + 1) xs.length), [d], (Loc.new d _).comp (Loc.put d _), by simp [hdst], h.2, fun J K' hk => ⟨h.1, ?_⟩⟩
    rw [gen_out (hd d hdst)]; exact hk
end same

/-- The object that a store turns. -/
def tgtOf (F : TS) (o : Oper) (t : Nat) : Prop :=
  match o.op with
  | .store _ p _ => match F.ev p with
    | .ref d _ _ => d = t
    | .eref d _ _ _ => d = t
    | _ => False
  | _ => False

/-- An operation in a part whose order is drawn: a call there takes nothing over. -/
def opKp (T : Tys P) (o : Oper) (ts : TS) (K : TS → Prop) : Prop :=
  match o.op with
  | .call ⟨.value f, xs, _⟩ => callW false P (ts.ev f) (xs.toList.map ts.ev) o.dst ts K
  | _ => opK T o ts K
theorem callX.up {m : Bool} {f : FuncId} {vs : List AV} {q : Option (List AV × List Nat)} {dst : Option Nat} {ts : TS} {K : TS → Prop} (h : callX false P f vs q dst ts K) : callX m P f vs q dst ts K := by
  rcases h with h | ⟨h, _⟩
  · exact .inl h
  · cases h
theorem opKp.up {T : Tys P} {o : Oper} {ts : TS} {K : TS → Prop} (h : opKp T o ts K) : opK T o ts K := by
  unfold opKp at h
  split at h
  · rename_i f xs at_ ho
    obtain ⟨dst, op, ty, pos, after, gd⟩ := o
    subst ho
    rw [opK_call]
    unfold callW at h ⊢
    split at h
    · exact callX.up h
    · exact h.elim
  · exact h

/-- The operations that may stand in a part whose order is drawn. -/
def drawable (o : Oper) : Bool :=
  match o.op with
  | .move _ | .assign _ | .pick .. | .alloc _ | .box .. | .build .. | .buildSlice .. | .load .. | .fieldAddr .. | .indexAddr .. | .index .. | .slice .. | .unOp .. | .extract .. => true
  | .store .. => o.dst.isNone
  | .binOp .eql _ _ (.const (.slice none 0 0)) _ => false
  | .binOp .. => true
  | .call c => match c.callee with
    | .value _ => true
    | .builtin .len => c.args.size == 1 && c.argTypes.size == 1
    | _ => false
  | _ => false

theorem binK_loc (T : Tys P) {op : BinOp} {t : TypeId} {a b : AV} {o : Oper} {bad : List Nat} {F : TS} {tgt : Nat → Prop} {K : TS → Prop} (h : binD T op t a b F o.dst K) :
    Same o bad F tgt K fun A K' => binD T op t a b A o.dst K' := by
  unfold binD at h ⊢
  cases hk : (T.ty t).k with
  | struct fs =>
    simp only [hk] at h ⊢
    obtain ⟨h1, h2, h3⟩ := h
    obtain ⟨r, h4, h5⟩ := optK_some h3
    exact (Same.set h5).mono fun J K' hs => ⟨h1, h2, by rw [h4]; exact hs⟩
  | _ =>
    simp only [hk] at h ⊢
    obtain ⟨r, h4, h5⟩ := optK_some h
    exact (Same.set h5).mono fun J K' hs => by rw [h4]; exact hs

theorem opK_loc (T : Tys P) {o : Oper} {bad : List Nat} {F : TS} {K : TS → Prop} (hops : (o.op.operands.toList.all fun x => xOk bad F x) = true) (hdr : drawable o = true)
    (hd : ∀ d, o.dst = some d → bad.contains d = false) (h : opKp T o F K) : Same o bad F (tgtOf F o) K fun A K' => opK T o A K' := by
  obtain ⟨dst, op, ty, pos, after, gd⟩ := o
  cases op with
  | move x =>
    have hx : xOk bad F x = true := by simpa [Op.operands] using hops
    exact (Same.set (o := ⟨dst, _, ty, pos, after, gd⟩) h).mono fun J K' hs => by rw [opK_move, ev_mix hx]; exact hs
  | assign x =>
    have hx : xOk bad F x = true := by simpa [Op.operands] using hops
    exact (Same.set (o := ⟨dst, _, ty, pos, after, gd⟩) h).mono fun J K' hs => by rw [opK_assign, ev_mix hx]; exact hs
  | pick c x y =>
    have hx : xOk bad F c = true ∧ xOk bad F x = true ∧ xOk bad F y = true := by simpa [Op.operands] using hops
    obtain ⟨b, h1, h2⟩ := boolK_some h
    exact (Same.set (o := ⟨dst, _, ty, pos, after, gd⟩) h2).mono fun J K' hs => by rw [opK_pick, ev_mix hx.1, ev_mix hx.2.1, ev_mix hx.2.2, h1]; exact hs
  | alloc t => exact (Same.box (o := ⟨dst, _, ty, pos, after, gd⟩) hd h.2).mono fun J K' hs => ⟨h.1, hs⟩
  | box t x =>
    have hx : xOk bad F x = true := by simpa [Op.operands] using hops
    exact (Same.box (o := ⟨dst, _, ty, pos, after, gd⟩) hd h.2).mono fun J K' hs => by rw [opK_box, ev_mix hx]; exact ⟨h.1, hs⟩
  | build t parts =>
    have hx : ((parts.toList.map (·.2)).all fun x => xOk bad F x) = true := by simpa [Op.operands] using hops
    have e : ∀ J, (parts.toList.map fun p => (p.1, (mix bad J F).ev p.2)) = parts.toList.map fun p => (p.1, F.ev p.2) := fun J => by
      apply List.map_congr_left
      intro p hp
      rw [ev_mix (List.all_eq_true.1 hx _ (List.mem_map_of_mem hp))]
    have h := opKp.up h
    rw [opK_build] at h
    unfold buildK at h
    split at h
    · rename_i fs hfs
      obtain ⟨cs, h1, h2⟩ := optK_some h.2
      exact (Same.set (o := ⟨dst, _, ty, pos, after, gd⟩) h2).mono fun J K' hs => by rw [opK_build, e, hfs]; exact ⟨h.1, by rw [h1]; exact hs⟩
    · exact h.elim
  | buildSlice t n parts =>
    have hx : ((parts.toList.map (·.2)).all fun x => xOk bad F x) = true := by simpa [Op.operands] using hops
    have e : ∀ J, (parts.toList.map fun p => (p.1, (mix bad J F).ev p.2)) = parts.toList.map fun p => (p.1, F.ev p.2) := fun J => by
      apply List.map_congr_left
      intro p hp
      rw [ev_mix (List.all_eq_true.1 hx _ (List.mem_map_of_mem hp))]
    have h := opKp.up h
    rw [opK_buildSlice] at h
    unfold buildSliceK at h
    split at h
    · rename_i e' he
      obtain ⟨h1, h2, h3, h4, h5, h6⟩ := h
      exact (Same.arr (o := ⟨dst, _, ty, pos, after, gd⟩) hd h6).mono fun J K' hs => by rw [opK_buildSlice, e, he]; exact ⟨h1, h2, h3, h4, h5, hs⟩
    · exact h.elim
  | load t x =>
    have hx : xOk bad F x = true := by simpa [Op.operands] using hops
    have h := opKp.up h
    rw [opK_load] at h
    obtain ⟨cs, h1, h2⟩ := optK_some h
    unfold loadK at h2
    split at h2
    · exact h2.elim
    · rename_i hne
      exact (Same.set (o := ⟨dst, _, ty, pos, after, gd⟩) h2.2).mono fun J K' hs => by
        rw [opK_load, ev_mix hx, ptr_mix (vOk_ev hx), h1]
        show loadK T t cs (mix bad J F) dst K'
        unfold loadK
        split
        · rename_i hu; exact absurd hu (by simpa using hne)
        · exact ⟨h2.1, hs⟩
  | store t p x =>
    have hx : xOk bad F p = true ∧ xOk bad F x = true := by simpa [Op.operands] using hops
    have hdn : dst = none := by simpa [drawable] using hdr
    subst hdn
    have h := opKp.up h
    rw [opK_store] at h
    obtain ⟨h1, h2, h3, h4, h5⟩ := h
    obtain ⟨q, h6, h7, h8⟩ := optK_some h5
    refine ⟨fun A => A.setObj q.1 q.2, [q.1], Loc.setObj q.1 q.2, fun t' ht' => .inr ?_, h8, fun J K' hs => ?_⟩
    · have : t' = q.1 := by simpa using ht'
      subst this
      show tgtOf F _ q.1
      simp only [tgtOf]
      generalize F.ev p = v at h6
      cases v with
      | ref d g off =>
        simp only [TS.poke] at h6
        split at h6
        · split at h6
          · split at h6
            · cases h6; rfl
            · cases h6
          · cases h6
        · cases h6
      | eref d g i off =>
        simp only [TS.poke] at h6
        split at h6
        · split at h6
          · split at h6
            · cases h6; rfl
            · cases h6
          · cases h6
        · cases h6
      | _ => simp [TS.poke] at h6
    · show opK T _ (mix bad J F) K'
      rw [opK_store, ev_mix hx.1, ev_mix hx.2, poke_mix (vOk_ev hx.1), h6]
      exact ⟨h1, h2, h3, h4, h7, hs⟩
  | fieldAddr s x f =>
    have hx : xOk bad F x = true := by simpa [Op.operands] using hops
    have h := opKp.up h
    rw [opK_fieldAddr] at h
    unfold fieldAddrK at h
    split at h
    · rename_i fs hfs
      obtain ⟨q, h1, h2, h3, h4⟩ := optK_some h
      obtain ⟨y, h5, h6⟩ := optK_some h4
      exact (Same.set (o := ⟨dst, _, ty, pos, after, gd⟩) h6).mono fun J K' hs => by
        rw [opK_fieldAddr, ev_mix hx, hfs]
        show optK fs[f]? _
        rw [h1]
        exact ⟨h2, h3, by rw [shift_mix (vOk_ev hx), h5]; exact hs⟩
    · exact h.elim
  | indexAddr t x i =>
    have hx : xOk bad F x = true ∧ xOk bad F i = true := by simpa [Op.operands] using hops
    have h := opKp.up h
    rw [opK_indexAddr] at h
    unfold indexAddrK at h
    split at h
    · rename_i e he
      obtain ⟨h1, h2, h3⟩ := h
      obtain ⟨k, n, h4, h5⟩ := intK_some h3
      obtain ⟨y, h6, h7⟩ := optK_some h5
      exact (Same.set (o := ⟨dst, _, ty, pos, after, gd⟩) h7).mono fun J K' hs => by
        rw [opK_indexAddr, ev_mix hx.1, ev_mix hx.2, he, h4]
        exact ⟨h1, h2, by show optK ((mix bad J F).at _ _ n) _; rw [at_mix (vOk_ev hx.1), h6]; exact hs⟩
    · exact h.elim
  | index t x i =>
    have hx : xOk bad F x = true ∧ xOk bad F i = true := by simpa [Op.operands] using hops
    have h := opKp.up h
    rw [opK_index] at h
    unfold indexK at h
    split at h
    · rename_i s hs1 hs2
      obtain ⟨k, n, h4, h5, h6, h7⟩ := intK_some h
      exact (Same.set (o := ⟨dst, _, ty, pos, after, gd⟩) h7).mono fun J K' hs => by
        rw [opK_index, ev_mix hx.1, ev_mix hx.2, hs1, hs2, h4]
        exact ⟨h5, h6, hs⟩
    · exact h.elim
  | slice t x lo hi mx =>
    have hx : xOk bad F x = true ∧ (∀ y, lo = some y → xOk bad F y = true) ∧ (∀ y, hi = some y → xOk bad F y = true) ∧ (∀ y, mx = some y → xOk bad F y = true) := by
      simp only [Op.operands, Array.toList_append, List.all_append, Bool.and_eq_true] at hops
      obtain ⟨⟨⟨h1, h2⟩, h3⟩, h4⟩ := hops
      refine ⟨by simpa using h1, ?_, ?_, ?_⟩ <;> · intro y hy; subst hy; first | simpa using h2 | simpa using h3 | simpa using h4
    obtain ⟨hx, hlo, hhi, hmx⟩ := hx
    have h := opKp.up h
    rw [opK_slice] at h
    unfold sliceK at h
    split at h
    · rename_i e clip xs he hxe
      obtain ⟨h1, h2, h3⟩ := h
      obtain ⟨l, h4, h5⟩ := optK_some h3
      obtain ⟨u, h6, h7⟩ := optK_some h5
      cases mx with
      | none =>
        obtain ⟨q1, q2, q3, q4⟩ := h7
        exact (Same.set (o := ⟨dst, _, ty, pos, after, gd⟩) q4).mono fun J K' hs => by
          rw [opK_slice, ev_mix hx, sliceK_eq, he, hxe, sliceKK_s]
          exact ⟨h1, h2, by rw [optI_mix hlo, h4]; show optK ((mix bad J F).optI hi _) _; rw [optI_mix hhi, h6]; exact ⟨q1, q2, q3, hs⟩⟩
      | some m =>
        obtain ⟨q0, h8⟩ := h7
        obtain ⟨m', h9, q1, q2, q3, q4, q5⟩ := optK_some h8
        exact (Same.set (o := ⟨dst, _, ty, pos, after, gd⟩) q5).mono fun J K' hs => by
          rw [opK_slice, ev_mix hx, sliceK_eq, he, hxe, sliceKK_3]
          exact ⟨h1, h2, by rw [optI_mix hlo, h4]; show optK ((mix bad J F).optI hi _) _; rw [optI_mix hhi, h6]; exact ⟨q0, by rw [optI_mix hmx, h9]; exact ⟨q1, q2, q3, q4, hs⟩⟩⟩
    · rename_i e d g len he hxe
      obtain ⟨h1, h2⟩ := h
      have hv := vOk_ev hx
      rw [hxe] at hv
      simp only [vOk, Bool.not_eq_true'] at hv
      have main : Same ⟨dst, .slice t x lo hi mx, ty, pos, after, gd⟩ bad F (tgtOf F ⟨dst, .slice t x lo hi mx, ty, pos, after, gd⟩) K fun A K' => (match lo, mx with
          | none, none => A.live d g = true ∧ optK (A.optI hi len) fun u => 0 ≤ u ∧ u ≤ len ∧ setK A dst (.os d g u.toNat) K'
          | _, _ => sliceOtK T e d g len lo hi mx A dst K') := by
        split at h2
        · obtain ⟨h3, h4⟩ := h2
          obtain ⟨u, h6, h7, h8, h9⟩ := optK_some h4
          exact (Same.set (o := ⟨dst, _, ty, pos, after, gd⟩) h9).mono fun J K' hs => ⟨by rw [live_mix hv]; exact h3, by rw [optI_mix hhi, h6]; exact ⟨h7, h8, hs⟩⟩
        · rename_i hne
          obtain ⟨hg, h⟩ := h2
          obtain ⟨⟨sz, xs⟩, hob, hsz, h⟩ := optK_some h
          obtain ⟨l, q1, h⟩ := optK_some h
          obtain ⟨u, q2, q3, q4, q5, q6, q7⟩ := optK_some h
          refine (Same.set (o := ⟨dst, _, ty, pos, after, gd⟩) q7).mono fun J K' hs => ?_
          have goal : sliceOtK T e d g len lo hi mx (mix bad J F) dst K' := by
            refine ⟨by rw [gen_out hv]; exact hg, ?_⟩
            rw [obj_out hv, hob]
            refine ⟨hsz, ?_⟩
            rw [optI_mix hlo, q1]
            show optK ((mix bad J F).optI hi _) _
            rw [optI_mix hhi, q2]
            refine ⟨q3, q4, q5, ?_, hs⟩
            unfold maxOk at q6 ⊢
            split at q6
            · trivial
            · obtain ⟨p1, p2⟩ := q6
              exact ⟨p1, by rw [optI_mix hmx]; exact p2⟩
          cases lo with
          | none => cases mx with
            | none => exact (hne rfl rfl).elim
            | some m => exact goal
          | some l => cases mx <;> exact goal
      exact main.mono fun J K' hs => by
        rw [opK_slice, ev_mix hx, sliceK_eq, he, hxe]
        cases lo <;> cases mx <;> exact ⟨h1, hs⟩
    · rename_i s he hxe
      obtain ⟨h1, h2⟩ := h
      obtain ⟨l, h4, h5⟩ := optK_some h2
      obtain ⟨u, h6, q1, q2, q3, q4⟩ := optK_some h5
      exact (Same.set (o := ⟨dst, _, ty, pos, after, gd⟩) q4).mono fun J K' hs => by
        rw [opK_slice, ev_mix hx, sliceK_eq, he, hxe, sliceKK_str]
        exact ⟨h1, by rw [optI_mix hlo, h4]; show optK ((mix bad J F).optI hi _) _; rw [optI_mix hhi, h6]; exact ⟨q1, q2, q3, hs⟩⟩
    · exact h.elim
  | binOp op t x y u =>
    have hx : xOk bad F x = true ∧ xOk bad F y = true := by simpa [Op.operands] using hops
    have h := opKp.up h
    rw [opK_bin] at h
    unfold binK at h
    split at h
    · simp [drawable] at hdr
    · rename_i hne
      refine (binK_loc T (o := ⟨dst, _, ty, pos, after, gd⟩) h).mono fun J K' hs => ?_
      rw [opK_bin]
      unfold binK
      split
      · exact (hne rfl rfl).elim
      · rw [ev_mix hx.1, ev_mix hx.2]; exact hs
  | unOp op t x =>
    have hx : xOk bad F x = true := by simpa [Op.operands] using hops
    cases op with
    | not =>
      have h := opKp.up h
      rw [opK_not] at h
      obtain ⟨b, h1, h2⟩ := boolK_some h
      exact (Same.set (o := ⟨dst, _, ty, pos, after, gd⟩) h2).mono fun J K' hs => by rw [opK_not, ev_mix hx, h1]; exact hs
    | neg =>
      have h := opKp.up h
      rw [opK_neg] at h
      obtain ⟨k, n, h1, h2⟩ := intK_some h
      exact (Same.set (o := ⟨dst, _, ty, pos, after, gd⟩) h2).mono fun J K' hs => by rw [opK_neg, ev_mix hx, h1]; exact hs
    | _ => exact h.elim
  | extract x i =>
    have hx : xOk bad F x = true := by simpa [Op.operands] using hops
    have h := opKp.up h
    rw [opK_extract] at h
    unfold extractK at h
    split at h
    · rename_i vs hvs
      exact (Same.set (o := ⟨dst, _, ty, pos, after, gd⟩) h.2).mono fun J K' hs => by rw [opK_extract, ev_mix hx, hvs]; exact ⟨h.1, hs⟩
    · exact h.elim
  | call c =>
    obtain ⟨callee, args, ats⟩ := c
    cases callee with
    | value f =>
      have hx : xOk bad F f = true ∧ (args.toList.all fun x => xOk bad F x) = true := by simpa [Op.operands, Call.operands] using hops
      have h : callW false P (F.ev f) (args.toList.map F.ev) dst F K := h
      unfold callW at h
      split at h
      · rename_i f' caps hf
        rcases h with ⟨as, lent, r, h1, h2, h3, h4⟩ | ⟨h, _⟩
        · have hv := vOk_ev hx.1
          rw [hf] at hv
          simp only [vOk, vOk.vOkL, Bool.true_and] at hv
          have key : Same ⟨dst, .call ⟨.value f, args, ats⟩, ty, pos, after, gd⟩ bad F (tgtOf F ⟨dst, .call ⟨.value f, args, ats⟩, ty, pos, after, gd⟩) K fun A K' => afterK A dst r K' := by
            cases r with
            | val x => exact Same.set (o := ⟨dst, _, ty, pos, after, gd⟩) h4
            | own sz xs => exact Same.arr (o := ⟨dst, _, ty, pos, after, gd⟩) hd h4
          refine key.mono fun J K' hs => ?_
          rw [opK_call, ev_mix hx.1, hf, callW, (evs_mix args.toList hx.2).1, toArgs_mix _ (by rw [vOkL_append, (evs_mix (J := F) args.toList hx.2).2, hv]; rfl), h1]
          exact .inl ⟨as, lent, r, rfl, h2, h3, hs⟩
        · cases h
      · exact h.elim
    | builtin b =>
      cases b with
      | len =>
        have hx : (args.toList.all fun x => xOk bad F x) = true := by simpa [Op.operands, Call.operands] using hops
        have hl : builtinK T ⟨.builtin .len, args, ats⟩ ⟨dst, .call ⟨.builtin .len, args, ats⟩, ty, pos, after, gd⟩ F K := h
        show Same _ _ _ _ _ fun A K' => builtinK T ⟨.builtin .len, args, ats⟩ ⟨dst, .call ⟨.builtin .len, args, ats⟩, ty, pos, after, gd⟩ A K'
        obtain ⟨al⟩ := args
        obtain ⟨tl⟩ := ats
        have hs : al.length = 1 ∧ tl.length = 1 := by simpa [drawable] using hdr
        obtain ⟨x, rfl⟩ := List.length_eq_one_iff.1 hs.1
        obtain ⟨t, rfl⟩ := List.length_eq_one_iff.1 hs.2
        have hx : xOk bad F x = true := by simpa using hx
        have h : lenK T t (F.ev x) F dst K := hl
        obtain ⟨h1, h2⟩ := h
        obtain ⟨n, h3, h4⟩ := optK_some h2
        refine (Same.set (o := ⟨dst, _, ty, pos, after, gd⟩) h4).mono fun J K' hs => ?_
        show lenK T t ((mix bad J F).ev x) (mix bad J F) dst K'
        rw [ev_mix hx]
        exact ⟨h1, by rw [len_mix (vOk_ev hx), h3]; exact hs⟩
      | _ => simp [drawable] at hdr
    | invoke r m => simp [drawable] at hdr
  | _ => simp [drawable] at hdr

end Go.Proofs.YtbggigdchkiffaaDoor.Lg

/- The engine: what a piece of code comes to, computed; the steps of a proof by it. -/
namespace Go.Proofs.YtbggigdchkiffaaDoor.Lg
set_option linter.unusedVariables false
set_option linter.unusedSimpArgs false
open Go
variable {P : Program}

mutual
theorem vOk_nil : ∀ v : AV, vOk [] v = true
  | .agg cs => by simp only [vOk]; exact vOkL_nil cs
  | .tup cs => by simp only [vOk]; exact vOkL_nil cs
  | .clo _ a b => by simp only [vOk, vOkL_nil a, vOkL_nil b, Bool.and_self]
  | .any | .bool _ | .int _ _ | .str _ | .slice _ _ | .ro _ | .nilp | .nilf | .nilm | .niface | .iface _ _ => rfl
  | .os _ _ _ | .ref _ _ _ | .eref _ _ _ _ | .ot _ _ _ _ => rfl
theorem vOkL_nil : ∀ l : List AV, vOk.vOkL [] l = true
  | [] => rfl
  | x :: r => by simp only [vOk.vOkL, vOk_nil x, vOkL_nil r, Bool.and_self]
end

/-! ### Tests and guards -/
def condK (v : AV) (A B : Prop) : Prop :=
  match v with
  | .bool b => (b = true → A) ∧ (b = false → B)
  | _ => False
theorem condK.split {b : Bool} {A B : Prop} (ht : b = true → A) (hf : b = false → B) : condK (.bool b) A B := ⟨ht, hf⟩

/-- The value of the slot that a guard asks. -/
def gvalL (ts : TS) : List Oper → Nat → AV
  | [], _ => .any
  | o :: _, 0 => match o.dst with
    | some d => ts.tmp d
    | none => .any
  | _ :: l, j + 1 => gvalL ts l j

def gK (v : AV) (want : Bool) (A B : TS → Prop) (ts : TS) : Prop :=
  match v with
  | .bool b => (b = want → A ts) ∧ (b = !want → B ts)
  | .tup [] => B ts
  | _ => False
theorem gK.split_t {b : Bool} {A B : TS → Prop} {ts : TS} (ht : b = true → A ts) (hf : b = false → B ts) : gK (.bool b) true A B ts := ⟨ht, hf⟩
theorem gK.split_f {b : Bool} {A B : TS → Prop} {ts : TS} (ht : b = true → B ts) (hf : b = false → A ts) : gK (.bool b) false A B ts := ⟨hf, ht⟩

def skipK (dst : Option Nat) (K : TS → Prop) (ts : TS) : Prop :=
  match dst with
  | some d => d < ts.n ∧ K (ts.put d (.tup []))
  | none => K ts
def opKt (T : Tys P) (o : Oper) (K : TS → Prop) (ts : TS) : Prop := opK T o ts K

def wG (T : Tys P) (all : List Oper) (o : Oper) (K : TS → Prop) (ts : TS) : Prop :=
  match o.guard with
  | none => opK T o ts K
  | some (j, want) => gK (gvalL ts all j) want (opKt T o K) (skipK o.dst K) ts

def opKpt (T : Tys P) (o : Oper) (K : TS → Prop) (ts : TS) : Prop := opKp T o ts K
/-- The same in a part whose order is drawn. -/
def wGp (T : Tys P) (all : List Oper) (o : Oper) (K : TS → Prop) (ts : TS) : Prop :=
  match o.guard with
  | none => opKp T o ts K
  | some (j, want) => gK (gvalL ts all j) want (opKpt T o K) (skipK o.dst K) ts

/-- Continuations are named functions with the state last, never lambdas: so the reckoning does not run ahead under a binder. -/
def wOps (T : Tys P) (all : List Oper) : List Oper → (TS → Prop) → TS → Prop
  | [], K, ts => K ts
  | o :: l, K, ts => wG T all o (wOps T all l K) ts

theorem gvalL_eq {ts : TS} : ∀ (l : List Oper) (j : Nat), gvalL ts l j = match (l[j]?).bind (·.dst) with | some d => ts.tmp d | none => .any
  | [], j => by simp [gvalL]
  | o :: l, 0 => by cases hd : o.dst <;> simp [gvalL, hd]
  | o :: l, j + 1 => by simp [gvalL, gvalL_eq l j]

theorem guardOf_gval {all : List Oper} {ts : TS} {j : Nat} {b : Option Bool} (h : gvalL ts all j = (match b with | some b => .bool b | none => .tup [])) : guardOf (List.toArray all) ts j = some b := by
  rw [gvalL_eq] at h
  have e : (List.toArray all)[j]? = all[j]? := by simp
  unfold guardOf
  rw [e]
  split
  · rename_i d hd
    rw [hd] at h
    cases b with
    | none => simp only at h; simp [h]
    | some b => simp only at h; simp [h]
  · rename_i hd
    rw [hd] at h
    cases b <;> simp at h

theorem wG.sound {T : Tys P} {all : List Oper} {o : Oper} {ts : TS} {K : TS → Prop} (h : wG T all o K ts) : SpecG P (List.toArray all) o ts K := by
  unfold wG at h
  unfold SpecG
  split at h
  · rename_i hg; rw [hg]; exact opK_sound T h
  · rename_i j want hg
    rw [hg]
    generalize hv : gvalL ts all j = v at h
    unfold gK at h
    split at h
    · rename_i b
      refine ⟨some b, guardOf_gval hv, ?_⟩
      by_cases e : b = want
      · subst e; rw [if_pos (by simp)]; exact opK_sound T (h.1 rfl)
      · rw [if_neg (by simpa using e)]
        have hs := h.2 (by cases b <;> cases want <;> simp_all)
        unfold skipK at hs
        cases hd : o.dst with
        | none => rw [hd] at hs; exact ⟨by simp, hs⟩
        | some d => rw [hd] at hs; exact ⟨fun d' e' => by cases e'; exact hs.1, hs.2⟩
    · refine ⟨none, guardOf_gval hv, ?_⟩
      rw [if_neg (by simp)]
      unfold skipK at h
      cases hd : o.dst with
      | none => rw [hd] at h; exact ⟨by simp, h⟩
      | some d => rw [hd] at h; exact ⟨fun d' e' => by cases e'; exact h.1, h.2⟩
    · exact h.elim

theorem SpecG.mono {ops : Array Oper} {o : Oper} {ts : TS} {K K' : TS → Prop} (h : SpecG P ops o ts K) (hk : ∀ ts, K ts → K' ts) : SpecG P ops o ts K' := by
  unfold SpecG at h ⊢
  split
  · rename_i hg; rw [hg] at h; exact SpecO.mono h hk
  · rename_i j want hg
    rw [hg] at h
    obtain ⟨b, h1, h2⟩ := h
    refine ⟨b, h1, ?_⟩
    split
    · rename_i e; rw [if_pos e] at h2; exact SpecO.mono h2 hk
    · rename_i e; rw [if_neg e] at h2; exact ⟨h2.1, hk _ h2.2⟩

theorem wOps.sound {T : Tys P} {all : List Oper} : ∀ {l : List Oper} {ts : TS} {K : TS → Prop}, wOps T all l K ts → SpecOs P (List.toArray all) K l ts
  | [], _, _, h => h
  | _ :: _, _, _, h => SpecG.mono (wG.sound h) fun _ h => wOps.sound h

/-- What comes behind, under a name. -/
structure NxK (next K : TS → Prop) : Prop where
  out : ∀ ts, next ts → K ts
structure Nx (a b : Prop) : Prop where
  out : a → b

theorem SpecC.regW (T : Tys P) {id : Nat} {l : List Oper} {ts : TS} {Q : Exit → TS → Prop} (h : ∀ K, NxK (fun ts' => Q .normal ts') K → wOps T l l K ts) : SpecC P (.region id (List.toArray l) false) ts Q :=
  SpecC.region (wOps.sound (h _ ⟨fun _ h => h⟩))

/-! ### Regions that draw their order -/
def gOk (bad : List Nat) : List Oper → Nat → Bool
  | [], _ => false
  | o :: _, 0 => match o.dst with
    | some d => !bad.contains d
    | none => false
  | _ :: l, j + 1 => gOk bad l j

def tgtOk (wr : List Nat) (F : TS) (o : Oper) : Bool :=
  match o.op with
  | .store _ p _ => match F.ev p with
    | .ref d _ _ => wr.contains d
    | .eref d _ _ _ => wr.contains d
    | _ => true
  | _ => true

/-- What is decided off the text alone. -/
def drawS (all : List Oper) (wr bad : List Nat) (o : Oper) : Bool :=
  drawable o && (match o.dst with | some d => wr.contains d && !bad.contains d | none => true) && wr.all (fun t => !bad.contains t) &&
  (o.op.operands.toList.all fun x => match x with | .tmp t => !bad.contains t | _ => true) && (match o.guard with | some (j, _) => gOk bad all j | none => true)

/-- What hangs on the values: what the operands point to. -/
def opndOk (bad : List Nat) (F : TS) : List Operand → Bool
  | [] => true
  | .tmp t :: l => vOk bad (F.tmp t) && opndOk bad F l
  | _ :: l => opndOk bad F l

def wDraw (T : Tys P) (all : List Oper) : List (List Nat × List Nat) → List Oper → (TS → Prop) → TS → Prop
  | [], l, K, ts => wOps T all l K ts
  | _ :: _, [], _, _ => False
  | (wr, bad) :: r, o :: l, K, ts => wGp T all o (wDraw T all r l K) ts ∧ (opndOk bad ts o.op.operands.toList = true ∧ tgtOk wr ts o = true)

theorem gOk_spec {bad : List Nat} : ∀ {l : List Oper} {j : Nat}, gOk bad l j = true → ∃ d, (l[j]?).bind (·.dst) = some d ∧ bad.contains d = false
  | [], _, h => by simp [gOk] at h
  | o :: l, 0, h => by
    unfold gOk at h
    split at h
    · rename_i d hd; exact ⟨d, by simp [hd], by simpa using h⟩
    · cases h
  | o :: l, j + 1, h => by
    obtain ⟨d, h1, h2⟩ := gOk_spec (l := l) (j := j) (by simpa [gOk] using h)
    exact ⟨d, by simpa using h1, h2⟩

theorem opnd_all {bad : List Nat} {F : TS} : ∀ (l : List Operand), (l.all fun x => match x with | .tmp t => !bad.contains t | _ => true) = true → opndOk bad F l = true → (l.all fun x => xOk bad F x) = true
  | [], _, _ => rfl
  | x :: r, h1, h2 => by
    simp only [List.all_cons, Bool.and_eq_true] at h1 ⊢
    cases x with
    | tmp t =>
      simp only [opndOk, Bool.and_eq_true] at h2
      exact ⟨by simp only [xOk, Bool.and_eq_true]; exact ⟨h1.1, h2.1⟩, opnd_all r h1.2 h2.2⟩
    | _ => exact ⟨rfl, opnd_all r h1.2 (by simpa [opndOk] using h2)⟩

theorem wDraw.step {T : Tys P} {all : List Oper} {wrs bads : List (List Nat)} {C : TS → Prop} {i : Nat} {o : Oper} {l : List Oper} {F : TS} {wr bad : List Nat} (hw : wrs.getD i [] = wr) (hb : bads.getD i [] = bad)
    (hs : drawS all wr bad o = true) (ho : opndOk bad F o.op.operands.toList = true) (ht : tgtOk wr F o = true)
    (h : wGp T all o (fun F' => PreOk P (List.toArray all) wrs bads C (i + 1) l F') F) : PreOk P (List.toArray all) wrs bads C i (o :: l) F := by
  simp only [drawS, Bool.and_eq_true] at hs
  obtain ⟨⟨⟨⟨h1, h2⟩, h3⟩, h4⟩, h5⟩ := hs
  have hops := opnd_all _ h4 ho
  have hdst : ∀ d, o.dst = some d → wr.contains d = true ∧ bad.contains d = false := fun d hd => by
    rw [hd] at h2; simp only [Bool.and_eq_true, Bool.not_eq_true'] at h2; exact h2
  have hmem : ∀ d, wr.contains d = true → d ∈ wr := fun d hd => List.contains_iff_mem.1 hd
  have main : opKp T o F (fun F' => PreOk P (List.toArray all) wrs bads C (i + 1) l F') → ∃ g, Loc wr g ∧ PreOk P (List.toArray all) wrs bads C (i + 1) l (g F) ∧ ∀ J (K' : TS → Prop), K' (g (mix bad J F)) → SpecO P o (mix bad J F) K' := fun h => by
    obtain ⟨g, ws, g1, g2, g3, g4⟩ := opK_loc T hops h1 (fun d hd => (hdst d hd).2) h
    refine ⟨g, g1.wide fun t htw => ?_, g3, fun J K' hk => opK_sound T (g4 J K' hk)⟩
    rcases g2 t htw with hd | htg
    · exact hmem t (hdst t hd).1
    · unfold tgtOf at htg
      unfold tgtOk at ht
      split at htg
      · rename_i p x hop
        rw [hop] at ht
        simp only at ht
        split at htg
        · rename_i hev; rw [hev] at ht; subst htg; exact hmem _ ht
        · rename_i hev; rw [hev] at ht; subst htg; exact hmem _ ht
        · exact htg.elim
      · exact htg.elim
  unfold wGp at h
  split at h
  · rename_i hg
    obtain ⟨g, g1, g2, g3⟩ := main h
    refine PreOk.loc hw hb g1 h3 (fun J => ?_) g2
    unfold SpecG
    rw [hg]
    exact g3 J _ rfl
  · rename_i j want hg
    rw [hg] at h5
    obtain ⟨d, hd1, hd2⟩ := gOk_spec h5
    have hd1' : ((List.toArray all)[j]?).bind (·.dst) = some d := by simpa using hd1
    have hv : gvalL F all j = F.tmp d := by rw [gvalL_eq, hd1]
    have hgd : ∀ J, guardOf (List.toArray all) (mix bad J F) j = guardOf (List.toArray all) F j := fun J => by
      unfold guardOf
      rw [hd1']
      simp only [(mix_out (J := J) (F := F) hd2).1]
    generalize hvv : gvalL F all j = v at h
    have skip : ∀ b : Option Bool, guardOf (List.toArray all) F j = some b → b ≠ some want → skipK o.dst (fun F' => PreOk P (List.toArray all) wrs bads C (i + 1) l F') F → PreOk P (List.toArray all) wrs bads C i (o :: l) F := fun b hgb hne hs => by
      unfold skipK at hs
      cases hdo : o.dst with
      | none =>
        rw [hdo] at hs
        refine PreOk.loc hw hb (Loc.id wr) h3 (fun J => ?_) hs
        unfold SpecG
        rw [hg]
        refine ⟨b, by rw [hgd]; exact hgb, ?_⟩
        rw [if_neg (by simpa using hne), hdo]
        exact ⟨by simp, rfl⟩
      | some e =>
        rw [hdo] at hs
        refine PreOk.loc hw hb ((Loc.put e (.tup [])).wide fun t ht' => by
          have : t = e := by simpa using ht'
          subst this; exact hmem _ (hdst _ hdo).1) h3 (fun J => ?_) hs.2
        unfold SpecG
        rw [hg]
        refine ⟨b, by rw [hgd]; exact hgb, ?_⟩
        rw [if_neg (by simpa using hne), hdo]
        exact ⟨fun d' e' => by cases e'; exact hs.1, rfl⟩
    unfold gK at h
    split at h
    · rename_i b
      have hgb := guardOf_gval (b := some b) hvv
      by_cases e : b = want
      · subst e
        obtain ⟨g, g1, g2, g3⟩ := main (h.1 rfl)
        refine PreOk.loc hw hb g1 h3 (fun J => ?_) g2
        unfold SpecG
        rw [hg]
        refine ⟨some b, by rw [hgd]; exact hgb, ?_⟩
        rw [if_pos (by simp)]
        exact g3 J _ rfl
      · exact skip (some b) hgb (by simpa using e) (h.2 (by cases b <;> cases want <;> simp_all))
    · exact skip none (guardOf_gval (b := none) hvv) (by simp) h
    · exact h.elim

def drawSs (all : List Oper) : List (List Nat × List Nat) → List Oper → Bool
  | [], _ => true
  | _ :: _, [] => false
  | (wr, bad) :: r, o :: l => drawS all wr bad o && drawSs all r l

theorem afterK.mono {ts : TS} {dst : Option Nat} {r : Ret} {K1 K2 : TS → Prop} (hk : ∀ ts, K1 ts → K2 ts) (h : afterK ts dst r K1) : afterK ts dst r K2 := by
  cases r <;> cases dst <;> simp only [afterK, setK, newArrK] at h ⊢
  · exact hk _ h
  · exact ⟨h.1, hk _ h.2⟩
  · exact ⟨h.1, hk _ h.2⟩

theorem opKp_mono {T : Tys P} {o : Oper} {F : TS} {K1 K2 : TS → Prop} (hd : drawable o = true) (hops : (o.op.operands.toList.all fun x => xOk [] F x) = true) (hk : ∀ F', K1 F' → K2 F') (h : opKp T o F K1) : opKp T o F K2 := by
  have e : mix [] F F = F := ts_ext rfl fun t => mix_out (by simp)
  have key : (∀ f xs at_, o.op ≠ .call ⟨.value f, xs, at_⟩) → opKp T o F K2 := fun hne => by
    obtain ⟨g, _, _, _, g3, g4⟩ := opK_loc T (bad := []) hops hd (by simp) h
    have := g4 F K2 (by rw [e]; exact hk _ g3)
    rw [e] at this
    unfold opKp
    split
    · rename_i f xs at_ ho; exact absurd ho (hne f xs at_)
    · exact this
  by_cases hc : ∃ f xs at_, o.op = .call ⟨.value f, xs, at_⟩
  · obtain ⟨f, xs, at_, ho⟩ := hc
    obtain ⟨dst, op, ty, pos, after, gd⟩ := o
    subst ho
    have h : callW false P (F.ev f) (xs.toList.map F.ev) dst F K1 := h
    show callW false P (F.ev f) (xs.toList.map F.ev) dst F K2
    unfold callW at h ⊢
    split at h
    · rcases h with ⟨as, lent, r, h1, h2, h3, h4⟩ | ⟨h, _⟩
      · exact .inl ⟨as, lent, r, h1, h2, h3, h4.mono hk⟩
      · cases h
    · exact h.elim
  · exact key fun f xs at_ ho => hc ⟨f, xs, at_, ho⟩

theorem wDraw.pre {T : Tys P} {all : List Oper} {wrs bads : List (List Nat)} {K : TS → Prop} : ∀ (q : List (List Nat × List Nat)) (l : List Oper) (i : Nat) (F : TS), (wrs.zip bads).drop i = q → wrs.length = bads.length → drawSs all q l = true → all.drop i = l → wDraw T all q l K F →
    PreOk P (List.toArray all) wrs bads (SpecOs P (List.toArray all) K (all.drop (i + q.length))) i (l.take q.length) F
  | [], l, i, F, _, _, _, hl, h => by
    rw [List.length_nil, Nat.add_zero, hl]
    exact wOps.sound h
  | (wr, bad) :: r, [], i, F, _, _, _, _, h => h.elim
  | (wr, bad) :: r, o :: l, i, F, hq, hlen, hs, hl, h => by
    obtain ⟨h1, h2, h3⟩ := h
    simp only [drawSs, Bool.and_eq_true] at hs
    have hzi : (wrs.zip bads)[i]? = some (wr, bad) := by
      have := congrArg (fun l => l[0]?) hq
      simpa using this
    have hw : wrs.getD i [] = wr := by
      have : wrs[i]? = some wr := (List.getElem?_zip_eq_some.1 hzi).1
      simp [this]
    have hb : bads.getD i [] = bad := by
      have : bads[i]? = some bad := (List.getElem?_zip_eq_some.1 hzi).2
      simp [this]
    have hq' : (wrs.zip bads).drop (i + 1) = r := by rw [← List.drop_drop, hq]; rfl
    have hl' : all.drop (i + 1) = l := by rw [← List.drop_drop, hl]; rfl
    have e : i + ((wr, bad) :: r).length = i + 1 + r.length := by simp; omega
    rw [e]
    refine wDraw.step (T := T) hw hb hs.1 h2 h3 ?_
    have mono : ∀ {K1 K2 : TS → Prop}, (∀ F', K1 F' → K2 F') → opKp T o F K1 → opKp T o F K2 := fun {K1 K2} hk ho => by
      exact opKp_mono (by
        have := hs.1
        simp only [drawS, Bool.and_eq_true] at this
        exact this.1.1.1.1) (by
        have := hs.1
        simp only [drawS, Bool.and_eq_true] at this
        refine opnd_all _ (List.all_eq_true.2 fun x _ => by cases x <;> simp) ?_
        generalize o.op.operands.toList = xs
        induction xs with
        | nil => rfl
        | cons x r ih => cases x <;> simp [opndOk, ih, vOk_nil]) hk ho
    have hk := fun F' (h : wDraw T all r l K F') => wDraw.pre (wrs := wrs) (bads := bads) r l (i + 1) F' hq' hlen hs.2 hl' h
    unfold wGp at h1 ⊢
    split
    · rename_i hg; rw [hg] at h1; exact mono hk h1
    · rename_i j want hg
      rw [hg] at h1
      simp only at h1
      generalize gvalL F all j = v at h1 ⊢
      unfold gK at h1 ⊢
      have skip : skipK o.dst (wDraw T all r l K) F → skipK o.dst (fun F' => PreOk P (List.toArray all) wrs bads (SpecOs P (List.toArray all) K (all.drop (i + 1 + r.length))) (i + 1) (l.take r.length) F') F := fun h => by
        unfold skipK at h ⊢
        cases hd : o.dst with
        | none => rw [hd] at h; exact hk _ h
        | some d => rw [hd] at h; exact ⟨h.1, hk _ h.2⟩
      split
      · exact ⟨fun e => mono hk (h1.1 e), fun e => skip (h1.2 e)⟩
      · exact skip h1
      · rename_i g1 g2
        split at h1
        · exact (g1 _ rfl).elim
        · exact (g2 rfl).elim
        · exact h1

theorem zip_parts {α β : Type} : ∀ q : List (α × β), (q.map (·.1)).zip (q.map (·.2)) = q
  | [] => rfl
  | x :: r => by simp only [List.map_cons, List.zip_cons_cons, zip_parts r]

theorem SpecC.drawW (T : Tys P) (hmix : P.follows .mixedOrders = true) (q : List (List Nat × List Nat)) {id : Nat} {l : List Oper} {ts : TS} {Q : Exit → TS → Prop}
    (hc : (drawChk (List.toArray l) q.length (q.map (·.1)) (q.map (·.2)) && drawSs l q l) = true) (h : ∀ K, NxK (fun ts' => Q .normal ts') K → wDraw T l q l K ts) : SpecC P (.region id (List.toArray l) true) ts Q := by
  simp only [Bool.and_eq_true] at hc
  have hz := zip_parts q
  have := wDraw.pre (wrs := q.map (·.1)) (bads := q.map (·.2)) q l 0 ts (by rw [hz]; rfl) (by simp) hc.2 rfl (h _ ⟨fun _ h => h⟩)
  exact SpecC.drawP hmix id q.length _ _ hc.1 (by simpa using this)

/-! ### Code -/
theorem SpecC.seqW {x y : Code} {ts : TS} {Q : Exit → TS → Prop} (h : ∀ K, NxK (fun ts' => SpecC P y ts' Q) K → SpecC P x ts (thenK K Q)) : SpecC P (.seq x y) ts Q := SpecC.seq (h _ ⟨fun _ h => h⟩)
theorem SpecC.condW {c : Operand} {x y : Code} {ts : TS} {Q : Exit → TS → Prop} (h : ∀ A B, Nx (SpecC P x ts Q) A → Nx (SpecC P y ts Q) B → condK (ts.ev c) A B) : SpecC P (.cond c x y) ts Q := by
  have := h _ _ ⟨fun h => h⟩ ⟨fun h => h⟩
  unfold condK at this
  split at this
  · rename_i b hb; exact SpecC.cond hb this.1 this.2
  · exact this.elim

/-! ### Calls and ends -/
def CallR (P : Program) (f : FuncId) (args : List AV) (r : Ret) : Prop := CallV P f (args.map Arg.v) fun r' _ => r' = r
/-- A contract of a function that takes its first argument, an array, over. -/
def CallM (P : Program) (f : FuncId) (sz : Nat) (xs args : List AV) (r : Ret) : Prop := CallV P f (.own sz xs :: args.map Arg.v) fun r' _ => r' = r
/-- A contract of a function that may write to the box that its first argument points to. -/
def CallI (P : Program) (f : FuncId) (cs args : List AV) (x : AV) (cs' : List AV) : Prop := CallV P f (.io cs :: args.map Arg.v) fun r' io => r' = .val x ∧ io 0 = cs'

theorem callX.by {m : Bool} {f : FuncId} {vs as : List AV} {lent : List Nat} {dst : Option Nat} {ts : TS} {K : TS → Prop} {r : Ret} (h : CallR P f as r) (hk : (lent = [] ∨ r.flat = true) ∧ afterK ts dst r K) : callX m P f vs (some (as, lent)) dst ts K :=
  .inl ⟨as, lent, r, rfl, h, hk.1, hk.2⟩
theorem callX.mv {f : FuncId} {d g len sz : Nat} {xs rest as : List AV} {q : Option (List AV × List Nat)} {dst : Option Nat} {ts : TS} {K : TS → Prop} {r : Ret}
    (h1 : ((ts.obj d).arr?.map fun q => (q.1, q.2.take len)) = some (sz, xs)) (h3 : ts.toArgs rest = some (as, [])) (hk : (g = ts.gen d ∧ optK (ts.obj d).arr? fun q => len ≤ q.2.length ∧ AV.pure.pureL q.2 = true) ∧ afterK (ts.kill d) dst r K) (h : CallM P f sz xs as r) : callX true P f (.os d g len :: rest) q dst ts K := by
  obtain ⟨⟨hg, ho⟩, hk⟩ := hk
  obtain ⟨⟨sz', zs⟩, ho, hl, hp⟩ := optK_some ho
  rw [ho] at h1
  simp only [Option.map_some, Option.some.injEq, Prod.mk.injEq] at h1
  obtain ⟨rfl, rfl⟩ := h1
  exact .inr ⟨rfl, .inl ⟨d, g, len, sz', zs, rest, as, r, rfl, hg, arr?_some ho, hl, hp, h3, h, hk⟩⟩
def Ob.box? : Ob → Option (List AV)
  | .box cs => some cs
  | _ => none
theorem box?_some {o : Ob} {cs : List AV} (h : o.box? = some cs) : o = .box cs := by
  cases o <;> simp [Ob.box?] at h
  subst h; rfl
theorem callX.io {f : FuncId} {d g : Nat} {cs cs' rest as : List AV} {q : Option (List AV × List Nat)} {dst : Option Nat} {ts : TS} {K : TS → Prop} {x : AV}
    (h1 : (ts.obj d).box? = some cs) (h3 : ts.toArgs rest = some (as, [])) (hk : (g = ts.gen d ∧ AV.pure.pureL cs = true) ∧ setK (ts.setObj d (.box cs')) dst x K) (h : CallI P f cs as x cs') : callX true P f (.ref d g 0 :: rest) q dst ts K :=
  .inr ⟨rfl, .inr (.inl ⟨d, g, cs, cs', rest, as, x, rfl, hk.1.1, box?_some h1, hk.1.2, h3, h, hk.2⟩)⟩
theorem callX.ar {f fg : FuncId} {d g sz len : Nat} {zs zs' : List AV} {q : Option (List AV × List Nat)} {dst : Option Nat} {ts : TS} {K : TS → Prop}
    (h1 : (ts.obj d).arr? = some (sz, zs)) (hk : (g = ts.gen d ∧ len = zs.length) ∧ setK (ts.setObj d (.arr sz zs')) dst (.tup []) K) (h : CallA P f fg sz zs zs') : callX true P f [.os d g len, .clo (.func fg) [] []] q dst ts K := by
  obtain ⟨⟨hg, rfl⟩, hk⟩ := hk
  exact .inr ⟨rfl, .inr (.inr (.inl ⟨d, g, fg, sz, zs, zs', rfl, hg, arr?_some h1, h, hk⟩))⟩
/-- The arrays lent become plain data ahead of the call: the result may hold them. -/
theorem callX.fz {f : FuncId} {vs as : List AV} {lent : List Nat} {dst : Option Nat} {ts : TS} {K : TS → Prop} {r : Ret} (h : CallR P f as r) (hk : afterK (ts.killL lent) dst r K) : callX true P f vs (some (as, lent)) dst ts K :=
  .inr ⟨rfl, .inr (.inr (.inr ⟨as, lent, r, rfl, h, hk⟩))⟩

def endK (Q : TS → Prop) (ex : Exit) (ts : TS) : Prop :=
  match ex with
  | .normal => Q ts
  | .ret => Q ts
  | _ => False

def ownX (ts : TS) (x : AV) (sz : Nat) (zs : List AV) : Prop :=
  match x with
  | .os d g len => g = ts.gen d ∧ optK (ts.obj d).arr? fun q => q.1 = sz ∧ len ≤ q.2.length ∧ AV.pure.pureL (q.2.take len) = true ∧ AV.nrm.nrmL (q.2.take len) = zs
  | .slice true [] => 0 < sz ∧ [] = zs
  | _ => False

theorem Rel.trunc {E : Env} {ts : TS} {G : Ghost} {a : Act} {w : World} (h : Rel E ts G a w) {d sz : Nat} {xs : List AV} (ho : ts.obj d = .arr sz xs) (n : Nat) : Rel E (ts.setObj d (.arr sz (xs.take n))) G a w := by
  have hkind : (fun e => ((ts.setObj d (.arr sz (xs.take n))).obj e).kind) = fun e => (ts.obj e).kind := by
    funext e
    simp only [TS.setObj]
    by_cases he : e = d
    · subst he; rw [upd_same, ho]; rfl
    · rw [upd_ne _ _ he]
  have hlive : ∀ e, liveR (ts.setObj d (.arr sz (xs.take n))) G e ↔ liveR ts G e := fun e => by
    unfold liveR
    rw [congrFun hkind e]
  have hctx : ctxOf E G (ts.setObj d (.arr sz (xs.take n))) w = ctxOf E G ts w := by
    unfold ctxOf
    have e1 : (fun k => E.F k ∨ ∃ e, liveR (ts.setObj d (.arr sz (xs.take n))) G e ∧ G.β e = k) = fun k => E.F k ∨ ∃ e, liveR ts G e ∧ G.β e = k := by
      funext k
      simp only [hlive]
    rw [e1, hkind]
    rfl
  refine ⟨h.size, h.defers, fun t => by rw [hctx]; exact h.tmp t, fun e => ?_, fun e e' h1 h2 h3 => h.sep e e' ((hlive e).1 h1) ((hlive e').1 h2) h3, fun e h1 => h.own e ((hlive e).1 h1), h.inF, h.bel, h.pin⟩
  rw [hctx]
  show ObOk _ e ((upd ts.obj d _) e)
  by_cases he : e = d
  · subst he
    have := h.obj e
    rw [ho] at this
    rw [upd_same]
    exact take_rep this n
  · rw [upd_ne _ _ he]; exact h.obj e

/-- One result: where it lies is a slot, or a box. -/
def oneRes (ts : TS) (rs : List ResultVar) : Bool :=
  match rs with
  | [.tmp _] => true
  | [.cell a _] => (match ts.tmp a with | .ref .. => true | _ => false)
  | _ => false

/-- What must hold where a function ends, of which a contract says r. -/
def EndX (T : Tys P) (rs : List ResultVar) (r : Ret) (ts : TS) : Prop :=
  match r with
  | .val z => optK (ts.result T rs) fun x => optK (x.res ts) fun y => y.nrm = z
  | .own sz zs => oneRes ts rs = true ∧ optK (ts.result T rs) fun x => ownX ts x sz zs

theorem ptr_setArr {ts : TS} {d sz sz' : Nat} {xs ys : List AV} (ho : ts.obj d = .arr sz xs) {x : AV} {cs : List AV} (h : ts.ptr x = some cs) (hx : ∀ g i o, x ≠ .eref d g i o) : (ts.setObj d (.arr sz' ys)).ptr x = some cs := by
  cases x with
  | ref e g off =>
    simp only [TS.ptr] at h ⊢
    by_cases he : e = d
    · subst he
      rw [ho] at h
      split at h <;> simp at h
    · simp only [TS.setObj, upd_ne _ _ he]; exact h
  | eref e g i o =>
    by_cases he : e = d
    · subst he; exact absurd rfl (hx g i o)
    · simp only [TS.ptr, TS.setObj, upd_ne _ _ he] at h ⊢; exact h
  | _ => exact h

theorem resV_setArr {T : Tys P} {ts : TS} {d sz sz' : Nat} {xs ys : List AV} (ho : ts.obj d = .arr sz xs) {r : ResultVar} {x : AV} (h : ts.resV T r = some x) (hx : match r with | .tmp _ => True | .cell a _ => ∀ g i o, ts.tmp a ≠ .eref d g i o) : (ts.setObj d (.arr sz' ys)).resV T r = some x := by
  cases r with
  | tmp t => exact h
  | cell a t =>
    simp only [TS.resV] at h ⊢
    split at h
    · cases h
    · split at h
      · rename_i cs hp
        have : (ts.setObj d (.arr sz' ys)).ptr ((ts.setObj d (.arr sz' ys)).tmp a) = some cs := ptr_setArr ho hp hx
        rw [this]; exact h
      · cases h

theorem EndX_trunc {T : Tys P} {ts : TS} {d sz sz' : Nat} {xs ys : List AV} (ho : ts.obj d = .arr sz xs) {rs : List ResultVar} (h1 : oneRes ts rs = true) {x : AV} (h : ts.result T rs = some x) : (ts.setObj d (.arr sz' ys)).result T rs = some x := by
  unfold oneRes at h1
  split at h1
  · exact h
  · rename_i a u
    rw [result_cell] at h ⊢
    refine resV_setArr ho h ?_
    split at h1
    · rename_i hr
      intro g i o
      rw [hr]; simp
    · cases h1
  · cases h1

/-- The general beginning: no box among the arguments. -/
theorem CallV.go {T : Tys P} {f : FuncId} {fn : Func} {c : Code} {args : List Arg} {rs : List ResultVar} {r : Ret} (hcall : ∀ (vals : Array Value) (w : World), (callFunc f vals).run P w = .ok (.enter f vals) w)
    (hf : P.funcs[f]? = some fn) (hb : fn.body = some c) {n : Nat} (hnt : fn.ntmps = n) (hrs : fn.results.toList = rs) (hn : args.length ≤ n) (hio : ∀ (j : Nat) (cs : List AV), args[j]? ≠ some (Arg.io cs))
    (h : ∀ ts : TS, ts.n = n → ArgsAt ts 0 args → SpecC P c ts (endK (EndX T rs r))) : CallV P f args fun r' _ => r' = r := by
  subst hnt
  refine CallV.fit hio ?_
  refine CallV.of_body (T := T) hcall hf hb hn ?_
  have hs := h (argTS args fn.ntmps) rfl (argsAt_argTS _ args args 0 fun i => by simp)
  intro E G a w hr
  refine wp_mono (hs E G a w hr) ?_
  rintro e a' w' ⟨ts', G', he, hr'⟩
  have key : (e = .normal ∨ e = .ret) → EndX T rs r ts' → ∃ ts'' G'', (EndsP T fn args (Ret.fits fun r' _ => r' = r) e ts'' ∨ EndsO T fn args (Ret.fits fun r' _ => r' = r) e ts'') ∧ Rel E ts'' G'' a' w' := fun hex hx => by
    cases r with
    | val z =>
      obtain ⟨x, h3, h4⟩ := optK_some hx
      obtain ⟨y, h5, h6⟩ := optK_some h4
      exact ⟨ts', G', .inl ⟨hex, x, y, fun _ => [], by rw [hrs]; exact h3, h5, by refine .inl ?_; show Ret.val y.nrm = _; rw [h6], fun j cs h => absurd h (hio j cs)⟩, hr'⟩
    | own sz zs =>
      obtain ⟨h1r, hx⟩ := hx
      obtain ⟨x, h3, h4⟩ := optK_some hx
      unfold ownX at h4
      split at h4
      · rename_i d g len
        obtain ⟨h5, h6⟩ := h4
        obtain ⟨⟨sz', xs⟩, ho, rfl, h7, h8, h9⟩ := optK_some h6
        have ho := arr?_some ho
        refine ⟨_, G', .inr ⟨hex, d, g, sz', xs.take len, fun _ => [], ?_, ?_, ?_, h8, ?_, fun j cs h => absurd h (hio j cs)⟩, hr'.trunc ho len⟩
        · have hl : (xs.take len).length = len := by simp only at h7; simp; omega
          rw [hrs, hl]
          exact EndX_trunc ho h1r h3
        · simp [TS.setObj]; exact h5
        · simp [TS.setObj]
        · refine .inl ?_; show Ret.own sz' (AV.nrm.nrmL (xs.take len)) = _; rw [h9]
      · exact ⟨ts', G', .inl ⟨hex, .slice true [], .slice true [], fun _ => [], by rw [hrs]; exact h3, rfl, .inr ⟨rfl, sz, h4.1, by rw [h4.2]⟩, fun j cs h => absurd h (hio j cs)⟩, hr'⟩
      · exact h4.elim
  cases e with
  | normal => exact key (.inl rfl) he
  | ret => exact key (.inr rfl) he
  | _ => exact he.elim

theorem CallR.go {T : Tys P} {f : FuncId} {fn : Func} {c : Code} {args : List AV} {rs : List ResultVar} {r : Ret} (hcall : ∀ (vals : Array Value) (w : World), (callFunc f vals).run P w = .ok (.enter f vals) w)
    (hf : P.funcs[f]? = some fn) (hb : fn.body = some c) {n : Nat} (hnt : fn.ntmps = n) (hrs : fn.results.toList = rs) (hn : args.length ≤ n)
    (h : ∀ ts : TS, ts.n = n → ArgsAt ts 0 (args.map Arg.v) → SpecC P c ts (endK (EndX T rs r))) : CallR P f args r :=
  CallV.go hcall hf hb hnt hrs (by simpa using hn) (fun j cs h => by simp only [List.getElem?_map] at h; cases hh : args[j]? <;> rw [hh] at h <;> simp at h) h

section go
variable {T : Tys P} {f : FuncId} {fn : Func} {c : Code} {rs : List ResultVar} {r : Ret} (hcall : ∀ (vals : Array Value) (w : World), (callFunc f vals).run P w = .ok (.enter f vals) w)
    (hf : P.funcs[f]? = some fn) (hb : fn.body = some c) {n : Nat} (hnt : fn.ntmps = n) (hrs : fn.results.toList = rs)
include hcall hf hb hnt hrs
theorem CallR.go0 (h : ∀ ts : TS, ts.n = n → SpecC P c ts (endK (EndX T rs r))) : CallR P f [] r := CallR.go hcall hf hb hnt hrs (Nat.zero_le _) fun ts h1 _ => h ts h1
theorem CallR.go1 {a : AV} (hn : 1 ≤ n) (h : ∀ ts : TS, ts.n = n → ts.tmp 0 = a → SpecC P c ts (endK (EndX T rs r))) : CallR P f [a] r := CallR.go hcall hf hb hnt hrs hn fun ts h1 h2 => h ts h1 h2.1
theorem CallR.go2 {a b : AV} (hn : 2 ≤ n) (h : ∀ ts : TS, ts.n = n → ts.tmp 0 = a → ts.tmp 1 = b → SpecC P c ts (endK (EndX T rs r))) : CallR P f [a, b] r := CallR.go hcall hf hb hnt hrs hn fun ts h1 h2 => h ts h1 h2.1 h2.2.1
theorem CallR.go3 {a b d : AV} (hn : 3 ≤ n) (h : ∀ ts : TS, ts.n = n → ts.tmp 0 = a → ts.tmp 1 = b → ts.tmp 2 = d → SpecC P c ts (endK (EndX T rs r))) : CallR P f [a, b, d] r := CallR.go hcall hf hb hnt hrs hn fun ts h1 h2 => h ts h1 h2.1 h2.2.1 h2.2.2.1
theorem CallR.go4 {a b d e : AV} (hn : 4 ≤ n) (h : ∀ ts : TS, ts.n = n → ts.tmp 0 = a → ts.tmp 1 = b → ts.tmp 2 = d → ts.tmp 3 = e → SpecC P c ts (endK (EndX T rs r))) : CallR P f [a, b, d, e] r :=
  CallR.go hcall hf hb hnt hrs hn fun ts h1 h2 => h ts h1 h2.1 h2.2.1 h2.2.2.1 h2.2.2.2.1
theorem CallR.go5 {a b d e g : AV} (hn : 5 ≤ n) (h : ∀ ts : TS, ts.n = n → ts.tmp 0 = a → ts.tmp 1 = b → ts.tmp 2 = d → ts.tmp 3 = e → ts.tmp 4 = g → SpecC P c ts (endK (EndX T rs r))) : CallR P f [a, b, d, e, g] r :=
  CallR.go hcall hf hb hnt hrs hn fun ts h1 h2 => h ts h1 h2.1 h2.2.1 h2.2.2.1 h2.2.2.2.1 h2.2.2.2.2.1
theorem CallM.go0 {sz : Nat} {xs : List AV} (hn : 1 ≤ n) (h : ∀ ts : TS, ts.n = n → ts.tmp 0 = .os 0 0 xs.length → ts.gen 0 = 0 → ts.obj 0 = .arr sz xs → SpecC P c ts (endK (EndX T rs r))) : CallM P f sz xs [] r :=
  CallV.go hcall hf hb hnt hrs hn (fun j cs h => by cases j <;> simp at h) fun ts h1 h2 => h ts h1 h2.1.1 h2.1.2.1 h2.1.2.2
theorem CallM.go1 {sz : Nat} {xs : List AV} {a : AV} (hn : 2 ≤ n) (h : ∀ ts : TS, ts.n = n → ts.tmp 0 = .os 0 0 xs.length → ts.gen 0 = 0 → ts.obj 0 = .arr sz xs → ts.tmp 1 = a → SpecC P c ts (endK (EndX T rs r))) : CallM P f sz xs [a] r :=
  CallV.go hcall hf hb hnt hrs hn (fun j cs h => by match j, h with | 0, h => simp at h | 1, h => simp at h | j + 2, h => simp at h) fun ts h1 h2 => h ts h1 h2.1.1 h2.1.2.1 h2.1.2.2 h2.2.1
theorem CallM.go2 {sz : Nat} {xs : List AV} {a b : AV} (hn : 3 ≤ n) (h : ∀ ts : TS, ts.n = n → ts.tmp 0 = .os 0 0 xs.length → ts.gen 0 = 0 → ts.obj 0 = .arr sz xs → ts.tmp 1 = a → ts.tmp 2 = b → SpecC P c ts (endK (EndX T rs r))) : CallM P f sz xs [a, b] r :=
  CallV.go hcall hf hb hnt hrs hn (fun j cs h => by match j, h with | 0, h => simp at h | 1, h => simp at h | 2, h => simp at h | j + 3, h => simp at h) fun ts h1 h2 => h ts h1 h2.1.1 h2.1.2.1 h2.1.2.2 h2.2.1 h2.2.2.1
end go
end Go.Proofs.YtbggigdchkiffaaDoor.Lg

/- The rules by which the engine is reckoned out. -/
namespace Go.Proofs.YtbggigdchkiffaaDoor.Lg
set_option linter.unusedVariables false
set_option linter.unusedSimpArgs false
open Go
variable {P : Program}

/-- A round is over: the loop goes on. -/
structure Again (I : Nat → TS → Prop) (n : Nat) (A : TS → Prop) : Prop where
  on : ∀ (m : Nat) {ts : TS}, m < n → I m ts → A ts
theorem SpecC.loopW {c : Code} {ts : TS} {Q : Exit → TS → Prop} (I : Nat → TS → Prop) (n : Nat) (h0 : I n ts) (round : ∀ n A, Again I n A → ∀ ts, I n ts → SpecC P c ts (thenK A Q)) : SpecC P (.loop c) ts Q :=
  SpecC.loop I n h0 fun n ts h => round n _ ⟨fun m _ hm hi => ⟨m, hm, hi⟩⟩ ts h

/-- Some slots, with what they point to, are as they were. -/
def keepL (a b : TS) : List Nat → Prop
  | [] => True
  | t :: r => a.tmp t = b.tmp t ∧ a.gen t = b.gen t ∧ a.obj t = b.obj t ∧ keepL a b r
def Keeps (keep : List Nat) (a b : TS) : Prop := a.n = b.n ∧ keepL a b keep
theorem keepL.rfl' (a : TS) : ∀ l : List Nat, keepL a a l
  | [] => trivial
  | _ :: r => ⟨rfl, rfl, rfl, keepL.rfl' a r⟩
/-- The same frame and world may be read the other way, too. -/
def Ent (ts ts' : TS) : Prop := ∀ E G a w, Rel E ts G a w → ∃ G', Rel E ts' G' a w
theorem Ent.rfl' (ts : TS) : Ent ts ts := fun _ G _ _ h => ⟨G, h⟩
theorem Ent.trans {a b c : TS} (h : Ent a b) (k : Ent b c) : Ent a c := fun E G x w hr => by
  obtain ⟨G', h'⟩ := h E G x w hr
  exact k E G' x w h'
theorem SpecC.ent {c : Code} {ts ts' : TS} {Q : Exit → TS → Prop} (he : Ent ts ts') (h : SpecC P c ts' Q) : SpecC P c ts Q := fun E G a w hr => by
  obtain ⟨G', hr'⟩ := he E G a w hr
  exact h E G' a w hr'

/-- An own array gets the slot of the variable that holds it. -/
def AV.reos (t g : Nat) : AV → AV
  | .os _ _ len => .os t g len
  | x => x
def canV (ts : TS) (d : Nat) : AV → Bool
  | .os e g _ => e == d && g == ts.gen d && (ts.obj d).arr?.isSome
  | _ => false
theorem Ent.ren {ts : TS} (t d : Nat) (h : canV ts d (ts.tmp t) = true) (hn : t < ts.n) : Ent ts ((ts.ren d t).put t ((ts.tmp t).reos t (ts.gen t + 1))) := fun E G a w hr => by
  have hv := hr.tmp t
  generalize ts.tmp t = x at h hv
  cases x with
  | os e g len =>
    simp only [canV, Bool.and_eq_true, beq_iff_eq] at h
    obtain ⟨⟨rfl, h2⟩, h3⟩ := h
    obtain ⟨⟨sz, xs⟩, ho⟩ := Option.isSome_iff_exists.1 h3
    have ho := arr?_some ho
    obtain ⟨h1c, hgl, hos⟩ := rep_os hv
    have hos := hos h2 (by simp [ctxOf, ho, Ob.kind])
    have key := hr.ren (d := e) (d' := t) hn (v := a.tmps.getD t undef) (x := .os t (ts.gen t + 1) len) (.os t _ _ _ h1c (by simp [ctxOf, TS.ren]) fun _ _ => by
      unfold OsIs at hos ⊢
      simpa [ctxOf, Ghost.set] using hos)
    have ha : a.put (some t) (a.tmps.getD t undef) = a := by
      have hs : t < a.tmps.size := by rw [hr.size]; exact hn
      cases a with
      | mk tmps defers =>
        simp only [Act.put]
        congr 1
        simp only at hs
        rw [Array.getD_eq_getD_getElem?, Array.getElem?_eq_getElem hs]
        apply Array.ext
        · simp
        · intro i h1 h2
          by_cases e : t = i
          · subst e; simp
          · rw [Array.getElem_setIfInBounds (by simpa using h2)]; simp [e]
    rw [ha] at key
    exact ⟨_, key⟩
  | _ => simp [canV] at h

/-- A nil slice is an own array of no elements. -/
theorem Ent.virt {ts : TS} (t sz : Nat) (h : ts.tmp t = .slice true []) (hsz : 0 < sz) : Ent ts ((ts.new t (.arr sz [])).put t (.os t (ts.gen t + 1) 0)) := fun E G a w hr => by
  have h0 := hr.tmp t
  rw [h] at h0
  exact ⟨_, (hr.newVirt t sz hsz).reput (nil_os h0)⟩

/-- An own array is plain data from here on. -/
theorem Ent.frz {ts : TS} (t : Nat) {d g len : Nat} (h1 : ts.tmp t = .os d g len) (h2 : g = ts.gen d) {sz : Nat} {xs : List AV} (h3 : (ts.obj d).arr? = some (sz, xs)) (h4 : len ≤ xs.length) : Ent ts ((ts.kill d).put t (.slice false (xs.take len))) := fun E G a w hr => by
  have hv := hr.tmp t
  rw [h1] at hv
  exact ⟨G, (hr.kill d).reput (Rep.frozen hr hv h2 (arr?_some h3) h4)⟩

structure AgainF (keep : List Nat) (ts0 : TS) (I : Nat → TS → Prop) (n : Nat) (A : TS → Prop) : Prop where
  onE : ∀ (m : Nat) {ts ts' : TS}, Ent ts ts' → m < n → Keeps keep ts' ts0 → I m ts' → A ts
theorem AgainF.on {keep : List Nat} {ts0 : TS} {I : Nat → TS → Prop} {n : Nat} {A : TS → Prop} (h : AgainF keep ts0 I n A) (m : Nat) {ts : TS} (hm : m < n) (hk : Keeps keep ts ts0) (hi : I m ts) : A ts := h.onE m (Ent.rfl' ts) hm hk hi
theorem SpecC.loopF {c : Code} {ts : TS} {Q : Exit → TS → Prop} (keep : List Nat) (I : Nat → TS → Prop) (n : Nat) (h0 : I n ts) (round : ∀ n A, AgainF keep ts I n A → ∀ ts', Keeps keep ts' ts → I n ts' → SpecC P c ts' (thenK A Q)) : SpecC P (.loop c) ts Q :=
  SpecC.loop (fun n ts' => ∃ ts2, Ent ts' ts2 ∧ Keeps keep ts2 ts ∧ I n ts2) n ⟨ts, Ent.rfl' ts, ⟨rfl, keepL.rfl' ts keep⟩, h0⟩ fun n ts' h => by
    obtain ⟨ts2, h1, h2, h3⟩ := h
    exact SpecC.ent h1 (round n _ ⟨fun m _ ts4 he hm hk hi => ⟨m, hm, ts4, he, hk, hi⟩⟩ ts2 h2 h3)

theorem SpecC.scopeF {c rest : Code} {ts : TS} {Q : Exit → TS → Prop} (l : Nat) (keep : List Nat) (I : Nat → TS → Prop) (n0 : Nat) (hf : findLabel c l = some rest) (first : ∀ J, AgainF keep ts I n0 J → SpecC P c ts (jumpK l J Q))
    (pass : ∀ n J, AgainF keep ts I n J → ∀ ts', Keeps keep ts' ts → I n ts' → SpecC P rest ts' (jumpK l J Q)) : SpecC P (.scope c) ts Q :=
  SpecC.scope_jumps l (fun n ts' => ∃ ts2, Ent ts' ts2 ∧ Keeps keep ts2 ts ∧ I n ts2) hf (first _ ⟨fun m _ ts4 he _ hk hi => ⟨m, ts4, he, hk, hi⟩⟩) fun n ts' h => by
    obtain ⟨ts2, h1, h2, h3⟩ := h
    exact SpecC.ent h1 (pass n _ ⟨fun m _ ts4 he hm hk hi => ⟨m, hm, ts4, he, hk, hi⟩⟩ ts2 h2 h3)

@[congr] theorem optK_cong {α : Type} {x x' : Option α} {K : α → Prop} (hx : x = x') : (optK (α := α) x K) = (optK (α := α) x' K) := by subst hx; rfl
@[congr] theorem boolK_cong {x x' : AV} {K : Bool → Prop} (hx : x = x') : (boolK x K) = (boolK x' K) := by subst hx; rfl
@[congr] theorem intK_cong {x x' : AV} {K : IntKind → Int → Prop} (hx : x = x') : (intK x K) = (intK x' K) := by subst hx; rfl

def opsL (o : Oper) : List Operand := o.op.operands.toList
def tgtV (wr : List Nat) (v : AV) : Bool :=
  match v with
  | .ref d _ _ => wr.contains d
  | .eref d _ _ _ => wr.contains d
  | _ => true

section
variable (T : Tys P) (all l : List Oper) (o : Oper) (ts : TS) (K : TS → Prop) (Q : Exit → TS → Prop) (dst : Option Nat) (ty : TypeId) (pos : String) (after : Array Edge) (g : Option (Nat × Bool)) (wr bad : List Nat) (r : List (List Nat × List Nat))
@[go_sem] theorem reos_os (t q d p len : Nat) : (AV.os d p len).reos t q = .os t q len := rfl
@[go_sem] theorem canV_os (d e q len : Nat) : canV ts d (.os e q len) = (e == d && q == ts.gen d && (ts.obj d).arr?.isSome) := rfl
@[go_sem] theorem tmp_ren (d d' : Nat) : (ts.ren d d').tmp = ts.tmp := rfl
@[go_sem] theorem n_ren (d d' : Nat) : (ts.ren d d').n = ts.n := rfl
@[go_sem] theorem gen_ren (d d' u : Nat) : (ts.ren d d').gen u = if u = d' then ts.gen d' + 1 else ts.gen u := rfl
@[go_sem] theorem obj_ren (d d' u : Nat) : (ts.ren d d').obj u = if u = d' then ts.obj d else if u = d then .dead else ts.obj u := rfl
@[go_sem] theorem keepL_nil (a b : TS) : keepL a b [] = True := rfl
@[go_sem] theorem keepL_cons (a b : TS) (t : Nat) (r : List Nat) : keepL a b (t :: r) = (a.tmp t = b.tmp t ∧ a.gen t = b.gen t ∧ a.obj t = b.obj t ∧ keepL a b r) := rfl
@[go_sem] theorem Keeps_eq (keep : List Nat) (a b : TS) : Keeps keep a b = (a.n = b.n ∧ keepL a b keep) := rfl
@[go_sem] theorem wOps_nil : wOps T all [] K ts = K ts := rfl
@[go_sem] theorem wOps_cons : wOps T all (o :: l) K ts = wG T all o (wOps T all l K) ts := rfl
@[go_sem] theorem wG_none (op : Op) : wG T all ⟨dst, op, ty, pos, after, none⟩ K ts = opK T ⟨dst, op, ty, pos, after, none⟩ ts K := rfl
@[go_sem] theorem wG_some (op : Op) (j : Nat) (want : Bool) : wG T all ⟨dst, op, ty, pos, after, some (j, want)⟩ K ts = gK (gvalL ts all j) want (opKt T ⟨dst, op, ty, pos, after, some (j, want)⟩ K) (skipK dst K) ts := rfl
@[go_sem] theorem opKt_eq : opKt T o K ts = opK T o ts K := rfl
@[go_sem] theorem gvalL_zero (d : Nat) (op : Op) : gvalL ts (⟨some d, op, ty, pos, after, g⟩ :: l) 0 = ts.tmp d := rfl
@[go_sem] theorem gvalL_succ (j : Nat) : gvalL ts (o :: l) (j + 1) = gvalL ts l j := rfl
@[go_sem] theorem gK_tt (A B : TS → Prop) : gK (.bool true) true A B ts = A ts := by simp [gK]
@[go_sem] theorem gK_ff (A B : TS → Prop) : gK (.bool false) false A B ts = A ts := by simp [gK]
@[go_sem] theorem gK_tf (A B : TS → Prop) : gK (.bool true) false A B ts = B ts := by simp [gK]
@[go_sem] theorem gK_ft (A B : TS → Prop) : gK (.bool false) true A B ts = B ts := by simp [gK]
@[go_sem] theorem gK_skip (w : Bool) (A B : TS → Prop) : gK (.tup []) w A B ts = B ts := rfl
@[go_sem] theorem condK_t (A B : Prop) : condK (.bool true) A B = A := by simp [condK]
@[go_sem] theorem condK_f (A B : Prop) : condK (.bool false) A B = B := by simp [condK]
@[go_sem] theorem skipK_some (d : Nat) : skipK (some d) K ts = (d < ts.n ∧ K (ts.put d (.tup []))) := rfl
@[go_sem] theorem skipK_none : skipK none K ts = K ts := rfl
@[go_sem] theorem wDraw_nil : wDraw T all [] l K ts = wOps T all l K ts := rfl
@[go_sem] theorem wDraw_cons : wDraw T all ((wr, bad) :: r) (o :: l) K ts = (wGp T all o (wDraw T all r l K) ts ∧ (opndOk bad ts (opsL o) = true ∧ tgtOk wr ts o = true)) := rfl
@[go_sem] theorem opndOk_nil : opndOk bad ts [] = true := rfl
@[go_sem] theorem opndOk_tmp (t : Nat) (xs : List Operand) : opndOk bad ts (.tmp t :: xs) = (vOk bad (ts.tmp t) && opndOk bad ts xs) := rfl
@[go_sem] theorem opndOk_const (v : Value) (xs : List Operand) : opndOk bad ts (.const v :: xs) = opndOk bad ts xs := rfl
@[go_sem] theorem opndOk_func (f : Nat) (xs : List Operand) : opndOk bad ts (.func f :: xs) = opndOk bad ts xs := rfl
@[go_sem] theorem opsL_move (x : Operand) : opsL ⟨dst, .move x, ty, pos, after, g⟩ = [x] := rfl
@[go_sem] theorem tgtOk_move (x : Operand) : tgtOk wr ts ⟨dst, .move x, ty, pos, after, g⟩ = true := rfl
@[go_sem] theorem opsL_assign (x : Operand) : opsL ⟨dst, .assign x, ty, pos, after, g⟩ = [x] := rfl
@[go_sem] theorem tgtOk_assign (x : Operand) : tgtOk wr ts ⟨dst, .assign x, ty, pos, after, g⟩ = true := rfl
@[go_sem] theorem opsL_pick (c x y : Operand) : opsL ⟨dst, .pick c x y, ty, pos, after, g⟩ = [c, x, y] := rfl
@[go_sem] theorem tgtOk_pick (c x y : Operand) : tgtOk wr ts ⟨dst, .pick c x y, ty, pos, after, g⟩ = true := rfl
@[go_sem] theorem opsL_alloc (t : TypeId) : opsL ⟨dst, .alloc t, ty, pos, after, g⟩ = [] := rfl
@[go_sem] theorem tgtOk_alloc (t : TypeId) : tgtOk wr ts ⟨dst, .alloc t, ty, pos, after, g⟩ = true := rfl
@[go_sem] theorem opsL_box (t : TypeId) (x : Operand) : opsL ⟨dst, .box t x, ty, pos, after, g⟩ = [x] := rfl
@[go_sem] theorem tgtOk_box (t : TypeId) (x : Operand) : tgtOk wr ts ⟨dst, .box t x, ty, pos, after, g⟩ = true := rfl
@[go_sem] theorem opsL_load (t : TypeId) (x : Operand) : opsL ⟨dst, .load t x, ty, pos, after, g⟩ = [x] := rfl
@[go_sem] theorem tgtOk_load (t : TypeId) (x : Operand) : tgtOk wr ts ⟨dst, .load t x, ty, pos, after, g⟩ = true := rfl
@[go_sem] theorem opsL_fieldAddr (t : TypeId) (x : Operand) (f : Nat) : opsL ⟨dst, .fieldAddr t x f, ty, pos, after, g⟩ = [x] := rfl
@[go_sem] theorem tgtOk_fieldAddr (t : TypeId) (x : Operand) (f : Nat) : tgtOk wr ts ⟨dst, .fieldAddr t x f, ty, pos, after, g⟩ = true := rfl
@[go_sem] theorem opsL_indexAddr (t : TypeId) (x y : Operand) : opsL ⟨dst, .indexAddr t x y, ty, pos, after, g⟩ = [x, y] := rfl
@[go_sem] theorem tgtOk_indexAddr (t : TypeId) (x y : Operand) : tgtOk wr ts ⟨dst, .indexAddr t x y, ty, pos, after, g⟩ = true := rfl
@[go_sem] theorem opsL_index (t : TypeId) (x y : Operand) : opsL ⟨dst, .index t x y, ty, pos, after, g⟩ = [x, y] := rfl
@[go_sem] theorem tgtOk_index (t : TypeId) (x y : Operand) : tgtOk wr ts ⟨dst, .index t x y, ty, pos, after, g⟩ = true := rfl
@[go_sem] theorem opsL_bin (b : BinOp) (t u : TypeId) (x y : Operand) : opsL ⟨dst, .binOp b t x y u, ty, pos, after, g⟩ = [x, y] := rfl
@[go_sem] theorem tgtOk_bin (b : BinOp) (t u : TypeId) (x y : Operand) : tgtOk wr ts ⟨dst, .binOp b t x y u, ty, pos, after, g⟩ = true := rfl
@[go_sem] theorem opsL_un (b : UnOp) (t : TypeId) (x : Operand) : opsL ⟨dst, .unOp b t x, ty, pos, after, g⟩ = [x] := rfl
@[go_sem] theorem tgtOk_un (b : UnOp) (t : TypeId) (x : Operand) : tgtOk wr ts ⟨dst, .unOp b t x, ty, pos, after, g⟩ = true := rfl
@[go_sem] theorem opsL_extract (x : Operand) (i : Nat) : opsL ⟨dst, .extract x i, ty, pos, after, g⟩ = [x] := rfl
@[go_sem] theorem tgtOk_extract (x : Operand) (i : Nat) : tgtOk wr ts ⟨dst, .extract x i, ty, pos, after, g⟩ = true := rfl
@[go_sem] theorem opsL_slice0 (t : TypeId) (x : Operand) : opsL ⟨dst, .slice t x none none none, ty, pos, after, g⟩ = [x] := rfl
@[go_sem] theorem tgtOk_slice0 (t : TypeId) (x : Operand) : tgtOk wr ts ⟨dst, .slice t x none none none, ty, pos, after, g⟩ = true := rfl
@[go_sem] theorem opsL_slice1 (t : TypeId) (x y : Operand) : opsL ⟨dst, .slice t x (some y) none none, ty, pos, after, g⟩ = [x, y] := rfl
@[go_sem] theorem tgtOk_slice1 (t : TypeId) (x y : Operand) : tgtOk wr ts ⟨dst, .slice t x (some y) none none, ty, pos, after, g⟩ = true := rfl
@[go_sem] theorem opsL_slice2 (t : TypeId) (x y : Operand) : opsL ⟨dst, .slice t x none (some y) none, ty, pos, after, g⟩ = [x, y] := rfl
@[go_sem] theorem tgtOk_slice2 (t : TypeId) (x y : Operand) : tgtOk wr ts ⟨dst, .slice t x none (some y) none, ty, pos, after, g⟩ = true := rfl
@[go_sem] theorem opsL_slice3 (t : TypeId) (x y z : Operand) : opsL ⟨dst, .slice t x (some y) (some z) none, ty, pos, after, g⟩ = [x, y, z] := rfl
@[go_sem] theorem tgtOk_slice3 (t : TypeId) (x y z : Operand) : tgtOk wr ts ⟨dst, .slice t x (some y) (some z) none, ty, pos, after, g⟩ = true := rfl
@[go_sem] theorem opsL_slice4 (t : TypeId) (x y z u : Operand) : opsL ⟨dst, .slice t x (some y) (some z) (some u), ty, pos, after, g⟩ = [x, y, z, u] := rfl
@[go_sem] theorem tgtOk_slice4 (t : TypeId) (x y z u : Operand) : tgtOk wr ts ⟨dst, .slice t x (some y) (some z) (some u), ty, pos, after, g⟩ = true := rfl
@[go_sem] theorem opsL_slice5 (t : TypeId) (x z u : Operand) : opsL ⟨dst, .slice t x none (some z) (some u), ty, pos, after, g⟩ = [x, z, u] := rfl
@[go_sem] theorem tgtOk_slice5 (t : TypeId) (x z u : Operand) : tgtOk wr ts ⟨dst, .slice t x none (some z) (some u), ty, pos, after, g⟩ = true := rfl
@[go_sem] theorem opsL_call (f : Operand) (xs : List Operand) (ats : Array TypeId) : opsL ⟨dst, .call ⟨.value f, List.toArray xs, ats⟩, ty, pos, after, g⟩ = (f :: xs) := by simp [opsL, Op.operands, Call.operands]
@[go_sem] theorem tgtOk_call (f : Operand) (xs : List Operand) (ats : Array TypeId) : tgtOk wr ts ⟨dst, .call ⟨.value f, List.toArray xs, ats⟩, ty, pos, after, g⟩ = true := rfl
@[go_sem] theorem opsL_len (b : Builtin) (xs : List Operand) (ats : Array TypeId) : opsL ⟨dst, .call ⟨.builtin b, List.toArray xs, ats⟩, ty, pos, after, g⟩ = xs := by simp [opsL, Op.operands, Call.operands]
@[go_sem] theorem tgtOk_len (b : Builtin) (xs : List Operand) (ats : Array TypeId) : tgtOk wr ts ⟨dst, .call ⟨.builtin b, List.toArray xs, ats⟩, ty, pos, after, g⟩ = true := rfl
@[go_sem] theorem opsL_build (t : TypeId) (ps : List (Nat × Operand)) : opsL ⟨dst, .build t (List.toArray ps), ty, pos, after, g⟩ = (ps.map (·.2)) := by simp [opsL, Op.operands, Call.operands]
@[go_sem] theorem tgtOk_build (t : TypeId) (ps : List (Nat × Operand)) : tgtOk wr ts ⟨dst, .build t (List.toArray ps), ty, pos, after, g⟩ = true := rfl
@[go_sem] theorem opsL_buildSlice (t : TypeId) (n : Nat) (ps : List (Nat × Operand)) : opsL ⟨dst, .buildSlice t n (List.toArray ps), ty, pos, after, g⟩ = (ps.map (·.2)) := by simp [opsL, Op.operands, Call.operands]
@[go_sem] theorem tgtOk_buildSlice (t : TypeId) (n : Nat) (ps : List (Nat × Operand)) : tgtOk wr ts ⟨dst, .buildSlice t n (List.toArray ps), ty, pos, after, g⟩ = true := rfl
@[go_sem] theorem opsL_store (t : TypeId) (x y : Operand) : opsL ⟨dst, .store t x y, ty, pos, after, g⟩ = [x, y] := rfl
@[go_sem] theorem tgtOk_store (t : TypeId) (x y : Operand) : tgtOk wr ts ⟨dst, .store t x y, ty, pos, after, g⟩ = tgtV wr (ts.ev x) := rfl
@[go_sem] theorem boxQ (cs : List AV) : (Ob.box cs).box? = some cs := rfl
@[go_sem] theorem vOk_ot (d q o n : Nat) : vOk bad (.ot d q o n) = !bad.contains d := rfl
@[go_sem] theorem wGp_none (op : Op) : wGp T all ⟨dst, op, ty, pos, after, none⟩ K ts = opKp T ⟨dst, op, ty, pos, after, none⟩ ts K := rfl
@[go_sem] theorem wGp_some (op : Op) (j : Nat) (want : Bool) : wGp T all ⟨dst, op, ty, pos, after, some (j, want)⟩ K ts = gK (gvalL ts all j) want (opKpt T ⟨dst, op, ty, pos, after, some (j, want)⟩ K) (skipK dst K) ts := rfl
@[go_sem] theorem opKpt_eq : opKpt T o K ts = opKp T o ts K := rfl
@[go_sem] theorem opKp_call (f : Operand) (xs : Array Operand) (at_ : Array TypeId) : opKp T ⟨dst, .call ⟨.value f, xs, at_⟩, ty, pos, after, g⟩ ts K = callW false P (ts.ev f) (xs.toList.map ts.ev) dst ts K := rfl
@[go_sem] theorem opKp_move (x : Operand) : opKp T ⟨dst, .move x, ty, pos, after, g⟩ ts K = opK T ⟨dst, .move x, ty, pos, after, g⟩ ts K := rfl
@[go_sem] theorem opKp_assign (x : Operand) : opKp T ⟨dst, .assign x, ty, pos, after, g⟩ ts K = opK T ⟨dst, .assign x, ty, pos, after, g⟩ ts K := rfl
@[go_sem] theorem opKp_pick (c x y : Operand) : opKp T ⟨dst, .pick c x y, ty, pos, after, g⟩ ts K = opK T ⟨dst, .pick c x y, ty, pos, after, g⟩ ts K := rfl
@[go_sem] theorem opKp_alloc (t : TypeId) : opKp T ⟨dst, .alloc t, ty, pos, after, g⟩ ts K = opK T ⟨dst, .alloc t, ty, pos, after, g⟩ ts K := rfl
@[go_sem] theorem opKp_box (t : TypeId) (x : Operand) : opKp T ⟨dst, .box t x, ty, pos, after, g⟩ ts K = opK T ⟨dst, .box t x, ty, pos, after, g⟩ ts K := rfl
@[go_sem] theorem opKp_load (t : TypeId) (x : Operand) : opKp T ⟨dst, .load t x, ty, pos, after, g⟩ ts K = opK T ⟨dst, .load t x, ty, pos, after, g⟩ ts K := rfl
@[go_sem] theorem opKp_store (t : TypeId) (x y : Operand) : opKp T ⟨dst, .store t x y, ty, pos, after, g⟩ ts K = opK T ⟨dst, .store t x y, ty, pos, after, g⟩ ts K := rfl
@[go_sem] theorem opKp_fieldAddr (t : TypeId) (x : Operand) (f : Nat) : opKp T ⟨dst, .fieldAddr t x f, ty, pos, after, g⟩ ts K = opK T ⟨dst, .fieldAddr t x f, ty, pos, after, g⟩ ts K := rfl
@[go_sem] theorem opKp_indexAddr (t : TypeId) (x y : Operand) : opKp T ⟨dst, .indexAddr t x y, ty, pos, after, g⟩ ts K = opK T ⟨dst, .indexAddr t x y, ty, pos, after, g⟩ ts K := rfl
@[go_sem] theorem opKp_index (t : TypeId) (x y : Operand) : opKp T ⟨dst, .index t x y, ty, pos, after, g⟩ ts K = opK T ⟨dst, .index t x y, ty, pos, after, g⟩ ts K := rfl
@[go_sem] theorem opKp_bin (b : BinOp) (t u : TypeId) (x y : Operand) : opKp T ⟨dst, .binOp b t x y u, ty, pos, after, g⟩ ts K = opK T ⟨dst, .binOp b t x y u, ty, pos, after, g⟩ ts K := rfl
@[go_sem] theorem opKp_un (b : UnOp) (t : TypeId) (x : Operand) : opKp T ⟨dst, .unOp b t x, ty, pos, after, g⟩ ts K = opK T ⟨dst, .unOp b t x, ty, pos, after, g⟩ ts K := rfl
@[go_sem] theorem opKp_extract (x : Operand) (i : Nat) : opKp T ⟨dst, .extract x i, ty, pos, after, g⟩ ts K = opK T ⟨dst, .extract x i, ty, pos, after, g⟩ ts K := rfl
@[go_sem] theorem opKp_slice (t : TypeId) (x : Operand) (lo hi mx : Option Operand) : opKp T ⟨dst, .slice t x lo hi mx, ty, pos, after, g⟩ ts K = opK T ⟨dst, .slice t x lo hi mx, ty, pos, after, g⟩ ts K := rfl
@[go_sem] theorem opKp_len (b : Builtin) (xs : Array Operand) (ats : Array TypeId) : opKp T ⟨dst, .call ⟨.builtin b, xs, ats⟩, ty, pos, after, g⟩ ts K = opK T ⟨dst, .call ⟨.builtin b, xs, ats⟩, ty, pos, after, g⟩ ts K := rfl
@[go_sem] theorem opKp_build (t : TypeId) (ps : Array (Nat × Operand)) : opKp T ⟨dst, .build t ps, ty, pos, after, g⟩ ts K = opK T ⟨dst, .build t ps, ty, pos, after, g⟩ ts K := rfl
@[go_sem] theorem opKp_buildSlice (t : TypeId) (n : Nat) (ps : Array (Nat × Operand)) : opKp T ⟨dst, .buildSlice t n ps, ty, pos, after, g⟩ ts K = opK T ⟨dst, .buildSlice t n ps, ty, pos, after, g⟩ ts K := rfl
@[go_sem] theorem tgtV_ref (d q off : Nat) : tgtV wr (.ref d q off) = wr.contains d := rfl
@[go_sem] theorem tgtV_eref (d q i off : Nat) : tgtV wr (.eref d q i off) = wr.contains d := rfl
@[go_sem] theorem vOk_os (d q n : Nat) : vOk bad (.os d q n) = !bad.contains d := rfl
@[go_sem] theorem vOk_ref (d q n : Nat) : vOk bad (.ref d q n) = !bad.contains d := rfl
@[go_sem] theorem vOk_eref (d q i n : Nat) : vOk bad (.eref d q i n) = !bad.contains d := rfl
@[go_sem] theorem vOk_agg (cs : List AV) : vOk bad (.agg cs) = vOk.vOkL bad cs := rfl
@[go_sem] theorem vOk_tup (cs : List AV) : vOk bad (.tup cs) = vOk.vOkL bad cs := rfl
@[go_sem] theorem vOk_clo (fn : Fn) (a b : List AV) : vOk bad (.clo fn a b) = (vOk.vOkL bad a && vOk.vOkL bad b) := rfl
@[go_sem] theorem vOk_int (k : IntKind) (n : Int) : vOk bad (.int k n) = true := rfl
@[go_sem] theorem vOk_bool (b : Bool) : vOk bad (.bool b) = true := rfl
@[go_sem] theorem vOk_str (s : List UInt8) : vOk bad (.str s) = true := rfl
@[go_sem] theorem vOk_slice (c : Bool) (xs : List AV) : vOk bad (.slice c xs) = true := rfl
@[go_sem] theorem vOk_ro (xs : List AV) : vOk bad (.ro xs) = true := rfl
@[go_sem] theorem vOk_nilp : vOk bad .nilp = true := rfl
@[go_sem] theorem vOk_nilf : vOk bad .nilf = true := rfl
@[go_sem] theorem vOk_nilm : vOk bad .nilm = true := rfl
@[go_sem] theorem vOk_niface : vOk bad .niface = true := rfl
@[go_sem] theorem vOkL_nl : vOk.vOkL bad [] = true := rfl
@[go_sem] theorem vOkL_cons (x : AV) (xs : List AV) : vOk.vOkL bad (x :: xs) = (vOk bad x && vOk.vOkL bad xs) := rfl
@[go_sem] theorem endK_normal (R : TS → Prop) : endK R .normal ts = R ts := rfl
@[go_sem] theorem endK_ret (R : TS → Prop) : endK R .ret ts = R ts := rfl
@[go_sem] theorem EndX_val (rs : List ResultVar) (z : AV) : EndX T rs (.val z) ts = optK (ts.result T rs) fun x => optK (x.res ts) fun y => y.nrm = z := rfl
@[go_sem] theorem EndX_own (rs : List ResultVar) (sz : Nat) (zs : List AV) : EndX T rs (.own sz zs) ts = (oneRes ts rs = true ∧ optK (ts.result T rs) fun x => ownX ts x sz zs) := rfl
@[go_sem] theorem oneRes_tmp (t : Nat) : oneRes ts [.tmp t] = true := rfl
@[go_sem] theorem oneRes_cell (a t : Nat) : oneRes ts [.cell a t] = (match ts.tmp a with | .ref .. => true | _ => false) := rfl
@[go_sem] theorem ownX_os (d q len sz : Nat) (zs : List AV) : ownX ts (.os d q len) sz zs = (q = ts.gen d ∧ optK (ts.obj d).arr? fun q => q.1 = sz ∧ len ≤ q.2.length ∧ AV.pure.pureL (q.2.take len) = true ∧ AV.nrm.nrmL (q.2.take len) = zs) := rfl
@[go_sem] theorem ownX_nil (sz : Nat) (zs : List AV) : ownX ts (.slice true []) sz zs = (0 < sz ∧ [] = zs) := rfl
@[go_sem] theorem retflat_val (x : AV) : Ret.flat (.val x) = x.flat := rfl
@[go_sem] theorem retflat_own (sz : Nat) (xs : List AV) : Ret.flat (.own sz xs) = AV.flat.flatL xs := rfl
end

@[go_sem] theorem take_set_len {α : Type} (l : List α) (i : Nat) (x : α) : (l.set i x).take l.length = l.set i x := List.take_of_length_le (by simp)

theorem clr_length {xs : List AV} {off len : Nat} {z : AV} (h : off + len ≤ xs.length) : (clrL xs off len z).length = xs.length := by
  simp only [clrL, List.length_append, List.length_take, List.length_replicate, List.length_drop]; omega
@[go_sem] theorem clr_take (xs : List AV) (off len : Nat) (z : AV) (h : off ≤ xs.length) : (clrL xs off len z).take off = xs.take off := by
  simp only [clrL, List.append_assoc]
  rw [List.take_append_of_le_length (by rw [List.length_take]; omega), List.take_take, Nat.min_self]
@[go_sem] theorem clr_le (xs : List AV) (off len n : Nat) (z : AV) (h : off + len ≤ xs.length) : (n ≤ (clrL xs off len z).length) = (n ≤ xs.length) := by rw [clr_length h]

mutual
theorem owns_of_pure : ∀ x : AV, x.pure = true → x.owns = []
  | .agg cs, h => by simp only [AV.pure] at h; simp only [AV.owns]; exact ownsL_of_pure cs h
  | .tup cs, h => by simp only [AV.pure] at h; simp only [AV.owns]; exact ownsL_of_pure cs h
  | .os _ _ _, h => by simp [AV.pure] at h
  | .any, _ | .bool _, _ | .int _ _, _ | .str _, _ | .slice _ _, _ | .ro _, _ | .nilp, _ | .clo _ _ _, _ | .nilf, _ | .nilm, _ | .niface, _ | .iface _ _, _ | .ref _ _ _, _ | .eref _ _ _ _, _ | .ot _ _ _ _, _ => rfl
theorem ownsL_of_pure : ∀ l : List AV, AV.pure.pureL l = true → AV.owns.ownsL l = []
  | [], _ => rfl
  | x :: r, h => by
    simp only [AV.pure.pureL, Bool.and_eq_true] at h
    simp only [AV.owns.ownsL, owns_of_pure x h.1, ownsL_of_pure r h.2, List.append_nil]
end

/-- Captured values of plain data. -/
structure Caps (caps : List AV) : Prop where
  pure : AV.pure.pureL caps = true
  nrm : AV.nrm.nrmL caps = caps
theorem Caps.args {caps : List AV} (h : Caps caps) (ts : TS) : ts.toArgs caps = some (caps, []) := by
  obtain ⟨h1, h2⟩ := h
  induction caps with
  | nil => rfl
  | cons x r ih =>
    simp only [AV.pure.pureL, Bool.and_eq_true] at h1
    simp only [AV.nrm.nrmL, List.cons.injEq] at h2
    simp only [TS.toArgs, res_of_pure ts x h1.1, ih h1.2 h2.2, h2.1, owns_of_pure x h1.1, List.append_nil]
theorem Caps.nil : Caps [] := ⟨rfl, rfl⟩

attribute [go_sem] thenK_normal thenK_ret thenK_exit thenK_goto inBlockK_normal inBlockK_ret inBlockK_exit inBlockK_goto
attribute [go_sem] AV.bool.injEq AV.int.injEq AV.str.injEq AV.agg.injEq AV.tup.injEq AV.slice.injEq List.cons.injEq
attribute [go_sem] Nat.lt_add_one true_and and_true ne_eq not_false_eq_true not_true_eq_false and_self List.map_cons List.map_nil List.length_cons List.length_nil List.drop_zero List.drop_succ_cons List.drop_nil List.take_succ_cons List.take_zero List.take_nil
attribute [go_sem] List.getD_cons_zero List.getD_cons_succ List.getElem?_cons_zero List.getElem?_cons_succ List.nil_append List.cons_append List.append_nil List.all_cons List.all_nil Bool.and_self Bool.and_true Bool.true_and Bool.not_true Bool.not_false Bool.and_false Bool.false_and Bool.false_eq_true
attribute [go_sem] Option.map_some Option.isSome_some Option.isSome_none Option.isNone_none Option.isNone_some BEq.rfl beq_self_eq_true List.mem_cons List.not_mem_nil or_false or_self forall_eq_or_imp forall_eq implies_true false_implies Nat.zero_add Nat.add_zero Nat.zero_le Nat.zero_lt_succ Nat.le_refl
attribute [go_sem] List.isEmpty Int.toNat_natCast Int.ofNat_lt Int.ofNat_le Int.natCast_nonneg List.toList_toArray List.take_length Nat.sub_zero List.set_cons_zero List.set_cons_succ Option.some.injEq forall_eq' List.range List.range.loop List.set_nil List.length_set List.length_map List.contains_cons List.contains_nil
attribute [go_sem] List.length_drop List.length_append List.getElem_set_self
theorem dec_T (p : Prop) [Decidable p] : (decide p = true) = (p = True) := by simp
theorem dec_F (p : Prop) [Decidable p] : (decide p = false) = (p = False) := by simp
@[go_sem] theorem take_snoc_len {α : Type} (l : List α) (x : α) : (l ++ [x]).take (l.length + 1) = l ++ [x] := List.take_of_length_le (by simp)
attribute [go_sem] Bool.or_false Bool.false_or Bool.or_true Bool.true_or decide_true decide_false true_or or_true

end Go.Proofs.YtbggigdchkiffaaDoor.Lg
