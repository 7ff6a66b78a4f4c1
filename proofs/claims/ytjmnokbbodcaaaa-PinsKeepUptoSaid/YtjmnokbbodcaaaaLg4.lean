/- The triples of operations, regions and code over abstract states; the rules of control. -/
import Derived.Test.YtjmnokbbodcaaaaLg3
namespace Go.Proofs.Ytjmnokbbodcaaaa.Lg
set_option linter.unusedVariables false
set_option linter.unusedSimpArgs false
open Go

/-- The triple of one operation: whatever frame and world the state stands for, the operation ends in a state of which K holds. -/
def SpecO (P : Program) (o : Oper) (ts : TS) (K : TS → Prop) : Prop :=
  ∀ (E : Env) (G : Ghost) (a : Act) (w : World) (next : Act → World → Prop) (Q : Exit → Act → World → Prop), Rel E ts G a w →
    (∀ ts' G' a' w', K ts' → Rel E ts' G' a' w' → next a' w') → o.wp P a w next Q

def SpecL (P : Program) (ops : Array Oper) (l : List Nat) (ts : TS) (K : TS → Prop) : Prop :=
  ∀ (E : Env) (G : Ghost) (a : Act) (w : World) (Q : Exit → Act → World → Prop), Rel E ts G a w →
    (∀ ts' G' a' w', K ts' → Rel E ts' G' a' w' → Q .normal a' w') → wpOps P ops Q l a w

def SpecC (P : Program) (c : Code) (ts : TS) (Q : Exit → TS → Prop) : Prop :=
  ∀ (E : Env) (G : Ghost) (a : Act) (w : World), Rel E ts G a w →
    c.wp P (fun ex a' w' => ∃ ts' G', Q ex ts' ∧ Rel E ts' G' a' w') a w

theorem SpecO.mono {P : Program} {o : Oper} {ts : TS} {K K' : TS → Prop} (h : SpecO P o ts K) (hk : ∀ ts, K ts → K' ts) : SpecO P o ts K' :=
  fun E G a w next Q hr hn => h E G a w next Q hr fun ts' G' a' w' hK hr' => hn ts' G' a' w' (hk _ hK) hr'

theorem SpecC.mono {P : Program} {c : Code} {ts : TS} {Q Q' : Exit → TS → Prop} (h : SpecC P c ts Q) (hq : ∀ e ts, Q e ts → Q' e ts) : SpecC P c ts Q' :=
  fun E G a w hr => wp_mono (h E G a w hr) fun _ _ _ ⟨ts', G', q, r⟩ => ⟨ts', G', hq _ _ q, r⟩

/-! ### The rules of control -/
section
variable {P : Program} {ts : TS} {Q : Exit → TS → Prop}

theorem SpecC.skip (h : Q .normal ts) : SpecC P .skip ts Q := fun _ G _ _ hr => wp_skip ⟨ts, G, h, hr⟩
theorem SpecC.label {l : Nat} (h : Q .normal ts) : SpecC P (.label l) ts Q := fun _ G _ _ hr => wp_label ⟨ts, G, h, hr⟩
theorem SpecC.exit {id : Nat} (h : Q (.exit id) ts) : SpecC P (.exit id) ts Q := fun _ G _ _ hr => wp_exit ⟨ts, G, h, hr⟩
theorem SpecC.goto {l : Nat} (h : Q (.goto l) ts) : SpecC P (.goto l) ts Q := fun _ G _ _ hr => wp_goto ⟨ts, G, h, hr⟩
theorem SpecC.ret (h : Q .ret ts) : SpecC P .ret ts Q := fun _ G _ _ hr => wp_ret ⟨ts, G, h, hr⟩

def thenK (next : TS → Prop) (Q : Exit → TS → Prop) : Exit → TS → Prop
  | .normal, ts => next ts
  | e, ts => Q e ts
@[simp] theorem thenK_normal (next : TS → Prop) (Q : Exit → TS → Prop) (ts : TS) : thenK next Q .normal ts = next ts := rfl
@[simp] theorem thenK_ret (next : TS → Prop) (Q : Exit → TS → Prop) (ts : TS) : thenK next Q .ret ts = Q .ret ts := rfl
@[simp] theorem thenK_exit (next : TS → Prop) (Q : Exit → TS → Prop) (i : Nat) (ts : TS) : thenK next Q (.exit i) ts = Q (.exit i) ts := rfl
@[simp] theorem thenK_goto (next : TS → Prop) (Q : Exit → TS → Prop) (i : Nat) (ts : TS) : thenK next Q (.goto i) ts = Q (.goto i) ts := rfl

def inBlockK (id : Nat) (Q : Exit → TS → Prop) : Exit → TS → Prop
  | .exit id', ts => if id' = id then Q .normal ts else Q (.exit id') ts
  | e, ts => Q e ts
@[simp] theorem inBlockK_normal (id : Nat) (Q : Exit → TS → Prop) (ts : TS) : inBlockK id Q .normal ts = Q .normal ts := rfl
@[simp] theorem inBlockK_ret (id : Nat) (Q : Exit → TS → Prop) (ts : TS) : inBlockK id Q .ret ts = Q .ret ts := rfl
@[simp] theorem inBlockK_exit (id : Nat) (Q : Exit → TS → Prop) (i : Nat) (ts : TS) : inBlockK id Q (.exit i) ts = if i = id then Q .normal ts else Q (.exit i) ts := rfl
@[simp] theorem inBlockK_goto (id : Nat) (Q : Exit → TS → Prop) (i : Nat) (ts : TS) : inBlockK id Q (.goto i) ts = Q (.goto i) ts := rfl

theorem SpecC.seq {x y : Code} (h : SpecC P x ts (thenK (fun ts' => SpecC P y ts' Q) Q)) : SpecC P (.seq x y) ts Q := by
  intro E G a w hr
  refine wp_seq (wp_mono (h E G a w hr) ?_)
  rintro e a' w' ⟨ts', G', hq, hr'⟩
  cases e with
  | normal => exact hq E G' a' w' hr'
  | _ => exact ⟨ts', G', hq, hr'⟩

theorem SpecC.block {id : Nat} {c : Code} (h : SpecC P c ts (inBlockK id Q)) : SpecC P (.block id c) ts Q := by
  intro E G a w hr
  refine wp_block (wp_mono (h E G a w hr) ?_)
  rintro e a' w' ⟨ts', G', hq, hr'⟩
  cases e with
  | exit id' =>
    simp only [inBlockK_exit] at hq
    simp only [Exit.inBlock]
    split
    · rename_i e; rw [if_pos e] at hq; exact ⟨ts', G', hq, hr'⟩
    · rename_i e; rw [if_neg e] at hq; exact ⟨ts', G', hq, hr'⟩
  | _ => exact ⟨ts', G', hq, hr'⟩

theorem exists_least (p : Nat → Prop) (h : ∃ n, p n) : ∃ n, p n ∧ ∀ m, p m → n ≤ m := by
  obtain ⟨n, hn⟩ := h
  induction n using Nat.strongRecOn with
  | _ n ih =>
    by_cases hm : ∃ m, m < n ∧ p m
    · obtain ⟨m, hlt, hp⟩ := hm; exact ih m hlt hp
    · exact ⟨n, hn, fun m hp => Nat.le_of_not_lt fun hlt => hm ⟨m, hlt, hp⟩⟩

/-- A LOOP: I n holds at the head of each round, n going down. -/
theorem SpecC.loop {c : Code} (I : Nat → TS → Prop) (n : Nat) (h0 : I n ts)
    (round : ∀ n ts, I n ts → SpecC P c ts (thenK (fun ts' => ∃ m, m < n ∧ I m ts') Q)) : SpecC P (.loop c) ts Q := by
  intro E G a w hr
  let p : Act → World → Nat → Prop := fun a w n => ∃ ts G, I n ts ∧ Rel E ts G a w
  let μ : Act → World → Nat := fun a w => open Classical in if h : ∃ n, p a w n then Classical.choose (exists_least _ h) else 0
  have hμ : ∀ a w, (∃ n, p a w n) → p a w (μ a w) := fun a w h => by
    simp only [μ, dif_pos h]; exact (Classical.choose_spec (exists_least _ h)).1
  have hμ' : ∀ a w n, p a w n → μ a w ≤ n := fun a w n h => by
    simp only [μ, dif_pos (⟨n, h⟩ : ∃ n, p a w n)]; exact (Classical.choose_spec (exists_least _ ⟨n, h⟩)).2 n h
  refine wp_loop (fun a w => ∃ n, p a w n) μ ⟨n, ts, G, h0, hr⟩ ?_
  intro a w hI
  obtain ⟨ts, G, hI, hr⟩ := hμ a w hI
  refine wp_mono (round (μ a w) ts hI E G a w hr) ?_
  rintro e a' w' ⟨ts', G', hq, hr'⟩
  cases e with
  | normal =>
    obtain ⟨m, hm, hI'⟩ := hq
    exact ⟨⟨m, ts', G', hI', hr'⟩, Nat.lt_of_le_of_lt (hμ' a' w' m ⟨ts', G', hI', hr'⟩) hm⟩
  | _ => exact ⟨ts', G', hq, hr'⟩
end


/-! ### Regions in the order of the text -/
/-- What a slot's value says of a guard. -/
def guardOf (ops : Array Oper) (ts : TS) (j : Nat) : Option (Option Bool) :=
  match (ops[j]?).bind (·.dst) with
  | some d => match ts.tmp d with
    | .bool b => some (some b)
    | .tup [] => some none
    | _ => none
  | none => none

theorem rep_bool {c : Ctx} {v : Value} {b : Bool} (h : Rep c v (.bool b)) : v = .bool b := by cases h; rfl

theorem yielded_of {E : Env} {ts : TS} {G : Ghost} {a : Act} {w : World} (h : Rel E ts G a w) {ops : Array Oper} {j : Nat} {b : Option Bool} (hg : guardOf ops ts j = some b) : yielded ops a.tmps j = b := by
  unfold guardOf at hg
  split at hg
  · rename_i d hd
    split at hg
    · rename_i b' hb
      have := h.tmp d
      rw [hb] at this
      have hv := rep_bool this
      have hv' : a.tmps[d]? = some (.bool b') := by
        rw [Array.getD_eq_getD_getElem?] at hv
        cases hx : a.tmps[d]? with
        | none => rw [hx] at hv; simp [undef] at hv
        | some v => rw [hx] at hv; simpa using hv
      simp only [yielded, hd, Option.bind_some, hv']
      simpa using hg
    · rename_i hb
      have := h.tmp d
      rw [hb] at this
      have hv : a.tmps.getD d undef = .tuple #[] := by
        generalize a.tmps.getD d undef = v at this
        cases this with
        | tup vs _ h1 _ =>
          have : vs = #[] := Array.eq_empty_of_size_eq_zero (by simpa using h1)
          rw [this]
      have hne : ∀ b', a.tmps[d]? ≠ some (.bool b') := fun b' e => by
        rw [Array.getD_eq_getD_getElem?, e] at hv
        simp at hv
      simp only [yielded, hd, Option.bind_some]
      cases hg
      cases hx : a.tmps[d]? with
      | none => rfl
      | some v =>
        cases v with
        | bool b' => exact absurd hx (hne b')
        | _ => rfl
    · simp at hg
  · simp at hg

/-- One operation of a region, with its guard. -/
def SpecG (P : Program) (ops : Array Oper) (o : Oper) (ts : TS) (K : TS → Prop) : Prop :=
  match o.guard with
  | none => SpecO P o ts K
  | some (j, want) => ∃ b, guardOf ops ts j = some b ∧ if b == some want then SpecO P o ts K else (∀ d, o.dst = some d → d < ts.n) ∧ K (putDst ts o.dst (.tup []))

def SpecOs (P : Program) (ops : Array Oper) (K : TS → Prop) : List Oper → TS → Prop
  | [], ts => K ts
  | o :: l, ts => SpecG P ops o ts (SpecOs P ops K l)

theorem SpecG.sound {P : Program} {ops : Array Oper} {o : Oper} {ts : TS} {K : TS → Prop} (h : SpecG P ops o ts K) {E : Env} {G : Ghost} {a : Act} {w : World} {Q : Exit → Act → World → Prop} {next : Act → World → Prop} {i : Nat}
    (ho : ops[i]? = some o) (hr : Rel E ts G a w) (hn : ∀ ts' G' a' w', K ts' → Rel E ts' G' a' w' → next a' w') : wpOp P ops Q i next a w := by
  unfold wpOp
  rw [ho]
  dsimp only
  unfold SpecG at h
  split at h
  · rename_i hg
    have : Region.wanted o (yielded ops a.tmps) = true := by simp [Region.wanted, hg]
    rw [if_pos this]
    exact .inl (h E G a w next Q hr hn)
  · rename_i j want hg
    obtain ⟨b, hb, h⟩ := h
    have hy := yielded_of hr hb
    have hw : Region.wanted o (yielded ops a.tmps) = (b == some want) := by
      simp only [Region.wanted, hg, hy]
    rw [hw]
    split at h
    · rename_i e; rw [if_pos e]; exact .inl (h E G a w next Q hr hn)
    · rename_i e
      rw [if_neg e]
      exact hn _ G _ w h.2 (hr.put_undef o.dst h.1)

theorem SpecOs.sound {P : Program} {ops : Array Oper} {K : TS → Prop} : ∀ (l : List Oper) (i : Nat), ops.toList.drop i = l → ∀ {ts : TS}, SpecOs P ops K l ts → SpecL P ops (List.range' i l.length) ts K
  | [], i, _, ts, h => fun E G a w Q hr hn => by simp only [List.length_nil, List.range', wpOps]; exact hn ts G a w h hr
  | o :: l, i, hd, ts, h => fun E G a w Q hr hn => by
    have ho : ops[i]? = some o := by
      have : ops.toList[i]? = some o := by rw [← Nat.add_zero i, ← List.getElem?_drop, hd]; rfl
      simpa using this
    have hd' : ops.toList.drop (i + 1) = l := by rw [← List.drop_drop, hd]; rfl
    simp only [List.length_cons, List.range'_succ]
    rw [wpOps_cons]
    exact SpecG.sound h ho hr fun ts' G' a' w' hK hr' => SpecOs.sound l (i + 1) hd' hK E G' a' w' Q hr' hn

theorem SpecC.region {P : Program} {id : Nat} {ops : Array Oper} {ts : TS} {Q : Exit → TS → Prop} (h : SpecOs P ops (Q .normal) ops.toList ts) : SpecC P (.region id ops false) ts Q := by
  intro E G a w hr
  refine wp_region ?_
  have hs := SpecOs.sound ops.toList 0 (by simp) h E G a w (fun ex a' w' => ∃ ts' G', Q ex ts' ∧ Rel E ts' G' a' w') hr fun ts' G' a' w' hK hr' => ⟨ts', G', hK, hr'⟩
  simpa [List.range_eq_range'] using hs

/-- An operand's abstract value. -/
def TS.ev (ts : TS) : Operand → AV
  | .tmp t => ts.tmp t
  | .const v => ofV v
  | .func f => .clo (.func f) [] []
  | .global _ => .any

theorem Rel.ev {E : Env} {ts : TS} {G : Ghost} {a : Act} {w : World} (h : Rel E ts G a w) (x : Operand) : Rep (ctxOf E G ts w) (a.eval x) (ts.ev x) := by
  cases x with
  | tmp t => exact h.tmp t
  | const v => exact rep_ofV _ v
  | func f => exact .clo _ _ _ _ _ rfl rfl (fun i => by simp; exact .any _) (fun i => by simp; exact .any _)
  | global g => exact .any _

theorem SpecC.cond {P : Program} {c : Operand} {x y : Code} {t : Bool} {ts : TS} {Q : Exit → TS → Prop} (hc : ts.ev c = .bool t)
    (ht : t = true → SpecC P x ts Q) (hf : t = false → SpecC P y ts Q) : SpecC P (.cond c x y) ts Q := by
  intro E G a w hr
  have := hr.ev c
  rw [hc] at this
  exact wp_cond_split (rep_bool this) (fun e => ht e E G a w hr) (fun e => hf e E G a w hr)

end Go.Proofs.Ytjmnokbbodcaaaa.Lg
