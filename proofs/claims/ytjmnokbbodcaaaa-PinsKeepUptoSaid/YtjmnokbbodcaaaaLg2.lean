/- The frame's abstract state, its relation to the frame and the world, and the three ways in which a step turns it. -/
import Derived.Test.YtjmnokbbodcaaaaLg1
import Derived.Laws.CopyRow
namespace Go.Proofs.Ytjmnokbbodcaaaa.Lg
set_option linter.unusedVariables false
set_option linter.unusedSimpArgs false
open Go

inductive Ob where
  | dead
  | box (cs : List AV)
  | arr (sz : Nat) (xs : List AV)
  deriving Inhabited

def Ob.kind : Ob → Option Nat
  | .dead => none
  | .box _ => some 0
  | .arr sz _ => some sz

structure TS where
  n : Nat
  tmp : Nat → AV
  gen : Nat → Nat
  obj : Nat → Ob

structure Ghost where
  β : Nat → Nat
  κ : Nat → Option Nat

structure Env where
  w0 : World
  X : Nat → Prop
  F : Nat → Prop
  pin : Nat → Option Nat

def liveR (ts : TS) (G : Ghost) (d : Nat) : Prop := (ts.obj d).kind ≠ none ∧ G.κ d ≠ none

def ctxOf (E : Env) (G : Ghost) (ts : TS) (w : World) : Ctx :=
  { w, M := fun b => E.F b ∨ ∃ d, liveR ts G d ∧ G.β d = b, gen := ts.gen, kind := fun d => (ts.obj d).kind, β := G.β, κ := G.κ }

def ObOk (c : Ctx) (d : Nat) : Ob → Prop
  | .dead => True
  | .box cs => c.κ d ≠ none ∧ ∃ vs T, c.w.heap[c.β d]? = some (.cells vs T (0, 0)) ∧ vs.size = cs.length ∧ ∀ i, Rep c (vs.getD i undef) (cs.getD i .any)
  | .arr sz xs => 0 < sz ∧ (∀ x ∈ xs, x.cells.length = sz) ∧
    match c.κ d with
    | none => xs = []
    | some cap => ∃ vs T, c.w.heap[c.β d]? = some (.cells vs T (0, 0)) ∧ vs.size = cap * sz ∧ xs.length ≤ cap ∧
        ∀ i j, i < xs.length → j < sz → Rep c (vs.getD (i * sz + j) undef) ((xs.getD i .any).cells.getD j .any)

structure Bel (X : Nat → Prop) (w w' : World) : Prop where
  os : w'.os = w.os
  tape : w'.tape = w.tape
  output : w'.output = w.output
  size : w.heap.size ≤ w'.heap.size
  block : ∀ k, k < w.heap.size → ¬ X k → w'.heap[k]? = w.heap[k]?
  drawn : w.drawn ≤ w'.drawn

theorem Bel.refl (X : Nat → Prop) (w : World) : Bel X w w := ⟨rfl, rfl, rfl, Nat.le_refl _, fun _ _ _ => rfl, Nat.le_refl _⟩
theorem Bel.trans {X : Nat → Prop} {a b c : World} (h : Bel X a b) (k : Bel X b c) : Bel X a c :=
  ⟨k.os.trans h.os, k.tape.trans h.tape, k.output.trans h.output, Nat.le_trans h.size k.size,
   fun i hi hx => (k.block i (Nat.lt_of_lt_of_le hi h.size) hx).trans (h.block i hi hx), Nat.le_trans h.drawn k.drawn⟩

structure Rel (E : Env) (ts : TS) (G : Ghost) (a : Act) (w : World) : Prop where
  size : a.tmps.size = ts.n
  defers : a.defers = []
  tmp : ∀ t, Rep (ctxOf E G ts w) (a.tmps.getD t undef) (ts.tmp t)
  obj : ∀ d, ObOk (ctxOf E G ts w) d (ts.obj d)
  sep : ∀ d d', liveR ts G d → liveR ts G d' → G.β d = G.β d' → d = d'
  own : ∀ d, liveR ts G d → (E.w0.heap.size ≤ G.β d ∨ E.X (G.β d)) ∧ ¬ E.F (G.β d) ∧ G.β d < w.heap.size
  inF : ∀ b, E.F b → b < w.heap.size
  bel : Bel E.X E.w0 w
  pin : ∀ j b, E.pin j = some b → ts.gen j = 0 → G.β j = b

def upd {α : Type} (f : Nat → α) (d : Nat) (v : α) : Nat → α := fun u => if u = d then v else f u
@[simp] theorem upd_same {α : Type} (f : Nat → α) (d : Nat) (v : α) : upd f d v d = v := by simp [upd]
theorem upd_ne {α : Type} (f : Nat → α) {d u : Nat} (v : α) (h : u ≠ d) : upd f d v u = f u := by simp [upd, h]

def TS.put (ts : TS) (d : Nat) (v : AV) : TS := { ts with tmp := upd ts.tmp d v }

theorem getD_put (a : Act) (d t : Nat) (v : Value) (hd : d < a.tmps.size) : (a.put (some d) v).tmps.getD t undef = if t = d then v else a.tmps.getD t undef := by
  simp only [Act.put, Array.getD_eq_getD_getElem?, Array.getElem?_setIfInBounds]
  by_cases h : d = t
  · subst h; simp [hd]
  · simp [h, Ne.symm h]

/-- A slot gets a value; nothing else turns. -/
theorem Rel.put {E : Env} {ts : TS} {G : Ghost} {a : Act} {w : World} (h : Rel E ts G a w) {d : Nat} (hd : d < ts.n) {v : Value} {x : AV}
    (hr : Rep (ctxOf E G ts w) v x) : Rel E (ts.put d x) G (a.put (some d) v) w where
  size := by simp [Act.put, h.size, TS.put]
  defers := h.defers
  tmp := fun t => by
    rw [getD_put a d t v (by rw [h.size]; exact hd)]
    show Rep (ctxOf E G ts w) _ (upd ts.tmp d x t)
    by_cases e : t = d
    · subst e; simpa using hr
    · rw [if_neg e, upd_ne _ _ e]; exact h.tmp t
  obj := h.obj
  sep := h.sep
  own := h.own
  inF := h.inF
  bel := h.bel
  pin := h.pin

def putDst (ts : TS) (dst : Option Nat) (x : AV) : TS := match dst with | some d => ts.put d x | none => ts

/-- A slot that no one knows. -/
theorem Rel.put_any {E : Env} {ts : TS} {G : Ghost} {a : Act} {w : World} (h : Rel E ts G a w) (dst : Option Nat) (hd : ∀ d, dst = some d → d < ts.n) (v : Value) :
    Rel E (putDst ts dst .any) G (a.put dst v) w := by
  cases dst with
  | none => exact h
  | some d => exact h.put (hd d rfl) (.any v)

/-- A slot whose operation was passed over. -/
theorem Rel.put_undef {E : Env} {ts : TS} {G : Ghost} {a : Act} {w : World} (h : Rel E ts G a w) (dst : Option Nat) (hd : ∀ d, dst = some d → d < ts.n) :
    Rel E (putDst ts dst (.tup [])) G (a.put dst undef) w := by
  cases dst with
  | none => exact h
  | some d => exact h.put (hd d rfl) (.tup _ _ rfl fun i => by simp; exact .any _)

theorem World.cell_lt {w : World} {a : Addr} {u : Value} (h : w.cell? a = some u) : a.block < w.heap.size := by
  unfold World.cell? at h
  split at h
  · rename_i hb; exact (Array.getElem?_eq_some_iff.1 hb).1
  · simp at h

theorem World.cell_of_heap {w w' : World} {a : Addr} (h : w'.heap[a.block]? = w.heap[a.block]?) : w'.cell? a = w.cell? a := by simp [World.cell?, h]

theorem Bel.alloc {X : Nat → Prop} {a w : World} (h : Bel X a w) (o : Obj) : Bel X a (w.alloc o) :=
  h.trans ⟨rfl, rfl, rfl, by simp, fun k hk _ => heap_alloc_old w o k hk, Nat.le_refl _⟩
theorem Bel.drew {X : Nat → Prop} {a w : World} (h : Bel X a w) : Bel X a w.drew := h.trans ⟨rfl, rfl, rfl, Nat.le_refl _, fun _ _ _ => rfl, Nat.le_succ _⟩

def Ghost.set (G : Ghost) (d b : Nat) (k : Option Nat) : Ghost := { β := upd G.β d b, κ := upd G.κ d k }

/-- A new object at slot d: the state behind it. -/
def TS.new (ts : TS) (d : Nat) (o : Ob) : TS := { ts with gen := upd ts.gen d (ts.gen d + 1), obj := upd ts.obj d o }

theorem le_new (E : Env) (G : Ghost) (ts : TS) (w w' : World) (d b : Nat) (k : Option Nat) (o : Ob) (hb : w.heap.size ≤ b)
    (hw : ∀ i, i < w.heap.size → w'.heap[i]? = w.heap[i]?) : (ctxOf E G ts w).Le (ctxOf E (G.set d b k) (ts.new d o) w') where
  cell := fun a u hM hc => by
    have hlt := World.cell_lt hc
    refine ⟨(World.cell_of_heap (hw _ hlt)).trans hc, ?_⟩
    rintro (hF | ⟨e, he, hbe⟩)
    · exact hM (.inl hF)
    · by_cases hed : e = d
      · subst hed
        have h1 : b = a.block := by simpa [Ghost.set, ctxOf] using hbe
        have h2 : a.block < w.heap.size := hlt
        omega
      · exact hM (.inr ⟨e, by simpa [liveR, Ghost.set, TS.new, upd, hed] using he, by simpa [Ghost.set, upd, hed] using hbe⟩)
  gen := fun e => by by_cases h : e = d <;> simp [ctxOf, TS.new, upd, h]
  kind := fun e k' hg hk => by
    by_cases h : e = d
    · subst h; simp [ctxOf, TS.new] at hg
    · simp only [ctxOf, TS.new, Ghost.set, upd, h, if_false] at hk ⊢
      simpa using hk

theorem ObOk.mono {c c' : Ctx} (hle : c.Le c') {d : Nat} {o : Ob} (hk : c'.κ d = c.κ d) (hb : c'.β d = c.β d)
    (hh : o.kind ≠ none → c.κ d ≠ none → c'.w.heap[c.β d]? = c.w.heap[c.β d]?) (h : ObOk c d o) : ObOk c' d o := by
  cases o with
  | dead => trivial
  | box cs =>
    obtain ⟨h0, vs, T, h1, h2, h3⟩ := h
    exact ⟨by rw [hk]; exact h0, vs, T, by rw [hb, hh (by simp [Ob.kind]) h0]; exact h1, h2, fun i => (h3 i).mono hle⟩
  | arr sz xs =>
    obtain ⟨h0, h1, h2⟩ := h
    refine ⟨h0, h1, ?_⟩
    rw [hk]
    cases hc : c.κ d with
    | none => rw [hc] at h2; exact h2
    | some cap =>
      rw [hc] at h2
      obtain ⟨vs, T, h3, h4, h5, h6⟩ := h2
      exact ⟨vs, T, by rw [hb, hh (by simp [Ob.kind]) (by simp [hc])]; exact h3, h4, h5, fun i j hi hj => (h6 i j hi hj).mono hle⟩

/-- A NEW OBJECT: a new block of cells (or none: a virtual array); the slot d holds what points to it. -/
theorem Rel.newObj {E : Env} {ts : TS} {G : Ghost} {a : Act} {w w' : World} (h : Rel E ts G a w) {d : Nat} (hd : d < ts.n) (o : Ob) (b : Nat) (k : Option Nat)
    (hb : w.heap.size ≤ b) (hbw : k ≠ none → b < w'.heap.size) (hbel : Bel (fun _ => False) w w') {v : Value} {x : AV}
    (hr : Rep (ctxOf E (G.set d b k) (ts.new d o) w') v x) (ho : ObOk (ctxOf E (G.set d b k) (ts.new d o) w') d o) :
    Rel E ((ts.new d o).put d x) (G.set d b k) (a.put (some d) v) w' := by
  have hw : ∀ i, i < w.heap.size → w'.heap[i]? = w.heap[i]? := fun i hi => hbel.block i hi (fun hf => hf)
  have hle := le_new E G ts w w' d b k o hb hw
  have live : ∀ e, e ≠ d → (liveR ((ts.new d o).put d x) (G.set d b k) e ↔ liveR ts G e) := fun e he => by
    simp [liveR, Ghost.set, TS.new, TS.put, upd, he]
  have hβ : ∀ e, e ≠ d → (G.set d b k).β e = G.β e := fun e he => by simp [Ghost.set, upd, he]
  have hβd : (G.set d b k).β d = b := by simp [Ghost.set]
  have hκd : (G.set d b k).κ d = k := by simp [Ghost.set]
  constructor
  · simp [Act.put, h.size, TS.put, TS.new]
  · exact h.defers
  · intro t
    rw [getD_put a d t v (by rw [h.size]; exact hd)]
    show Rep (ctxOf E (G.set d b k) (ts.new d o) w') _ (upd ts.tmp d x t)
    by_cases e : t = d
    · subst e; simpa using hr
    · rw [if_neg e, upd_ne _ _ e]; exact (h.tmp t).mono hle
  · intro e
    show ObOk (ctxOf E (G.set d b k) (ts.new d o) w') e ((upd ts.obj d o) e)
    by_cases he : e = d
    · subst he; simpa using ho
    · rw [upd_ne _ _ he]
      refine ObOk.mono hle (by simp [ctxOf, Ghost.set, upd, he]) (by simp [ctxOf, Ghost.set, upd, he]) ?_ (h.obj e)
      intro hkind hk
      exact hw _ (h.own e ⟨hkind, hk⟩).2.2
  · intro e e' h1 h2 h3
    by_cases he : e = d <;> by_cases he' : e' = d
    · rw [he, he']
    · subst he
      rw [hβd, hβ e' he'] at h3
      have := (h.own e' ((live e' he').1 h2)).2.2
      omega
    · subst he'
      rw [hβd, hβ e he] at h3
      have := (h.own e ((live e he).1 h1)).2.2
      omega
    · rw [hβ e he, hβ e' he'] at h3
      exact h.sep e e' ((live e he).1 h1) ((live e' he').1 h2) h3
  · intro e h1
    by_cases he : e = d
    · subst he
      rw [hβd]
      have h1' : k ≠ none := by have := h1.2; rwa [hκd] at this
      have := h.bel.size
      exact ⟨.inl (by omega), fun hF => by have := h.inF b hF; omega, hbw h1'⟩
    · rw [hβ e he]
      obtain ⟨p, q, r⟩ := h.own e ((live e he).1 h1)
      exact ⟨p, q, Nat.lt_of_lt_of_le r hbel.size⟩
  · exact fun b hb => Nat.lt_of_lt_of_le (h.inF b hb) hbel.size
  · exact h.bel.trans ⟨hbel.os, hbel.tape, hbel.output, hbel.size, fun i hi _ => hw i hi, hbel.drawn⟩
  · intro j b' hj hg
    by_cases he : j = d
    · subst he; simp [TS.put, TS.new] at hg
    · rw [hβ j he]; exact h.pin j b' hj (by simpa [TS.put, TS.new, upd, he] using hg)

end Go.Proofs.Ytjmnokbbodcaaaa.Lg
