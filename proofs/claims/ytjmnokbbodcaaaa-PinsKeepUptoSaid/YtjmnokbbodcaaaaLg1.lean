/- The abstract values and states of the logic layer, and the relation between them and the model's worlds. No program in sight. -/
import Derived.Orders
import Derived.Laws.AppendOwn
namespace Go.Proofs.Ytjmnokbbodcaaaa.Lg
set_option linter.unusedVariables false
set_option linter.unusedSimpArgs false
open Go

inductive AV where
  | any
  | bool (b : Bool)
  | int (k : IntKind) (n : Int)
  | str (s : List UInt8)
  | agg (cs : List AV)
  | tup (vs : List AV)
  | slice (clip : Bool) (xs : List AV)
  | ro (cs : List AV)
  | nilp
  | clo (fn : Fn) (first caps : List AV)
  | nilf
  | nilm
  | niface
  | iface (t : TypeId) (v : AV)
  | os (d g len : Nat)
  | ref (d g off : Nat)
  | eref (d g i o : Nat)
  | ot (d g off len : Nat)
  deriving Inhabited

def AV.cells : AV → List AV
  | .agg cs => cs
  | v => [v]

structure Ctx where
  w : World
  M : Nat → Prop
  gen : Nat → Nat
  kind : Nat → Option Nat
  β : Nat → Nat
  κ : Nat → Option Nat

/-- What an owned slice's value is. -/
def OsIs (c : Ctx) (d len : Nat) (v : Value) : Prop :=
  match c.κ d with
  | some cap => v = .slice (some ⟨c.β d, 0, none⟩) len cap ∧ len ≤ cap
  | none => len = 0 ∧ ∃ a, v = .slice a 0 0

/-- What the value of a piece of an owned array is, that begins further on. -/
def OtIs (c : Ctx) (d sz off len : Nat) (v : Value) : Prop :=
  ∃ a cap', v = .slice a len cap' ∧ len ≤ cap' ∧ (0 < len → a = some ⟨c.β d, off * sz, none⟩ ∧ ∃ cap, c.κ d = some cap ∧ off + len ≤ cap)

inductive Rep (c : Ctx) : Value → AV → Prop
  | any (v : Value) : Rep c v .any
  | bool (b : Bool) : Rep c (.bool b) (.bool b)
  | int (k : IntKind) (n : Int) : Rep c (.int k n) (.int k n)
  | str (s : ByteArray) (l : List UInt8) (h : s.data.toList = l) : Rep c (.string s) (.str l)
  | agg (cs : Array Value) (as : List AV) (hl : cs.size = as.length) (h : ∀ i, Rep c (cs.getD i undef) (as.getD i .any)) : Rep c (.agg cs) (.agg as)
  | tup (cs : Array Value) (as : List AV) (hl : cs.size = as.length) (h : ∀ i, Rep c (cs.getD i undef) (as.getD i .any)) : Rep c (.tuple cs) (.tup as)
  | slice0 (clip : Bool) (a : Option Addr) (cap : Nat) (h : clip = true → cap = 0) : Rep c (.slice a 0 cap) (.slice clip [])
  | slice (clip : Bool) (b off cap sz : Nat) (xs : List AV) (f : Nat → Nat → Value) (h0 : xs ≠ []) (hs : 0 < sz) (hM : ¬ c.M b) (hcap : xs.length ≤ cap)
      (hclip : clip = true → cap = xs.length) (hsz : ∀ x ∈ xs, x.cells.length = sz)
      (hc : ∀ i j, i < xs.length → j < sz → c.w.cell? ⟨b, off + i * sz + j, none⟩ = some (f i j))
      (hr : ∀ i j, Rep c (f i j) ((xs.getD i .any).cells.getD j .any)) : Rep c (.slice (some ⟨b, off, none⟩) xs.length cap) (.slice clip xs)
  | ro (b off : Nat) (cs : List AV) (f : Nat → Value) (h0 : cs ≠ []) (hM : ¬ c.M b) (hc : ∀ j, j < cs.length → c.w.cell? ⟨b, off + j, none⟩ = some (f j))
      (hr : ∀ j, Rep c (f j) (cs.getD j .any)) : Rep c (.pointer (some ⟨b, off, none⟩)) (.ro cs)
  | nilp : Rep c (.pointer none) .nilp
  | clo (fn : Fn) (f1 c1 : Array Value) (f2 c2 : List AV) (hf : f1.size = f2.length) (hc : c1.size = c2.length)
      (h1 : ∀ i, Rep c (f1.getD i undef) (f2.getD i .any)) (h2 : ∀ i, Rep c (c1.getD i undef) (c2.getD i .any)) : Rep c (.func fn f1 c1) (.clo fn f2 c2)
  | nilf : Rep c .nilFunc .nilf
  | nilm : Rep c (.map none) .nilm
  | niface : Rep c .nilIface .niface
  | iface (t : TypeId) (v : Value) (x : AV) (h : Rep c v x) : Rep c (.iface t v) (.iface t x)
  | os (d g len : Nat) (v : Value) (h1 : v.oneCell' = true) (hg : g ≤ c.gen d) (h : g = c.gen d → c.kind d ≠ none → OsIs c d len v) : Rep c v (.os d g len)
  | ref (d g off : Nat) (v : Value) (h1 : v.oneCell' = true) (hg : g ≤ c.gen d) (h : g = c.gen d → c.kind d ≠ none → v = .pointer (some ⟨c.β d, off, none⟩)) : Rep c v (.ref d g off)
  | eref (d g i o : Nat) (v : Value) (h1 : v.oneCell' = true) (hg : g ≤ c.gen d) (h : ∀ sz, g = c.gen d → c.kind d = some sz → v = .pointer (some ⟨c.β d, i * sz + o, none⟩)) : Rep c v (.eref d g i o)
  | ot (d g off len : Nat) (v : Value) (h1 : v.oneCell' = true) (hg : g ≤ c.gen d) (h : ∀ sz, g = c.gen d → c.kind d = some sz → OtIs c d sz off len v) : Rep c v (.ot d g off len)

/-- What must hold from one context to the next for every reading to stand. -/
structure Ctx.Le (c c' : Ctx) : Prop where
  cell : ∀ a u, ¬ c.M a.block → c.w.cell? a = some u → c'.w.cell? a = some u ∧ ¬ c'.M a.block
  gen : ∀ d, c.gen d ≤ c'.gen d
  kind : ∀ d k, c.gen d = c'.gen d → c'.kind d = some k → c.kind d = some k ∧ c'.β d = c.β d ∧ c'.κ d = c.κ d

theorem Rep.mono {c c' : Ctx} (hle : c.Le c') : ∀ {v : Value} {x : AV}, Rep c v x → Rep c' v x := by
  intro v x h
  induction h with
  | any v => exact .any v
  | bool b => exact .bool b
  | int k n => exact .int k n
  | str s l h => exact .str s l h
  | agg cs as hl _ ih => exact .agg cs as hl ih
  | tup cs as hl _ ih => exact .tup cs as hl ih
  | slice0 clip a cap h => exact .slice0 clip a cap h
  | slice clip b off cap sz xs f h0 hs hM hcap hclip hsz hc _ ih =>
    refine .slice clip b off cap sz xs f h0 hs ?_ hcap hclip hsz ?_ ih
    · exact (hle.cell ⟨b, off + 0 * sz + 0, none⟩ _ hM (hc 0 0 (List.length_pos_iff.2 h0) hs)).2
    · exact fun i j hi hj => (hle.cell ⟨b, off + i * sz + j, none⟩ _ hM (hc i j hi hj)).1
  | ro b off cs f h0 hM hc _ ih =>
    refine .ro b off cs f h0 ?_ ?_ ih
    · exact (hle.cell ⟨b, off + 0, none⟩ _ hM (hc 0 (List.length_pos_iff.2 h0))).2
    · exact fun j hj => (hle.cell ⟨b, off + j, none⟩ _ hM (hc j hj)).1
  | nilp => exact .nilp
  | clo fn f1 c1 f2 c2 hf hc _ _ i1 i2 => exact .clo fn f1 c1 f2 c2 hf hc i1 i2
  | nilf => exact .nilf
  | nilm => exact .nilm
  | niface => exact .niface
  | iface t v x _ ih => exact .iface t v x ih
  | os d g len v h1v hg h =>
    refine .os d g len v h1v (Nat.le_trans hg (hle.gen d)) fun e hk => ?_
    cases hk' : c'.kind d with
    | none => exact absurd hk' hk
    | some k =>
      have e2 : c.gen d = c'.gen d := Nat.le_antisymm (hle.gen d) (by rw [← e]; exact hg)
      obtain ⟨h1, h2, h3⟩ := hle.kind d k e2 hk'
      have := h (by rw [e2]; exact e) (by rw [h1]; simp)
      unfold OsIs at this ⊢
      rw [h2, h3]; exact this
  | ref d g off v h1v hg h =>
    refine .ref d g off v h1v (Nat.le_trans hg (hle.gen d)) fun e hk => ?_
    cases hk' : c'.kind d with
    | none => exact absurd hk' hk
    | some k =>
      have e2 : c.gen d = c'.gen d := Nat.le_antisymm (hle.gen d) (by rw [← e]; exact hg)
      obtain ⟨h1, h2, h3⟩ := hle.kind d k e2 hk'
      rw [h2]
      exact h (by rw [e2]; exact e) (by rw [h1]; simp)
  | eref d g i o v h1v hg h =>
    refine .eref d g i o v h1v (Nat.le_trans hg (hle.gen d)) fun sz e hk' => ?_
    have e2 : c.gen d = c'.gen d := Nat.le_antisymm (hle.gen d) (by rw [← e]; exact hg)
    obtain ⟨h1, h2, h3⟩ := hle.kind d sz e2 hk'
    rw [h2]
    exact h sz (by rw [e2]; exact e) h1
  | ot d g i o v h1v hg h =>
    refine .ot d g i o v h1v (Nat.le_trans hg (hle.gen d)) fun sz e hk' => ?_
    have e2 : c.gen d = c'.gen d := Nat.le_antisymm (hle.gen d) (by rw [← e]; exact hg)
    obtain ⟨h1, h2, h3⟩ := hle.kind d sz e2 hk'
    have := h sz (by rw [e2]; exact e) h1
    unfold OtIs at this ⊢
    rw [h2, h3]; exact this

/-- Nothing in it is the frame's own. -/
def AV.pure : AV → Bool
  | .os .. | .ref .. | .eref .. | .ot .. => false
  | .agg cs | .tup cs | .slice _ cs | .ro cs => pureL cs
  | .clo _ a b => pureL a && pureL b
  | .iface _ v => v.pure
  | _ => true
where pureL : List AV → Bool
  | [] => true
  | x :: r => x.pure && pureL r

/-- No memory is reached from it at all. -/
def AV.flat : AV → Bool
  | .bool _ | .int .. | .str _ | .any | .nilp | .nilf | .nilm | .niface => true
  | .agg cs | .tup cs => flatL cs
  | .iface _ v => v.flat
  | _ => false
where flatL : List AV → Bool
  | [] => true
  | x :: r => x.flat && flatL r

theorem pureL_getD : ∀ (l : List AV) (i : Nat), AV.pure.pureL l = true → (l.getD i .any).pure = true
  | [], i, _ => by simp [AV.pure]
  | x :: r, 0, h => by simp [AV.pure.pureL] at h; simpa using h.1
  | x :: r, i + 1, h => by simp [AV.pure.pureL] at h; simpa using pureL_getD r i h.2

theorem flatL_getD : ∀ (l : List AV) (i : Nat), AV.flat.flatL l = true → (l.getD i .any).flat = true
  | [], i, _ => by simp [AV.flat]
  | x :: r, 0, h => by simp [AV.flat.flatL] at h; simpa using h.1
  | x :: r, i + 1, h => by simp [AV.flat.flatL] at h; simpa using flatL_getD r i h.2

theorem pureL_iff : ∀ (l : List AV), AV.pure.pureL l = true ↔ ∀ x ∈ l, x.pure = true
  | [] => by simp [AV.pure.pureL]
  | x :: r => by simp [AV.pure.pureL, pureL_iff r]

theorem AV.pure_cells {x : AV} (h : x.pure = true) : AV.pure.pureL x.cells = true := by
  cases x <;> simp_all [AV.cells, AV.pure, AV.pure.pureL]

theorem AV.flat_cells {x : AV} (h : x.flat = true) : AV.flat.flatL x.cells = true := by
  cases x <;> simp_all [AV.cells, AV.flat, AV.flat.flatL]

/-- A pure value's reading hangs on the cells that may not be written, on nothing else. -/
theorem Rep.mono_pure {c c' : Ctx} (hc : ∀ a u, ¬ c.M a.block → c.w.cell? a = some u → c'.w.cell? a = some u ∧ ¬ c'.M a.block) :
    ∀ {v : Value} {x : AV}, Rep c v x → x.pure = true → Rep c' v x := by
  intro v x h
  induction h with
  | any v => exact fun _ => .any v
  | bool b => exact fun _ => .bool b
  | int k n => exact fun _ => .int k n
  | str s l h => exact fun _ => .str s l h
  | agg cs as hl _ ih => exact fun hp => .agg cs as hl fun i => ih i (pureL_getD as i (by simpa [AV.pure] using hp))
  | tup cs as hl _ ih => exact fun hp => .tup cs as hl fun i => ih i (pureL_getD as i (by simpa [AV.pure] using hp))
  | slice0 clip a cap h => exact fun _ => .slice0 clip a cap h
  | slice clip b off cap sz xs f h0 hs hM hcap hclip hsz hcell _ ih =>
    intro hp
    refine .slice clip b off cap sz xs f h0 hs ?_ hcap hclip hsz ?_ fun i j => ih i j ?_
    · exact (hc ⟨b, off + 0 * sz + 0, none⟩ _ hM (hcell 0 0 (List.length_pos_iff.2 h0) hs)).2
    · exact fun i j hi hj => (hc ⟨b, off + i * sz + j, none⟩ _ hM (hcell i j hi hj)).1
    · exact pureL_getD _ _ (AV.pure_cells (pureL_getD xs i (by simpa [AV.pure] using hp)))
  | ro b off cs f h0 hM hcell _ ih =>
    intro hp
    refine .ro b off cs f h0 ?_ ?_ fun j => ih j (pureL_getD cs j (by simpa [AV.pure] using hp))
    · exact (hc ⟨b, off + 0, none⟩ _ hM (hcell 0 (List.length_pos_iff.2 h0))).2
    · exact fun j hj => (hc ⟨b, off + j, none⟩ _ hM (hcell j hj)).1
  | nilp => exact fun _ => .nilp
  | clo fn f1 c1 f2 c2 hf hcc _ _ i1 i2 =>
    intro hp
    simp only [AV.pure, Bool.and_eq_true] at hp
    exact .clo fn f1 c1 f2 c2 hf hcc (fun i => i1 i (pureL_getD f2 i hp.1)) (fun i => i2 i (pureL_getD c2 i hp.2))
  | nilf => exact fun _ => .nilf
  | nilm => exact fun _ => .nilm
  | niface => exact fun _ => .niface
  | iface t v x _ ih => exact fun hp => .iface t v x (ih (by simpa [AV.pure] using hp))
  | os d g len v h1v hg h => intro hp; simp [AV.pure] at hp
  | ref d g off v h1v hg h => intro hp; simp [AV.pure] at hp
  | eref d g i o v h1v hg h => intro hp; simp [AV.pure] at hp
  | ot d g i o v h1v hg h => intro hp; simp [AV.pure] at hp

/-- A flat value's reading hangs on no memory. -/
theorem Rep.mono_flat {c c' : Ctx} : ∀ {v : Value} {x : AV}, Rep c v x → x.flat = true → Rep c' v x := by
  intro v x h
  induction h with
  | any v => exact fun _ => .any v
  | bool b => exact fun _ => .bool b
  | int k n => exact fun _ => .int k n
  | str s l h => exact fun _ => .str s l h
  | agg cs as hl _ ih => exact fun hp => .agg cs as hl fun i => ih i (flatL_getD as i (by simpa [AV.flat] using hp))
  | tup cs as hl _ ih => exact fun hp => .tup cs as hl fun i => ih i (flatL_getD as i (by simpa [AV.flat] using hp))
  | nilp => exact fun _ => .nilp
  | nilf => exact fun _ => .nilf
  | nilm => exact fun _ => .nilm
  | niface => exact fun _ => .niface
  | iface t v x _ ih => exact fun hp => .iface t v x (ih (by simpa [AV.flat] using hp))
  | _ => intro hp; simp [AV.flat] at hp

/-- A constant's abstract value. -/
def ofV : Value → AV
  | .bool b => .bool b
  | .int k n => .int k n
  | .string s => .str s.data.toList
  | .slice none 0 0 => .slice true []
  | .pointer none => .nilp
  | .nilFunc => .nilf
  | .map none => .nilm
  | .nilIface => .niface
  | _ => .any

theorem rep_ofV (c : Ctx) (v : Value) : Rep c v (ofV v) := by
  unfold ofV
  split
  · exact .bool _
  · exact .int _ _
  · exact .str _ _ rfl
  · exact .slice0 true none 0 fun _ => rfl
  · exact .nilp
  · exact .nilf
  · exact .nilm
  · exact .niface
  · exact .any _

theorem rep_os {c : Ctx} {v : Value} {d g len : Nat} (h : Rep c v (.os d g len)) : v.oneCell' = true ∧ g ≤ c.gen d ∧ (g = c.gen d → c.kind d ≠ none → OsIs c d len v) := by
  cases h with
  | os _ _ _ _ h1 h2 h3 => exact ⟨h1, h2, h3⟩
theorem rep_ref {c : Ctx} {v : Value} {d g off : Nat} (h : Rep c v (.ref d g off)) : v.oneCell' = true ∧ g ≤ c.gen d ∧ (g = c.gen d → c.kind d ≠ none → v = .pointer (some ⟨c.β d, off, none⟩)) := by
  cases h with
  | ref _ _ _ _ h1 h2 h3 => exact ⟨h1, h2, h3⟩
theorem rep_ot {c : Ctx} {v : Value} {d g off len : Nat} (h : Rep c v (.ot d g off len)) : v.oneCell' = true ∧ g ≤ c.gen d ∧ (∀ sz, g = c.gen d → c.kind d = some sz → OtIs c d sz off len v) := by
  cases h with
  | ot _ _ _ _ _ h1 h2 h3 => exact ⟨h1, h2, h3⟩
theorem rep_nilm {c : Ctx} {v : Value} (h : Rep c v .nilm) : v = .map none := by cases h; rfl
theorem rep_nilp {c : Ctx} {v : Value} (h : Rep c v .nilp) : v = .pointer none := by cases h; rfl
theorem rep_agg {c : Ctx} {v : Value} {cs : List AV} (h : Rep c v (.agg cs)) : ∃ vs, v = .agg vs ∧ vs.size = cs.length ∧ ∀ i, Rep c (vs.getD i undef) (cs.getD i .any) := by
  cases h with
  | agg vs _ h1 h2 => exact ⟨vs, rfl, h1, h2⟩
theorem rep_tup {c : Ctx} {v : Value} {cs : List AV} (h : Rep c v (.tup cs)) : ∃ vs, v = .tuple vs ∧ vs.size = cs.length ∧ ∀ i, Rep c (vs.getD i undef) (cs.getD i .any) := by
  cases h with
  | tup vs _ h1 h2 => exact ⟨vs, rfl, h1, h2⟩

/-- One cell's value. -/
def AV.one : AV → Bool
  | .any | .agg _ | .tup _ => false
  | _ => true

theorem Rep.one {c : Ctx} {v : Value} {x : AV} (h : Rep c v x) (hx : x.one = true) : v.oneCell' = true := by
  cases h <;> simp_all [AV.one, Value.oneCell']

/-- The same, with nothing said of what room a slice has behind its end. -/
def AV.nrm : AV → AV
  | .slice _ xs => .slice false (nrmL xs)
  | .agg cs => .agg (nrmL cs)
  | .tup cs => .tup (nrmL cs)
  | .ro cs => .ro (nrmL cs)
  | .clo fn a b => .clo fn (nrmL a) (nrmL b)
  | .iface t x => .iface t x.nrm
  | x => x
where nrmL : List AV → List AV
  | [] => []
  | x :: r => x.nrm :: nrmL r

theorem nrmL_eq : ∀ (l : List AV), AV.nrm.nrmL l = l.map AV.nrm
  | [] => rfl
  | x :: r => by simp [AV.nrm.nrmL, nrmL_eq r]

theorem nrmL_getD (l : List AV) (i : Nat) : (AV.nrm.nrmL l).getD i .any = (l.getD i .any).nrm := by
  rw [nrmL_eq]
  simp only [List.getD_eq_getElem?_getD, List.getElem?_map]
  cases l[i]? <;> rfl

theorem nrm_cells (x : AV) : x.nrm.cells = AV.nrm.nrmL x.cells := by cases x <;> rfl
theorem nrmL_len (l : List AV) : (AV.nrm.nrmL l).length = l.length := by rw [nrmL_eq]; simp
theorem nrmL_ne {l : List AV} (h : l ≠ []) : AV.nrm.nrmL l ≠ [] := by
  intro e; have := nrmL_len l; rw [e] at this; exact h (List.length_eq_zero_iff.1 this.symm)

theorem Rep.nrm {c : Ctx} : ∀ {v : Value} {x : AV}, Rep c v x → Rep c v x.nrm := by
  intro v x h
  induction h with
  | any v => exact .any v
  | bool b => exact .bool b
  | int k n => exact .int k n
  | str s l h => exact .str s l h
  | agg cs as hl _ ih => exact .agg cs _ (by rw [nrmL_len]; exact hl) fun i => by rw [nrmL_getD]; exact ih i
  | tup cs as hl _ ih => exact .tup cs _ (by rw [nrmL_len]; exact hl) fun i => by rw [nrmL_getD]; exact ih i
  | slice0 clip a cap h => exact .slice0 false a cap (by simp)
  | slice clip b off cap sz xs f h0 hs hM hcap hclip hsz hc _ ih =>
    have := Rep.slice (c := c) false b off cap sz (AV.nrm.nrmL xs) f (nrmL_ne h0) hs hM (by rw [nrmL_len]; exact hcap) (by simp)
      (fun x hx => by
        rw [nrmL_eq] at hx
        obtain ⟨y, hy, rfl⟩ := List.mem_map.1 hx
        rw [nrm_cells, nrmL_len]; exact hsz y hy)
      (fun i j hi hj => hc i j (by rwa [nrmL_len] at hi) hj)
      (fun i j => by rw [nrmL_getD, nrm_cells, nrmL_getD]; exact ih i j)
    rw [nrmL_len] at this
    exact this
  | ro b off cs f h0 hM hc _ ih => exact .ro b off _ f (nrmL_ne h0) hM (fun j hj => hc j (by rwa [nrmL_len] at hj)) fun j => by rw [nrmL_getD]; exact ih j
  | nilp => exact .nilp
  | clo fn f1 c1 f2 c2 hf hc _ _ i1 i2 => exact .clo fn f1 c1 _ _ (by rw [nrmL_len]; exact hf) (by rw [nrmL_len]; exact hc) (fun i => by rw [nrmL_getD]; exact i1 i) fun i => by rw [nrmL_getD]; exact i2 i
  | nilf => exact .nilf
  | nilm => exact .nilm
  | niface => exact .niface
  | iface t v x _ ih => exact .iface t v _ ih
  | os d g len v h1v hg h => exact .os d g len v h1v hg h
  | ref d g off v h1v hg h => exact .ref d g off v h1v hg h
  | eref d g i o v h1v hg h => exact .eref d g i o v h1v hg h
  | ot d g i o v h1v hg h => exact .ot d g i o v h1v hg h

mutual
theorem pure_nrm : ∀ (x : AV), x.nrm.pure = x.pure
  | .slice _ xs => by simp only [AV.nrm, AV.pure]; exact pureL_nrm xs
  | .agg xs => by simp only [AV.nrm, AV.pure]; exact pureL_nrm xs
  | .tup xs => by simp only [AV.nrm, AV.pure]; exact pureL_nrm xs
  | .ro xs => by simp only [AV.nrm, AV.pure]; exact pureL_nrm xs
  | .clo _ a b => by simp only [AV.nrm, AV.pure]; rw [pureL_nrm a, pureL_nrm b]
  | .iface _ x => by simp only [AV.nrm, AV.pure]; exact pure_nrm x
  | .any | .bool _ | .int _ _ | .str _ | .nilp | .nilf | .nilm | .niface | .os _ _ _ | .ref _ _ _ | .eref _ _ _ _ | .ot _ _ _ _ => rfl
theorem pureL_nrm : ∀ (l : List AV), AV.pure.pureL (AV.nrm.nrmL l) = AV.pure.pureL l
  | [] => rfl
  | x :: r => by simp only [AV.nrm.nrmL, AV.pure.pureL]; rw [pure_nrm x, pureL_nrm r]
end

mutual
theorem flat_nrm : ∀ (x : AV), x.nrm.flat = x.flat
  | .slice _ xs => rfl
  | .agg xs => by simp only [AV.nrm, AV.flat]; exact flatL_nrm xs
  | .tup xs => by simp only [AV.nrm, AV.flat]; exact flatL_nrm xs
  | .ro xs => rfl
  | .clo _ a b => rfl
  | .iface _ x => by simp only [AV.nrm, AV.flat]; exact flat_nrm x
  | .any | .bool _ | .int _ _ | .str _ | .nilp | .nilf | .nilm | .niface | .os _ _ _ | .ref _ _ _ | .eref _ _ _ _ | .ot _ _ _ _ => rfl
theorem flatL_nrm : ∀ (l : List AV), AV.flat.flatL (AV.nrm.nrmL l) = AV.flat.flatL l
  | [] => rfl
  | x :: r => by simp only [AV.nrm.nrmL, AV.flat.flatL]; rw [flat_nrm x, flatL_nrm r]
end

/-- The slots whose arrays a value leads to. -/
def AV.owns : AV → List Nat
  | .os d _ _ => [d]
  | .agg cs | .tup cs => ownsL cs
  | _ => []
where ownsL : List AV → List Nat
  | [] => []
  | x :: r => x.owns ++ ownsL r

end Go.Proofs.Ytjmnokbbodcaaaa.Lg
