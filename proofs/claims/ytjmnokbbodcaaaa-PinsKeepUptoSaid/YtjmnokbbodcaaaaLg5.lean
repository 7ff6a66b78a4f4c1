/- The rules of the single operations. -/
import Derived.Test.YtjmnokbbodcaaaaLg4
import Derived.Deep.MidRow
import Derived.Laws.Strings
namespace Go.Proofs.Ytjmnokbbodcaaaa.Lg
set_option linter.unusedVariables false
set_option linter.unusedSimpArgs false
open Go

inductive TyK where
  | unk | bool | int (k : IntKind) | str | slice (e : Nat) | array (n e : Nat) | struct (fs : List (Nat × Nat × String)) | map (k e : Nat) | ptr (e : Nat) | func | iface | other
  deriving DecidableEq

structure TyI where
  k : TyK
  sz : Nat
  bytes : Nat
  zero : List AV

def descK : TypeDesc → TyK
  | .bool => .bool
  | .int k => .int k
  | .string => .str
  | .slice e => .slice e
  | .array n e => .array n e
  | .struct fs => .struct (fs.toList.map fun f => (f.offset, f.type, f.name))
  | .map k e => .map k e
  | .pointer e => .ptr e
  | .func .. => .func
  | .interface _ => .iface
  | _ => .other

def TyK.agg : TyK → Bool
  | .struct _ | .array .. => true
  | _ => false

/-- What is known of a type. -/
def TyOk (P : Program) (t : Nat) (i : TyI) : Prop :=
  i.k = .unk ∨ ∃ ti, P.info? t = some ti ∧ ti.size = i.sz ∧ ti.bytes = i.bytes ∧ (∃ z, ti.zero = some z ∧ z.cells.toList.map ofV = i.zero ∧ z.cells.size = ti.size) ∧ ∃ d, P.underlying t = some d ∧ descK d = i.k

structure Tys (P : Program) where
  ty : Nat → TyI
  ok : ∀ t, TyOk P t (ty t)

section
variable {P : Program} (T : Tys P)

theorem Tys.get {T : Tys P} {t : Nat} (h : (T.ty t).k ≠ .unk) : ∃ ti, P.info? t = some ti ∧ ti.size = (T.ty t).sz ∧ ti.bytes = (T.ty t).bytes ∧
    (∃ z, ti.zero = some z ∧ z.cells.toList.map ofV = (T.ty t).zero ∧ z.cells.size = ti.size) ∧ ∃ d, P.underlying t = some d ∧ descK d = (T.ty t).k :=
  (T.ok t).resolve_left h

theorem Tys.run_sizeOf {T : Tys P} {t : Nat} (h : (T.ty t).k ≠ .unk) (w : World) : (sizeOf t).run P w = .ok (T.ty t).sz w := by
  obtain ⟨ti, h1, h2, _⟩ := Tys.get h
  simp [sizeOf, typeInfo, h1, h2]

theorem descK_agg {d : TypeDesc} : (match d with | .struct _ | .array _ _ => true | _ => false) = (descK d).agg := by cases d <;> rfl

theorem Tys.run_isAgg {T : Tys P} {t : Nat} (h : (T.ty t).k ≠ .unk) (w : World) : (isAgg t).run P w = .ok (T.ty t).k.agg w := by
  obtain ⟨ti, _, _, _, _, d, h1, h2⟩ := Tys.get h
  unfold isAgg
  rw [Sem.run_bind, run_underlying h1 w, ← h2]
  cases d <;> rfl

theorem Tys.slice {T : Tys P} {t e : Nat} (h : (T.ty t).k = .slice e) : P.underlying t = some (.slice e) := by
  obtain ⟨ti, _, _, _, _, d, h1, h2⟩ := Tys.get (T := T) (t := t) (by rw [h]; simp)
  rw [h] at h2
  cases d <;> simp [descK] at h2
  subst h2; exact h1

theorem Tys.strT {T : Tys P} {t : Nat} (h : (T.ty t).k = .str) : P.underlying t = some .string := by
  obtain ⟨ti, _, _, _, _, d, h1, h2⟩ := Tys.get (T := T) (t := t) (by rw [h]; simp)
  rw [h] at h2
  cases d <;> simp [descK] at h2
  exact h1

theorem Tys.boolT {T : Tys P} {t : Nat} (h : (T.ty t).k = .bool) : P.underlying t = some .bool := by
  obtain ⟨ti, _, _, _, _, d, h1, h2⟩ := Tys.get (T := T) (t := t) (by rw [h]; simp)
  rw [h] at h2
  cases d <;> simp [descK] at h2
  exact h1

theorem Tys.arrayT {T : Tys P} {t n e : Nat} (h : (T.ty t).k = .array n e) : P.underlying t = some (.array n e) := by
  obtain ⟨ti, _, _, _, _, d, h1, h2⟩ := Tys.get (T := T) (t := t) (by rw [h]; simp)
  rw [h] at h2
  cases d <;> simp [descK] at h2
  obtain ⟨rfl, rfl⟩ := h2; exact h1

theorem Tys.structT {T : Tys P} {t : Nat} {fs : List (Nat × Nat × String)} (h : (T.ty t).k = .struct fs) :
    ∃ fd, P.underlying t = some (.struct fd) ∧ fd.toList.map (fun f => (f.offset, f.type, f.name)) = fs := by
  obtain ⟨ti, _, _, _, _, d, h1, h2⟩ := Tys.get (T := T) (t := t) (by rw [h]; simp)
  rw [h] at h2
  cases d <;> simp [descK] at h2
  exact ⟨_, h1, h2⟩
end

/-! ### Values -/
section
variable {P : Program}

/-- Where the value goes. -/
def setK (ts : TS) (dst : Option Nat) (v : AV) (K : TS → Prop) : Prop :=
  match dst with
  | some d => d < ts.n ∧ K (ts.put d v)
  | none => K ts

theorem SpecO.val {o : Oper} {ts : TS} {K : TS → Prop} {x : AV} (hk : setK ts o.dst x K)
    (hrun : ∀ E G a w, Rel E ts G a w → ∃ v, (execOp a.eval o).run P w = .ok (.value v) w ∧ Rep (ctxOf E G ts w) v x) : SpecO P o ts K := by
  intro E G a w next Q hr hn
  obtain ⟨v, h1, h2⟩ := hrun E G a w hr
  unfold Oper.wp
  rw [h1]
  show next (a.put o.dst v) w
  cases hd : o.dst with
  | none => rw [hd] at hk; exact hn ts G _ w hk hr
  | some d => rw [hd] at hk; exact hn _ G _ w hk.2 (hr.put hk.1 h2)

theorem SpecO.move {o : Oper} {ts : TS} {K : TS → Prop} {x : Operand} (ho : o.op = .move x ∨ o.op = .assign x) (hk : setK ts o.dst (ts.ev x) K) : SpecO P o ts K :=
  SpecO.val hk fun E G a w hr => ⟨a.eval x, by rcases ho with h | h <;> simp [execOp, h], hr.ev x⟩

theorem SpecO.pick {o : Oper} {ts : TS} {K : TS → Prop} {c x y : Operand} (ho : o.op = .pick c x y) {t : Bool} (hc : ts.ev c = .bool t)
    (hk : setK ts o.dst (if t then ts.ev x else ts.ev y) K) : SpecO P o ts K :=
  SpecO.val hk fun E G a w hr => by
    have := hr.ev c
    rw [hc] at this
    refine ⟨if t then a.eval x else a.eval y, by simp [execOp, ho, rep_bool this, asBool], ?_⟩
    cases t
    · exact hr.ev y
    · exact hr.ev x

theorem rep_int {c : Ctx} {v : Value} {k : IntKind} {n : Int} (h : Rep c v (.int k n)) : v = .int k n := by cases h; rfl
theorem rep_str {c : Ctx} {v : Value} {l : List UInt8} (h : Rep c v (.str l)) : ∃ s, v = .string s ∧ s.data.toList = l := by cases h; exact ⟨_, rfl, by assumption⟩

/-- The operators on whole numbers, strings and bools. -/
def binA (op : BinOp) (x y : AV) : Option AV :=
  match x, y with
  | .int k a, .int k' b =>
    if k = k' then
      match op with
      | .add => some (.int k (k.wrap (a + b)))
      | .sub => some (.int k (k.wrap (a - b)))
      | .mul => some (.int k (k.wrap (a * b)))
      | .quo => if b = 0 then none else some (.int k (k.wrap (a.tdiv b)))
      | .rem => if b = 0 then none else some (.int k (a.tmod b))
      | .eql => some (.bool (a == b))
      | .neq => some (.bool (a != b))
      | .lss => some (.bool (decide (a < b)))
      | .leq => some (.bool (decide (a ≤ b)))
      | .gtr => some (.bool (decide (b < a)))
      | .geq => some (.bool (decide (b ≤ a)))
      | .and => some (.int k (k.wrap (BitVec.ofInt k.bits a &&& BitVec.ofInt k.bits b).toNat))
      | .or => some (.int k (k.wrap (BitVec.ofInt k.bits a ||| BitVec.ofInt k.bits b).toNat))
      | .xor => some (.int k (k.wrap (BitVec.ofInt k.bits a ^^^ BitVec.ofInt k.bits b).toNat))
      | .andNot => some (.int k (k.wrap (BitVec.ofInt k.bits a &&& ~~~BitVec.ofInt k.bits b).toNat))
      | _ => none
    else none
  | .str a, .str b =>
    match op with
    | .eql => some (.bool (a == b))
    | .neq => some (.bool (a != b))
    | .lss => some (.bool (Op.bytesLess a b))
    | .leq => some (.bool (Op.bytesLess a b || a == b))
    | .gtr => some (.bool !(Op.bytesLess a b || a == b))
    | .geq => some (.bool !(Op.bytesLess a b))
    | .add => if a.length + b.length ≤ 4611686018427387904 then some (.str (a ++ b)) else none
    | _ => none
  | _, _ => none

theorem toList_eq (s : ByteArray) : s.toList = s.data.toList := Go.ByteArray.toList_eq s

theorem SpecO.bin {o : Oper} {ts : TS} {K : TS → Prop} {op : BinOp} {t u : TypeId} {x y : Operand} (ho : o.op = .binOp op t x y u) {r : AV} (hb : binA op (ts.ev x) (ts.ev y) = some r)
    (hk : setK ts o.dst r K) : SpecO P o ts K :=
  SpecO.val hk fun E G a w hr => by
    have hx := hr.ev x
    have hy := hr.ev y
    unfold binA at hb
    split at hb
    · rename_i k m k' m' e1 e2
      rw [e1] at hx; rw [e2] at hy
      split at hb
      · rename_i ek
        subst ek
        simp only [execOp, ho, rep_int hx, rep_int hy]
        cases op <;> simp at hb
        all_goals first
          | (subst hb; refine ⟨_, by simp [eqGuard, binOp, Op.intArith, Op.intBits, Op.intCmp]; rfl, ?_⟩; first | exact .int _ _ | exact .bool _)
          | (have h0 := hb.1; have hb := hb.2; subst hb; refine ⟨_, by simp [eqGuard, binOp, Op.intDiv, h0]; rfl, ?_⟩; exact .int _ _)
      · simp at hb
    · rename_i l l' e1 e2
      rw [e1] at hx; rw [e2] at hy
      obtain ⟨s, es, rfl⟩ := rep_str hx
      obtain ⟨s', es', rfl⟩ := rep_str hy
      simp only [execOp, ho, es, es']
      cases op <;> dsimp only at hb
      case add =>
        split at hb
        · rename_i h0
          cases hb
          refine ⟨.string (s ++ s'), ?_, .str _ _ (by simp)⟩
          have h1 : s.data.toList.length = s.size := by cases s; rfl
          have h2 : s'.data.toList.length = s'.size := by cases s'; rfl
          have h3 : ¬ ((s.size + s'.size : Nat) : Int) > IntKind.i64.max := by
            rw [h1, h2] at h0
            simp only [IntKind.max, IntKind.bits, IntKind.signed]
            simp
            omega
          simp only [eqGuard, binOp, Op.stringOp, if_neg h3]; simp
        · cases hb
      all_goals first
        | (cases hb; done)
        | (cases hb; refine ⟨.bool _, ?_, .bool _⟩; simp [eqGuard, binOp, Op.stringOp, toList_eq]; done)
        | (cases hb; refine ⟨.bool _, ?_, .bool _⟩; simp [eqGuard, binOp, Op.stringOp, toList_eq, bne]; done)
    · simp at hb

end
end Go.Proofs.Ytjmnokbbodcaaaa.Lg
