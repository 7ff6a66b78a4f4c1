/- The operations as one computed transformer, and the steps of a proof by it. -/
import Derived.Test.YtjmnokbbodcaaaaLg14
namespace Go.Proofs.Ytjmnokbbodcaaaa.Lg
set_option linter.unusedVariables false
set_option linter.unusedSimpArgs false
open Go
variable {P : Program}

def loadK (T : Tys P) (t : Nat) (cs : List AV) (ts : TS) (dst : Option Nat) (K : TS → Prop) : Prop :=
  match (T.ty t).k with
  | .unk => False
  | k => (if k.agg then (T.ty t).sz else 1) ≤ cs.length ∧ setK ts dst (if k.agg then .agg (cs.take (T.ty t).sz) else cs.getD 0 .any) K

def optK {α : Type} (x : Option α) (K : α → Prop) : Prop :=
  match x with
  | some a => K a
  | none => False

theorem optK_some {α : Type} {x : Option α} {K : α → Prop} (h : optK x K) : ∃ a, x = some a ∧ K a := by
  cases x with
  | none => exact h.elim
  | some a => exact ⟨a, rfl, h⟩

def boolK (x : AV) (K : Bool → Prop) : Prop :=
  match x with
  | .bool b => K b
  | _ => False

theorem boolK_some {x : AV} {K : Bool → Prop} (h : boolK x K) : ∃ b, x = .bool b ∧ K b := by
  cases x <;> first | exact h.elim | exact ⟨_, rfl, h⟩

def intK (x : AV) (K : IntKind → Int → Prop) : Prop :=
  match x with
  | .int k n => K k n
  | _ => False

theorem intK_some {x : AV} {K : IntKind → Int → Prop} (h : intK x K) : ∃ k n, x = .int k n ∧ K k n := by
  cases x <;> first | exact h.elim | exact ⟨_, _, rfl, h⟩

def lenFits : TyK → AV → Bool
  | .slice _, .slice .. => true
  | .slice _, .os .. => true
  | .slice _, .ot .. => true
  | .str, .str _ => true
  | .map .., .nilm => true
  | _, _ => false

def lenK (T : Tys P) (t : Nat) (x : AV) (ts : TS) (dst : Option Nat) (K : TS → Prop) : Prop :=
  lenFits (T.ty t).k x = true ∧ optK (ts.len x) fun n => setK ts dst (.int .i64 n) K

theorem SpecO.conseq {o : Oper} {ts : TS} {K K' : TS → Prop} (h : SpecO P o ts K) (hk : ∀ ts', K ts' → ∃ ts'', K' ts'' ∧ ∀ E G a w, Rel E ts' G a w → Rel E ts'' G a w) : SpecO P o ts K' := by
  intro E G a w next Q hr hn
  refine h E G a w next Q hr fun ts' G' a' w' hK hr' => ?_
  obtain ⟨ts'', h1, h2⟩ := hk ts' hK
  exact hn ts'' G' a' w' h1 (h2 _ _ _ _ hr')

/-- An array's elements, with nothing said of the room behind the slices in them. -/
theorem Rel.nrmArr {E : Env} {ts : TS} {G : Ghost} {a : Act} {w : World} (h : Rel E ts G a w) {d sz : Nat} {xs ys : List AV} (ho : ts.obj d = .arr sz (xs ++ ys)) : Rel E (ts.setObj d (.arr sz (xs ++ AV.nrm.nrmL ys))) G a w := by
  have hkind : (fun e => ((ts.setObj d (.arr sz (xs ++ AV.nrm.nrmL ys))).obj e).kind) = fun e => (ts.obj e).kind := by
    funext e
    simp only [TS.setObj]
    by_cases he : e = d
    · subst he; rw [upd_same, ho]; rfl
    · rw [upd_ne _ _ he]
  have hlive : ∀ e, liveR (ts.setObj d (.arr sz (xs ++ AV.nrm.nrmL ys))) G e ↔ liveR ts G e := fun e => by
    unfold liveR
    rw [congrFun hkind e]
  have hctx : ctxOf E G (ts.setObj d (.arr sz (xs ++ AV.nrm.nrmL ys))) w = ctxOf E G ts w := by
    unfold ctxOf
    have e1 : (fun b => E.F b ∨ ∃ e, liveR (ts.setObj d (.arr sz (xs ++ AV.nrm.nrmL ys))) G e ∧ G.β e = b) = fun b => E.F b ∨ ∃ e, liveR ts G e ∧ G.β e = b := by
      funext b
      simp only [hlive]
    rw [e1, hkind]
    rfl
  refine ⟨h.size, h.defers, fun t => by rw [hctx]; exact h.tmp t, fun e => ?_, fun e e' h1 h2 h3 => h.sep e e' ((hlive e).1 h1) ((hlive e').1 h2) h3, fun e h1 => h.own e ((hlive e).1 h1), h.inF, h.bel, h.pin⟩
  rw [hctx]
  by_cases he : e = d
  · subst he
    have := h.obj e
    rw [ho] at this
    show ObOk _ e (upd ts.obj e _ e)
    rw [upd_same]
    obtain ⟨h1, h2, h3⟩ := this
    refine ⟨h1, fun x hx => ?_, ?_⟩
    · rcases List.mem_append.1 hx with hx | hx
      · exact h2 x (List.mem_append_left _ hx)
      · rw [nrmL_eq] at hx
        obtain ⟨y, hy, rfl⟩ := List.mem_map.1 hx
        rw [nrm_cells, nrmL_len]
        exact h2 y (List.mem_append_right _ hy)
    · revert h3
      cases (ctxOf E G ts w).κ e with
      | none =>
        intro h3
        simp only at h3 ⊢
        obtain ⟨e1, e2⟩ := List.append_eq_nil_iff.1 h3
        rw [e1, e2]; rfl
      | some cap =>
        intro h3
        simp only at h3 ⊢
        obtain ⟨vs, T, g1, g2, g3, g4⟩ := h3
        refine ⟨vs, T, g1, g2, by simpa [nrmL_len] using g3, fun i j hi hj => ?_⟩
        have hi' : i < (xs ++ ys).length := by simpa [nrmL_len] using hi
        have := g4 i j hi' hj
        by_cases hx : i < xs.length
        · have e1 : (xs ++ AV.nrm.nrmL ys).getD i .any = (xs ++ ys).getD i .any := by simp [List.getElem?_append, hx]
          rw [e1]; exact this
        · have e1 : (xs ++ AV.nrm.nrmL ys).getD i .any = (AV.nrm.nrmL ys).getD (i - xs.length) .any := by simp [List.getElem?_append, hx]
          have e2 : (xs ++ ys).getD i .any = ys.getD (i - xs.length) .any := by simp [List.getElem?_append, hx]
          rw [e2] at this
          rw [e1, nrmL_getD, nrm_cells, nrmL_getD]
          exact this.nrm
  · show ObOk _ e (upd ts.obj d _ e)
    rw [upd_ne _ _ he]
    exact h.obj e

theorem SpecO.nrmNew {o : Oper} {ts ts2 : TS} {K : TS → Prop} {d sz : Nat} {v : AV} {xs ys : List AV} (h : SpecO P o ts (fun ts3 => ts3 = (ts2.new d (.arr sz (xs ++ ys))).put d v)) (hk : K ((ts2.new d (.arr sz (xs ++ AV.nrm.nrmL ys))).put d v)) : SpecO P o ts K := by
  refine h.conseq fun ts' e => ⟨_, hk, fun E G a w hr => ?_⟩
  subst e
  have := hr.nrmArr (d := d) (sz := sz) (xs := xs) (ys := ys) (by simp [TS.put, TS.new])
  have e : ((ts2.new d (.arr sz (xs ++ ys))).put d v).setObj d (.arr sz (xs ++ AV.nrm.nrmL ys)) = (ts2.new d (.arr sz (xs ++ AV.nrm.nrmL ys))).put d v := by
    simp only [TS.setObj, TS.put, TS.new]
    congr 1
    funext u
    by_cases hu : u = d
    · subst hu; simp
    · simp [upd, hu]
  rwa [e] at this

def appendK (T : Tys P) (t tx : Nat) (s x : AV) (ts : TS) (dst : Option Nat) (K : TS → Prop) : Prop :=
  match (T.ty t).k, (T.ty tx).k, dst with
  | .slice e, .slice _, some d =>
    (T.ty e).k ≠ .unk ∧ 0 < (T.ty e).sz ∧ d < ts.n ∧
    optK (ts.base s (T.ty e).sz) fun b => optK (ts.sl x) fun ys =>
      (∀ y ∈ ys, y.cells.length = (T.ty e).sz) ∧ (∀ y ∈ ys, y.cells.all AV.one = true) ∧ ((b.2.length + ys.length) * (T.ty e).bytes ≤ 140737488355328 ∧ b.2.length + ys.length ≤ 9223372036854775807) ∧
      K (((ts.unbase b.1).new d (.arr (T.ty e).sz (b.2 ++ AV.nrm.nrmL ys))).put d (.os d (ts.gen d + 1) (b.2.length + ys.length)))
  | _, _, _ => False

def Ob.arr? : Ob → Option (Nat × List AV)
  | .arr sz xs => some (sz, xs)
  | _ => none
theorem arr?_some {o : Ob} {q : Nat × List AV} (h : o.arr? = some q) : o = .arr q.1 q.2 := by
  cases o <;> simp [Ob.arr?] at h
  subst h; rfl

def maxOk (ts : TS) (hi mx : Option Operand) (u : Int) (n : Nat) : Prop :=
  match mx with
  | none => True
  | some m => hi.isSome = true ∧ optK (ts.optI (some m) 0) fun k => u ≤ k ∧ k ≤ n

/-- A piece of an own array that begins further on. -/
def sliceOtK (T : Tys P) (e d g len : Nat) (lo hi mx : Option Operand) (ts : TS) (dst : Option Nat) (K : TS → Prop) : Prop :=
  g = ts.gen d ∧ optK (ts.obj d).arr? fun q => q.1 = (T.ty e).sz ∧ optK (ts.optI lo 0) fun l => optK (ts.optI hi len) fun u => 0 ≤ l ∧ l ≤ u ∧ u ≤ q.2.length ∧
        maxOk ts hi mx u q.2.length ∧ setK ts dst (.ot d g l.toNat (u.toNat - l.toNat)) K

theorem sliceOtK.sound {T : Tys P} {o : Oper} {ts : TS} {K : TS → Prop} {t e : TypeId} {x : Operand} {lo hi mx : Option Operand} (ho : o.op = .slice t x lo hi mx) (ht : (T.ty t).k = .slice e) (he : (T.ty e).k ≠ .unk)
    {d g len : Nat} (hx : ts.ev x = .os d g len) (h : sliceOtK T e d g len lo hi mx ts o.dst K) : SpecO P o ts K := by
  obtain ⟨hg, h⟩ := h
  obtain ⟨⟨sz, xs⟩, hob, rfl, h⟩ := optK_some h
  have hob := arr?_some hob
  obtain ⟨l, h1, h⟩ := optK_some h
  obtain ⟨u, h2, h3, h4, h5, h6, h7⟩ := optK_some h
  refine SpecO.sliceOt ho ht he hx hg hob h1 h2 h3 h4 h5 (fun m hm => ?_) h7
  subst hm
  obtain ⟨q1, q2⟩ := h6
  obtain ⟨n, q3, q4⟩ := optK_some q2
  exact ⟨q1, n, q3, q4⟩

def sliceK (T : Tys P) (t : Nat) (x : AV) (lo hi mx : Option Operand) (ts : TS) (dst : Option Nat) (K : TS → Prop) : Prop :=
  match (T.ty t).k, x with
  | .slice e, .slice clip xs =>
    (T.ty e).k ≠ .unk ∧ (∀ x ∈ xs, x.cells.length = (T.ty e).sz) ∧ optK (ts.optI lo 0) fun l => optK (ts.optI hi xs.length) fun u =>
      (match mx with
       | none => 0 ≤ l ∧ l ≤ u ∧ u ≤ xs.length ∧ setK ts dst (.slice (clip && (u == xs.length)) ((xs.take u.toNat).drop l.toNat)) K
       | some m => hi.isSome = true ∧ optK (ts.optI (some m) 0) fun m => 0 ≤ l ∧ l ≤ u ∧ u ≤ m ∧ m ≤ xs.length ∧ setK ts dst (.slice (m == u) ((xs.take u.toNat).drop l.toNat)) K)
  | .slice e, .os d g len =>
    (T.ty e).k ≠ .unk ∧ match lo, mx with
      | none, none => ts.live d g = true ∧ optK (ts.optI hi len) fun u => 0 ≤ u ∧ u ≤ len ∧ setK ts dst (.os d g u.toNat) K
      | _, _ => sliceOtK T e d g len lo hi mx ts dst K
  | .str, .str s =>
    mx.isNone = true ∧ optK (ts.optI lo 0) fun l => optK (ts.optI hi s.length) fun u => 0 ≤ l ∧ l ≤ u ∧ u ≤ s.length ∧ setK ts dst (.str ((s.take u.toNat).drop l.toNat)) K
  | _, _ => False

/-- The boxes that a closure takes, frozen. -/
def TS.frzAll (ts : TS) : List AV → TS
  | [] => ts
  | .ref d _ 0 :: r => (ts.frzBox d).frzAll r
  | _ :: r => ts.frzAll r

theorem SpecO.frzAll {o : Oper} {K : TS → Prop} : ∀ (l : List AV) (ts : TS), SpecO P o (ts.frzAll l) K → SpecO P o ts K
  | [], _, h => h
  | x :: r, ts, h => by
    unfold TS.frzAll at h
    split at h
    · rename_i heq; cases heq
    · rename_i d g r' heq; cases heq; exact SpecO.frz d (SpecO.frzAll r _ h)
    · rename_i y r' _ heq; cases heq; exact SpecO.frzAll r _ h

/-- A call of a function; its contract is to be given: arguments read alone; where it may be (m): an array taken over, a box written. -/
def callX (m : Bool) (P : Program) (f : FuncId) (vs : List AV) (q : Option (List AV × List Nat)) (dst : Option Nat) (ts : TS) (K : TS → Prop) : Prop :=
  (∃ as lent r, q = some (as, lent) ∧ CallV P f (as.map Arg.v) (fun r' _ => r' = r) ∧ (lent = [] ∨ r.flat = true) ∧ afterK ts dst r K) ∨
  (m = true ∧ ((∃ d g len sz zs rest as r, vs = .os d g len :: rest ∧ g = ts.gen d ∧ ts.obj d = .arr sz zs ∧ len ≤ zs.length ∧ AV.pure.pureL zs = true ∧ ts.toArgs rest = some (as, []) ∧
      CallV P f (.own sz (zs.take len) :: as.map Arg.v) (fun r' _ => r' = r) ∧ afterK (ts.kill d) dst r K) ∨
    (∃ d g cs cs' rest as x, vs = .ref d g 0 :: rest ∧ g = ts.gen d ∧ ts.obj d = .box cs ∧ AV.pure.pureL cs = true ∧ ts.toArgs rest = some (as, []) ∧
      CallV P f (.io cs :: as.map Arg.v) (fun r' io => r' = .val x ∧ io 0 = cs') ∧ setK (ts.setObj d (.box cs')) dst x K) ∨
    (∃ d g fg sz zs zs', vs = [.os d g zs.length, .clo (.func fg) [] []] ∧ g = ts.gen d ∧ ts.obj d = .arr sz zs ∧ CallA P f fg sz zs zs' ∧ setK (ts.setObj d (.arr sz zs')) dst (.tup []) K) ∨
    (∃ as lent r, q = some (as, lent) ∧ CallV P f (as.map Arg.v) (fun r' _ => r' = r) ∧ afterK (ts.killL lent) dst r K)))

def callW (m : Bool) (P : Program) (fv : AV) (args : List AV) (dst : Option Nat) (ts : TS) (K : TS → Prop) : Prop :=
  match fv with
  | .clo (.func f) [] caps => callX m P f (args ++ caps) (ts.toArgs (args ++ caps)) dst ts K
  | _ => False

def clearK (T : Tys P) (t : Nat) (x : AV) (ts : TS) (dst : Option Nat) (K : TS → Prop) : Prop :=
  match (T.ty t).k, x with
  | .slice e, .ot d g off len => (T.ty e).k ≠ .unk ∧ 0 < (T.ty e).sz ∧ g = ts.gen d ∧ dst = none ∧ (zeroA (T.ty e).k (T.ty e).zero).cells = (T.ty e).zero ∧ (T.ty e).zero.all AV.one = true ∧
    optK (ts.obj d).arr? fun q => q.1 = (T.ty e).sz ∧ off + len ≤ q.2.length ∧ K (ts.setObj d (.arr q.1 (clrL q.2 off len (zeroA (T.ty e).k (T.ty e).zero))))
  | _, _ => False

theorem clearK.sound {T : Tys P} {o : Oper} {ts : TS} {K : TS → Prop} {t : TypeId} {x : Operand} (ho : o.op = .call { callee := .builtin .clear, args := #[x], argTypes := #[t] }) (h : clearK T t (ts.ev x) ts o.dst K) : SpecO P o ts K := by
  unfold clearK at h
  split at h
  · rename_i e d g off len he hx
    obtain ⟨h1, h2, h3, h4, h5, h6, h7⟩ := h
    obtain ⟨⟨sz, xs⟩, hob, rfl, h8, h9⟩ := optK_some h7
    have hob := arr?_some hob
    exact SpecO.clear ho he h1 h2 hx h3 hob h8 h4 h5 h6 h9
  · exact h.elim

/-- Appended in place. -/
def appendInK (T : Tys P) (t tx : Nat) (s x : AV) (ts : TS) (dst : Option Nat) (K : TS → Prop) : Prop :=
  match (T.ty t).k, (T.ty tx).k, s, dst with
  | .slice e, .slice _, .os d g len, some d' => (T.ty e).k ≠ .unk ∧ 0 < (T.ty e).sz ∧ d' < ts.n ∧ g = ts.gen d ∧
    optK (ts.obj d).arr? fun q => q.1 = (T.ty e).sz ∧ optK (ts.sl x) fun ys => (∀ y ∈ ys, y.cells.length = (T.ty e).sz) ∧ (∀ y ∈ ys, y.cells.all AV.one = true) ∧ len + ys.length ≤ q.2.length ∧
        K ((ts.setObj d (.arr q.1 (q.2.take len ++ ys ++ q.2.drop (len + ys.length)))).put d' (.os d g (len + ys.length)))
  | _, _, _, _ => False

theorem appendInK.sound {T : Tys P} {o : Oper} {ts : TS} {K : TS → Prop} {t tx : TypeId} {s x : Operand} (ho : o.op = .call { callee := .builtin .append, args := #[s, x], argTypes := #[t, tx] }) (h : appendInK T t tx (ts.ev s) (ts.ev x) ts o.dst K) : SpecO P o ts K := by
  unfold appendInK at h
  split at h
  · rename_i e e' d g len d' he he' hs hd
    obtain ⟨h1, h2, h3, h4, h5⟩ := h
    obtain ⟨⟨sz, xs⟩, hob, rfl, h6⟩ := optK_some h5
    have hob := arr?_some hob
    obtain ⟨ys, h7, h8, h9, h10, h11⟩ := optK_some h6
    exact SpecO.appendIn ho he he' h1 h2 hs h4 hob h7 h8 h9 h10 hd h3 h11
  · exact h.elim

def appendW (T : Tys P) (t tx : Nat) (s x : AV) (ts : TS) (dst : Option Nat) (K : TS → Prop) : Prop :=
  match x with
  | .ot .. => appendInK T t tx s x ts dst K
  | _ => appendK T t tx s x ts dst K

def minmaxK (b : Bool) (x y : AV) (ts : TS) (dst : Option Nat) (K : TS → Prop) : Prop :=
  match x, y with
  | .int k n, .int _ m => setK ts dst (.int k (if b then max n m else min n m)) K
  | _, _ => False

theorem minmaxK.sound {o : Oper} {ts : TS} {K : TS → Prop} {b : Bool} {x y : Operand} {at_ : Array TypeId} (ho : o.op = .call { callee := .builtin (if b then .max else .min), args := #[x, y], argTypes := at_ }) (h : minmaxK b (ts.ev x) (ts.ev y) ts o.dst K) : SpecO P o ts K := by
  unfold minmaxK at h
  split at h
  · rename_i k n k' m hx hy
    refine SpecO.val h fun E G a w hr => ?_
    have hvx := hr.ev x
    have hvy := hr.ev y
    rw [hx] at hvx
    rw [hy] at hvy
    have ex := rep_int hvx
    have ey := rep_int hvy
    refine ⟨.int k (if b then max n m else min n m), ?_, .int _ _⟩
    cases b with
    | true =>
      have e1 : (if m > n then m else n) = max n m := by rw [Int.max_def]; split <;> split <;> omega
      simp [execOp, ho, resolve, invoke, builtin, ex, ey, Builtin.max_, Builtin.max2, e1]
    | false =>
      have e1 : (if m < n then m else n) = min n m := by rw [Int.min_def]; split <;> split <;> omega
      simp [execOp, ho, resolve, invoke, builtin, ex, ey, Builtin.min_, Builtin.min2, e1]
  · exact h.elim

def builtinK (T : Tys P) (c : Call) (o : Oper) (ts : TS) (K : TS → Prop) : Prop :=
  match c.callee with
  | .value f => callW true P (ts.ev f) (c.args.toList.map ts.ev) o.dst ts K
  | .builtin b =>
    match b, c.args.toList, c.argTypes.toList with
    | .len, [x], [t] => lenK T t (ts.ev x) ts o.dst K
    | .append, [s, x], [t, tx] => appendW T t tx (ts.ev s) (ts.ev x) ts o.dst K
    | .clear, [x], [t] => clearK T t (ts.ev x) ts o.dst K
    | .max, [x, y], _ => minmaxK true (ts.ev x) (ts.ev y) ts o.dst K
    | .min, [x, y], _ => minmaxK false (ts.ev x) (ts.ev y) ts o.dst K
    | _, _, _ => SpecO P o ts K
  | _ => SpecO P o ts K

def binD (T : Tys P) (op : BinOp) (t : TypeId) (a b : AV) (ts : TS) (dst : Option Nat) (K : TS → Prop) : Prop :=
  match (T.ty t).k with
  | .struct fs => P.eqGuardType P.depth t = false ∧ P.stoodInHeld t = false ∧ optK (eqS T fs op a b) fun r => setK ts dst (.bool r) K
  | .bool => optK (eqB op a b) fun r => setK ts dst (.bool r) K
  | _ => optK (binA op a b) fun r => setK ts dst r K

/-- ONE OPERATION, computed; a call stays as it is. -/
def opK (T : Tys P) (o : Oper) (ts : TS) (K : TS → Prop) : Prop :=
  match o.op with
  | .move x | .assign x => setK ts o.dst (ts.ev x) K
  | .pick c x y => boolK (ts.ev c) fun b => setK ts o.dst (if b then ts.ev x else ts.ev y) K
  | .alloc t => (T.ty t).k ≠ .unk ∧ newBoxK ts o.dst (T.ty t).zero K
  | .box _ x => (ts.ev x).known = true ∧ newBoxK ts o.dst (ts.ev x).cells K
  | .build t parts =>
    match (T.ty t).k with
    | .struct fs => (∀ f ∈ fs, (T.ty f.2.1).k ≠ .unk) ∧ optK (fillA (placeS T fs) (T.ty t).zero (parts.toList.map fun p => (p.1, ts.ev p.2))) fun cs => setK ts o.dst (.agg cs) K
    | _ => False
  | .buildSlice t n parts =>
    match (T.ty t).k with
    | .slice e => (T.ty e).k ≠ .unk ∧ 0 < (T.ty e).sz ∧ parts.toList.map (·.1) = List.range n ∧ n * (T.ty e).sz ≤ 16777216 ∧
        (∀ p ∈ parts.toList, (ts.ev p.2).known = true ∧ (ts.ev p.2).cells.length = (T.ty e).sz) ∧ newArrK ts o.dst (T.ty e).sz (parts.toList.map fun p => ts.ev p.2) K
    | _ => False
  | .load t x => optK (ts.ptr (ts.ev x)) fun cs => loadK T t cs ts o.dst K
  | .store t p x => (T.ty t).k ≠ .unk ∧ (ts.ev x).known = true ∧ (ts.ev x).cells.length = (T.ty t).sz ∧ (ts.ev x).cells.all AV.one = true ∧
      optK (ts.poke (ts.ev p) (ts.ev x).cells) fun q => (∀ e, o.dst = some e → e < ts.n) ∧ K (putDst (ts.setObj q.1 q.2) o.dst .any)
  | .fieldAddr s x f =>
    match (T.ty s).k with
    | .struct fs => optK fs[f]? fun q => (T.ty q.2.1).k ≠ .unk ∧ (T.ty q.2.1).sz ≠ 0 ∧ optK (ts.shift (ts.ev x) q.1) fun y => setK ts o.dst y K
    | _ => False
  | .field s x f =>
    match (T.ty s).k, ts.ev x with
    | .struct fs, .agg cs => optK fs[f]? fun q => loadK T q.2.1 (cs.drop q.1) ts o.dst K
    | _, _ => False
  | .indexAddr t x i =>
    match (T.ty t).k with
    | .slice e => (T.ty e).k ≠ .unk ∧ (T.ty e).sz ≠ 0 ∧ intK (ts.ev i) fun _ n => optK (ts.at (ts.ev x) (T.ty e).sz n) fun y => setK ts o.dst y K
    | _ => False
  | .index t x i =>
    match (T.ty t).k, ts.ev x with
    | .str, .str s => intK (ts.ev i) fun _ n => 0 ≤ n ∧ n < s.length ∧ setK ts o.dst (.int .u8 (s.getD n.toNat 0).toNat) K
    | _, _ => False
  | .slice t x lo hi mx => sliceK T t (ts.ev x) lo hi mx ts o.dst K
  | .binOp op t x y _ =>
    match op, y with
    | .eql, .const (.slice none 0 0) => match (T.ty t).k with
      | .slice _ => optK (ts.sl (ts.ev x)) fun xs => ∀ b : Bool, (b = true → xs = []) → setK ts o.dst (.bool b) K
      | _ => False
    | _, _ => binD T op t (ts.ev x) (ts.ev y) ts o.dst K
  | .unOp op _ x =>
    match op with
    | .not => boolK (ts.ev x) fun b => setK ts o.dst (.bool !b) K
    | .neg => intK (ts.ev x) fun k n => setK ts o.dst (.int k (k.wrap (0 - n))) K
    | _ => False
  | .extract x i => match ts.ev x with
    | .tup vs => i < vs.length ∧ setK ts o.dst (vs.getD i .any) K
    | _ => False
  | .makeFunc fn first caps => setK (ts.frzAll (caps.toList.map ts.ev)) o.dst (.clo fn (first.toList.map (ts.frzAll (caps.toList.map ts.ev)).ev) (caps.toList.map (ts.frzAll (caps.toList.map ts.ev)).ev)) K
  | .call c => builtinK T c o ts K
  | _ => SpecO P o ts K

theorem opK_sound (T : Tys P) {o : Oper} {ts : TS} {K : TS → Prop} (h : opK T o ts K) : SpecO P o ts K := by
  unfold opK at h
  split at h
  · rename_i x ho; exact SpecO.move (.inl ho) h
  · rename_i x ho; exact SpecO.move (.inr ho) h
  · rename_i c x y ho
    obtain ⟨b, h1, h2⟩ := boolK_some h
    exact SpecO.pick ho h1 h2
  · rename_i t ho; exact SpecO.alloc ho h.1 h.2
  · rename_i t x ho; exact SpecO.box ho h.1 h.2
  · rename_i t parts ho
    split at h
    · rename_i fs hfs
      obtain ⟨cs, h1, h2⟩ := optK_some h.2
      exact SpecO.build ho hfs h.1 h1 h2
    · exact h.elim
  · rename_i t n parts ho
    split at h
    · rename_i e he
      obtain ⟨h1, h2, h3, h4, h5, h6⟩ := h
      exact SpecO.buildSlice ho he h1 h2 h3 h4 h5 h6
    · exact h.elim
  · rename_i t x ho
    obtain ⟨cs, h1, h2⟩ := optK_some h
    unfold loadK at h2
    split at h2
    · exact h2.elim
    · rename_i hne
      exact SpecO.load (T := T) ho (by simpa using hne) h1 h2.1 h2.2
  · rename_i t p x ho
    obtain ⟨h1, h2, h3, h4, h5⟩ := h
    obtain ⟨q, h6, h7, h8⟩ := optK_some h5
    exact SpecO.store (T := T) ho h1 h2 h3 h4 h6 h7 h8
  · rename_i s x f ho
    split at h
    · rename_i fs hfs
      obtain ⟨q, h1, h2, h3, h4⟩ := optK_some h
      obtain ⟨y, h5, h6⟩ := optK_some h4
      exact SpecO.fieldAddr ho hfs h1 h2 h3 h5 h6
    · exact h.elim
  · rename_i s x f ho
    split at h
    · rename_i fs cs hfs hx
      obtain ⟨q, h1, h2⟩ := optK_some h
      unfold loadK at h2
      split at h2
      · exact h2.elim
      · rename_i hne
        exact SpecO.field (T := T) ho hfs h1 (by simpa using hne) hx h2.1 h2.2
    · exact h.elim
  · rename_i t x i ho
    split at h
    · rename_i e he
      obtain ⟨h1, h2, h3⟩ := h
      obtain ⟨k, n, h4, h5⟩ := intK_some h3
      obtain ⟨y, h6, h7⟩ := optK_some h5
      exact SpecO.indexAddr ho he h1 h2 h4 h6 h7
    · exact h.elim
  · rename_i t x i ho
    split at h
    · rename_i s ht hx
      obtain ⟨k, n, h4, h5, h6, h7⟩ := intK_some h
      exact SpecO.indexStr ho ht hx h4 h5 h6 h7
    · exact h.elim
  · rename_i t x lo hi mx ho
    unfold sliceK at h
    split at h
    · rename_i e clip xs he hx
      obtain ⟨h1, h2, h3⟩ := h
      obtain ⟨l, h4, h5⟩ := optK_some h3
      obtain ⟨u, h6, h7⟩ := optK_some h5
      cases mx with
      | none => obtain ⟨q1, q2, q3, q4⟩ := h7; exact SpecO.sliceS ho he h1 hx h2 h4 h6 q1 q2 q3 q4
      | some m =>
        obtain ⟨q0, h8⟩ := h7
        obtain ⟨m', h9, q1, q2, q3, q4, q5⟩ := optK_some h8
        cases hi with
        | none => simp at q0
        | some hi => exact SpecO.slice3 ho he h1 hx h2 h4 h6 h9 q1 q2 q3 q4 q5
    · rename_i e d g len he hx
      obtain ⟨h1, h2⟩ := h
      split at h2
      · obtain ⟨h3, h4⟩ := h2
        obtain ⟨u, h6, h7, h8, h9⟩ := optK_some h4
        exact SpecO.sliceO ho he h1 hx h3 rfl h6 h7 h8 h9
      · exact sliceOtK.sound ho he h1 hx h2
    · rename_i s he hx
      obtain ⟨h1, h2⟩ := h
      obtain ⟨l, h4, h5⟩ := optK_some h2
      obtain ⟨u, h6, q1, q2, q3, q4⟩ := optK_some h5
      cases mx with
      | some m => simp at h1
      | none => exact SpecO.sliceStr ho he hx h4 h6 q1 q2 q3 q4
    · exact h.elim
  · rename_i op t x y u ho
    split at h
    · split at h
      · rename_i e he
        obtain ⟨xs, h1, h2⟩ := optK_some h
        exact SpecO.nilEq ho he h1 h2
      · exact h.elim
    · unfold binD at h
      split at h
      · rename_i fs hk
        obtain ⟨hg, hs, h⟩ := h
        obtain ⟨r, h1, h2⟩ := optK_some h
        exact SpecO.eqS ho hk hg hs h1 h2
      · rename_i hk
        obtain ⟨r, h1, h2⟩ := optK_some h
        exact SpecO.eqB ho hk h1 h2
      · obtain ⟨r, h1, h2⟩ := optK_some h
        exact SpecO.bin ho h1 h2
  · rename_i op t x ho
    split at h
    · obtain ⟨b, h1, h2⟩ := boolK_some h; exact SpecO.not ho h1 h2
    · obtain ⟨k, n, h1, h2⟩ := intK_some h; exact SpecO.neg ho h1 h2
    · exact h.elim
  · rename_i x i ho
    split at h
    · rename_i vs hx; exact SpecO.extract ho hx h.1 h.2
    · exact h.elim
  · rename_i fn first caps ho
    exact SpecO.frzAll _ _ (SpecO.makeFunc ho h)
  · rename_i c ho
    obtain ⟨callee, args, argTypes⟩ := c
    unfold builtinK at h
    dsimp only at h
    split at h
    · rename_i f
      unfold callW at h
      split at h
      · rename_i f' caps hfe
        rcases h with ⟨as, lent, r, h1, h2, h3, h4⟩ | ⟨_, ⟨d, g, len, sz, zs, rest, as, r, q1, q2, q3, q4, q5, q6, q7, q8⟩ | ⟨d, g, cs, cs', rest, as, x, q1, q2, q3, q4, q5, q6, q7⟩ | ⟨d, g, fg, sz, zs, zs', q1, q2, q3, q4, q5⟩ | ⟨as, lent, r, q1, q2, q3⟩⟩
        · exact SpecO.call ho hfe h1 h2 fun r' io e => by subst e; exact .inl ⟨h3, h4⟩
        · exact SpecO.callM ho hfe q1 q2 q3 q4 q5 q6 q7 q8
        · exact SpecO.callI ho hfe q1 q2 q3 q4 q5 q6 q7
        · exact SpecO.callA ho hfe q1 q2 q3 q4 q5
        · exact SpecO.call ho hfe q1 q2 fun r' io e => by subst e; exact .inr q3
      · exact h.elim
    · rename_i b
      split at h
      · rename_i x t ha hat
        have ea : args = #[x] := by rw [← Array.toArray_toList (xs := args), ha]
        have eat : argTypes = #[t] := by rw [← Array.toArray_toList (xs := argTypes), hat]
        subst ea eat
        obtain ⟨h1, h2⟩ := h
        obtain ⟨n, h3, h4⟩ := optK_some h2
        refine SpecO.len (T := T) ho ?_ h3 h4
        unfold lenFits at h1
        exact h1
      · rename_i s x t tx ha hat
        have ea : args = #[s, x] := by rw [← Array.toArray_toList (xs := args), ha]
        have eat : argTypes = #[t, tx] := by rw [← Array.toArray_toList (xs := argTypes), hat]
        subst ea eat
        unfold appendW at h
        split at h
        · exact appendInK.sound ho h
        unfold appendK at h
        split at h
        · rename_i e e' d he he' hd
          obtain ⟨h1, h2, h3, h4⟩ := h
          obtain ⟨b, h5, h6⟩ := optK_some h4
          obtain ⟨ys, h7, h8, h9, ⟨h10, h10'⟩, h11⟩ := optK_some h6
          exact SpecO.nrmNew (SpecO.append ho he he' h1 h2 h5 h7 h8 h9 h10 h10' hd h3 (K := fun ts2 => ts2 = _) rfl) (by rw [List.length_append]; exact h11)
        · exact h.elim
      · rename_i x t ha hat
        have ea : args = #[x] := by rw [← Array.toArray_toList (xs := args), ha]
        have eat : argTypes = #[t] := by rw [← Array.toArray_toList (xs := argTypes), hat]
        subst ea eat
        exact clearK.sound ho h
      · rename_i x y ha
        have ea : args = #[x, y] := by rw [← Array.toArray_toList (xs := args), ha]
        subst ea
        exact minmaxK.sound (b := true) ho h
      · rename_i x y ha
        have ea : args = #[x, y] := by rw [← Array.toArray_toList (xs := args), ha]
        subst ea
        exact minmaxK.sound (b := false) ho h
      · exact h
    · exact h
  · exact h

/-! ### The steps of a proof -/
theorem SpecC.seq_k {x y : Code} {ts : TS} {Q : Exit → TS → Prop} (h : ∀ K : TS → Prop, (∀ ts', SpecC P y ts' Q → K ts') → SpecC P x ts (thenK K Q)) : SpecC P (.seq x y) ts Q :=
  SpecC.seq (h _ fun _ h => h)

theorem SpecC.region_k {id : Nat} {ops : Array Oper} {ts : TS} {Q : Exit → TS → Prop} {l : List Oper} (hl : ops.toList = l) (h : SpecOs P ops (Q .normal) l ts) : SpecC P (.region id ops false) ts Q :=
  SpecC.region (by rw [hl]; exact h)

theorem SpecOs.step (T : Tys P) {ops : Array Oper} {o : Oper} {l : List Oper} {ts : TS} {K : TS → Prop} (hg : o.guard = none) (h : ∀ K' : TS → Prop, (∀ ts', SpecOs P ops K l ts' → K' ts') → opK T o ts K') : SpecOs P ops K (o :: l) ts := by
  unfold SpecOs SpecG
  rw [hg]
  exact opK_sound T (h _ fun _ h => h)

theorem SpecOs.guard (T : Tys P) {ops : Array Oper} {o : Oper} {l : List Oper} {ts : TS} {K : TS → Prop} {j : Nat} {want : Bool} {b : Option Bool} (hg : o.guard = some (j, want)) (hb : guardOf ops ts j = some b)
    (ht : b = some want → ∀ K' : TS → Prop, (∀ ts', SpecOs P ops K l ts' → K' ts') → opK T o ts K') (hf : b ≠ some want → (∀ d, o.dst = some d → d < ts.n) ∧ SpecOs P ops K l (putDst ts o.dst (.tup []))) : SpecOs P ops K (o :: l) ts := by
  unfold SpecOs SpecG
  rw [hg]
  refine ⟨b, hb, ?_⟩
  by_cases e : b = some want
  · rw [if_pos (by simp [e])]; exact opK_sound T (ht e _ fun _ h => h)
  · rw [if_neg (by simp [e])]; exact hf e

end Go.Proofs.Ytjmnokbbodcaaaa.Lg
