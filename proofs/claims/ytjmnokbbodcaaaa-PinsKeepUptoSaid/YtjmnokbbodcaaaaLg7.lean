/- The rules of addresses, slices, strings, tuples. -/
import Derived.Test.YtjmnokbbodcaaaaLg6
import Derived.Lib.SliceRun
namespace Go.Proofs.Ytjmnokbbodcaaaa.Lg
set_option linter.unusedVariables false
set_option linter.unusedSimpArgs false
open Go
variable {P : Program}

def TS.live (ts : TS) (d g : Nat) : Bool := g == ts.gen d && (ts.obj d).kind.isSome

/-- A pointer some cells further on. -/
def TS.shift (ts : TS) (x : AV) (off : Nat) : Option AV :=
  match x with
  | .ro cs => if off < cs.length then some (.ro (cs.drop off)) else none
  | .ref d g o => if ts.live d g then some (.ref d g (o + off)) else none
  | .eref d g i o => if ts.live d g then some (.eref d g i (o + off)) else none
  | _ => none

theorem shift_rep {E : Env} {ts : TS} {G : Ghost} {w : World} {x y : AV} {off : Nat} (hs : ts.shift x off = some y) {v : Value} (hv : Rep (ctxOf E G ts w) v x) :
    ∃ b o, v = .pointer (some ⟨b, o, none⟩) ∧ Rep (ctxOf E G ts w) (.pointer (some ⟨b, o + off, none⟩)) y := by
  unfold TS.shift at hs
  split at hs
  · split at hs
    · rename_i cs hlt
      cases hs
      cases hv with
      | ro b o _ f h0 hM hc hr =>
        refine ⟨b, o, rfl, .ro b (o + off) _ (fun j => f (off + j)) (by intro e; simp at e; omega) hM (fun j hj => ?_) fun j => ?_⟩
        · rw [show o + off + j = o + (off + j) by omega]; exact hc _ (by simp at hj; omega)
        · have := hr (off + j); simpa [List.getElem?_drop] using this
    · cases hs
  · rename_i d g o
    split at hs
    · rename_i hl
      cases hs
      simp only [TS.live, Bool.and_eq_true, beq_iff_eq] at hl
      cases hv with
      | ref _ _ _ _ h1 hg hh =>
        have hk : (ctxOf E G ts w).kind d ≠ none := by intro e; have := hl.2; simp [show (ts.obj d).kind = none from e] at this
        exact ⟨_, _, hh hl.1 hk, .ref d g _ _ rfl hg fun _ _ => rfl⟩
    · cases hs
  · rename_i d g i o
    split at hs
    · rename_i hl
      cases hs
      simp only [TS.live, Bool.and_eq_true, beq_iff_eq] at hl
      cases hv with
      | eref _ _ _ _ _ h1 hg hh =>
        obtain ⟨sz, hk⟩ := Option.isSome_iff_exists.1 hl.2
        refine ⟨_, _, hh sz hl.1 hk, .eref d g i _ _ rfl hg fun sz' _ hk' => ?_⟩
        have : sz' = sz := by have := hk.symm.trans hk'; simpa using this.symm
        subst this
        rw [Nat.add_assoc]
    · cases hs
  · cases hs

theorem SpecO.fieldAddr {T : Tys P} {o : Oper} {ts : TS} {K : TS → Prop} {s : TypeId} {x : Operand} {f : Nat} (ho : o.op = .fieldAddr s x f) {fs : List (Nat × Nat × String)} (hs : (T.ty s).k = .struct fs)
    {off ft : Nat} {nm : String} (hf : fs[f]? = some (off, ft, nm)) (hft : (T.ty ft).k ≠ .unk) (hz : (T.ty ft).sz ≠ 0) {y : AV} (hy : ts.shift (ts.ev x) off = some y) (hk : setK ts o.dst y K) : SpecO P o ts K :=
  SpecO.val hk fun E G a w hr => by
    obtain ⟨b, q, hv, hrep⟩ := shift_rep hy (hr.ev x)
    obtain ⟨fd, hu, hfd⟩ := Tys.structT hs
    have hfd' : ∃ fld, fd[f]? = some fld ∧ fld.offset = off ∧ fld.type = ft := by
      rw [← hfd] at hf
      simp only [List.getElem?_map, Array.getElem?_toList] at hf
      cases hh : fd[f]? with
      | none => rw [hh] at hf; simp at hf
      | some fld => rw [hh] at hf; simp at hf; exact ⟨fld, rfl, hf.1, hf.2.1⟩
    obtain ⟨fld, h1, h2, h3⟩ := hfd'
    refine ⟨_, ?_, hrep⟩
    subst h2 h3
    simp only [execOp, ho, hv, Instr.fieldAt, Sem.run_bind, run_underlying hu, Result.andThen_ok, h1, Instr.sureAddr, Sem.run_pure, fieldPlace, Tys.run_sizeOf hft, if_neg hz, Addr.add0]

/-- A field of a struct that is a value. -/
theorem SpecO.field {T : Tys P} {o : Oper} {ts : TS} {K : TS → Prop} {s : TypeId} {x : Operand} {f : Nat} (ho : o.op = .field s x f) {fs : List (Nat × Nat × String)} (hs : (T.ty s).k = .struct fs)
    {off ft : Nat} {nm : String} (hf : fs[f]? = some (off, ft, nm)) (hft : (T.ty ft).k ≠ .unk) {cs : List AV} (hx : ts.ev x = .agg cs) (hl : (if (T.ty ft).k.agg then (T.ty ft).sz else 1) ≤ (cs.drop off).length)
    (hk : setK ts o.dst (if (T.ty ft).k.agg then .agg ((cs.drop off).take (T.ty ft).sz) else (cs.drop off).getD 0 .any) K) : SpecO P o ts K :=
  SpecO.val hk fun E G a w hr => by
    have hv := hr.ev x
    rw [hx] at hv
    obtain ⟨vs, hvs, hsz, hrep⟩ := rep_agg hv
    obtain ⟨fd, hu, hfd⟩ := Tys.structT hs
    have hfd' : ∃ fld, fd[f]? = some fld ∧ fld.offset = off ∧ fld.type = ft := by
      rw [← hfd] at hf
      simp only [List.getElem?_map, Array.getElem?_toList] at hf
      cases hh : fd[f]? with
      | none => rw [hh] at hf; simp at hf
      | some fld => rw [hh] at hf; simp at hf; exact ⟨fld, rfl, hf.1, hf.2.1⟩
    obtain ⟨fld, h1, h2, h3⟩ := hfd'
    subst h2 h3
    rw [List.length_drop] at hl
    cases hag : (T.ty fld.type).k.agg with
    | false =>
      rw [hag] at hl
      simp only [Bool.false_eq_true, if_false] at hl
      refine ⟨vs.getD fld.offset undef, ?_, ?_⟩
      · simp only [execOp, ho, hvs, Instr.field, Sem.run_bind, run_underlying hu, Result.andThen_ok, h1, asAgg, Sem.run_pure, part, Tys.run_isAgg hft, hag, Bool.false_eq_true, if_false]
        have hlt : fld.offset < vs.size := by omega
        simp [hlt]
      · have := hrep fld.offset
        simpa using this
    | true =>
      rw [hag] at hl
      simp only [if_true] at hl
      refine ⟨.agg (vs.extract fld.offset (fld.offset + (T.ty fld.type).sz)), ?_, .agg _ _ (by simp; omega) fun i => ?_⟩
      · simp only [execOp, ho, hvs, Instr.field, Sem.run_bind, run_underlying hu, Result.andThen_ok, h1, asAgg, Sem.run_pure, part, Tys.run_isAgg hft, hag, if_true, Tys.run_sizeOf hft]
      · by_cases hi : i < (T.ty fld.type).sz
        · have := hrep (fld.offset + i)
          have e1 : (vs.extract fld.offset (fld.offset + (T.ty fld.type).sz)).getD i undef = vs.getD (fld.offset + i) undef := by
            have hlt : fld.offset + i < vs.size := by omega
            simp [Array.getElem?_extract, show i < min (fld.offset + (T.ty fld.type).sz) vs.size - fld.offset by omega, Array.getElem?_eq_getElem hlt]
          have e2 : ((cs.drop fld.offset).take (T.ty fld.type).sz).getD i .any = cs.getD (fld.offset + i) .any := by simp [List.getElem?_take, hi]
          rw [e1, e2]; exact this
        · have e2 : ((cs.drop fld.offset).take (T.ty fld.type).sz).getD i .any = .any := by simp [List.getElem?_take, hi]
          rw [e2]; exact .any _

/-- A slice's content. -/
def TS.sl (ts : TS) : AV → Option (List AV)
  | .slice _ xs => some xs
  | .os d g len => if g = ts.gen d then (match ts.obj d with | .arr _ xs => if len ≤ xs.length then some (xs.take len) else none | _ => none) else none
  | .ot d g off len => if g = ts.gen d then (match ts.obj d with | .arr _ xs => if off + len ≤ xs.length then some ((xs.drop off).take len) else none | _ => none) else none
  | _ => none

theorem sl_len {E : Env} {ts : TS} {G : Ghost} {w : World} {x : AV} {xs : List AV} (hs : ts.sl x = some xs) {v : Value} (hv : Rep (ctxOf E G ts w) v x) : ∃ a cap, v = .slice a xs.length cap ∧ xs.length ≤ cap := by
  unfold TS.sl at hs
  split at hs
  · cases hs
    cases hv with
    | slice0 clip a cap h => exact ⟨a, cap, rfl, Nat.zero_le _⟩
    | slice clip b off cap sz _ f h0 hs hM hcap hclip hsz hc hr => exact ⟨_, cap, rfl, hcap⟩
  · rename_i d g len
    split at hs
    · rename_i hg
      split at hs
      · rename_i sz xs' ho
        split at hs
        · rename_i hl
          cases hs
          cases hv with
          | os _ _ _ _ h1 hgl hh =>
            have := hh hg (by simp [ctxOf, ho, Ob.kind])
            unfold OsIs at this
            have hmin : (xs'.take len).length = len := by simp; omega
            rw [hmin]
            split at this
            · exact ⟨_, _, this.1, this.2⟩
            · obtain ⟨h0, a, ha⟩ := this; subst h0; exact ⟨a, 0, ha, Nat.le_refl _⟩
        · cases hs
      · cases hs
    · cases hs
  · rename_i d g off len
    split at hs
    · rename_i hg
      split at hs
      · rename_i sz xs' ho
        split at hs
        · rename_i hl
          cases hs
          cases hv with
          | ot _ _ _ _ _ h1 hgl hh =>
            obtain ⟨a, cap', hq, hc, _⟩ := hh sz hg (by simp [ctxOf, ho, Ob.kind])
            have hmin : ((xs'.drop off).take len).length = len := by simp; omega
            rw [hmin]
            exact ⟨a, cap', hq, hc⟩
        · cases hs
      · cases hs
    · cases hs
  · cases hs

/-- The length of what 'len' takes. -/
def TS.len (ts : TS) (x : AV) : Option Nat :=
  match x with
  | .slice _ xs => some xs.length
  | .os d g len => if ts.live d g then some len else none
  | .ot d g _ len => if ts.live d g then some len else none
  | .str l => some l.length
  | .nilm => some 0
  | _ => none

theorem SpecO.len {T : Tys P} {o : Oper} {ts : TS} {K : TS → Prop} {t : TypeId} {x : Operand} (ho : o.op = .call { callee := .builtin .len, args := #[x], argTypes := #[t] })
    (ht : (match (T.ty t).k, ts.ev x with | .slice _, .slice .. => true | .slice _, .os .. => true | .slice _, .ot .. => true | .str, .str _ => true | .map .., .nilm => true | _, _ => false) = true) {n : Nat} (hn : ts.len (ts.ev x) = some n)
    (hk : setK ts o.dst (.int .i64 n) K) : SpecO P o ts K :=
  SpecO.val hk fun E G a w hr => by
    have hv := hr.ev x
    refine ⟨.int .i64 n, ?_, .int _ _⟩
    have key : ∀ (q : Value), (Builtin.len_ #[t] o.type #[q]).run P w = .ok (.int .i64 n) w → a.eval x = q → (execOp a.eval o).run P w = .ok (.value (.int .i64 n)) w := fun q h1 h2 => by
      simp [execOp, ho, resolve, invoke, builtin, h2, h1]
    revert ht hn hv
    generalize ts.ev x = y
    intro ht hn hv
    cases y with
    | slice c xs =>
      cases hk2 : (T.ty t).k <;> rw [hk2] at ht <;> simp at ht
      have hu := Tys.slice hk2
      simp [TS.len] at hn
      subst hn
      obtain ⟨a', cap, hq, _⟩ := sl_len (ts := ts) (xs := xs) rfl hv
      exact key _ (by simp [Builtin.len_, run_underlying hu, goInt]) hq
    | os d g len =>
      cases hk2 : (T.ty t).k <;> rw [hk2] at ht <;> simp at ht
      have hu := Tys.slice hk2
      simp [TS.len] at hn
      obtain ⟨hl, rfl⟩ := hn
      simp only [TS.live, Bool.and_eq_true, beq_iff_eq] at hl
      obtain ⟨_, _, hh⟩ := rep_os hv
      have := hh hl.1 (by intro e; have := hl.2; simp [show (ts.obj d).kind = none from e] at this)
      unfold OsIs at this
      split at this
      · exact key _ (by simp [Builtin.len_, run_underlying hu, goInt]) this.1
      · obtain ⟨h0, a', ha⟩ := this; subst h0; exact key _ (by simp [Builtin.len_, run_underlying hu, goInt]) ha
    | ot d g off len =>
      cases hk2 : (T.ty t).k <;> rw [hk2] at ht <;> simp at ht
      have hu := Tys.slice hk2
      simp [TS.len] at hn
      obtain ⟨hl, rfl⟩ := hn
      simp only [TS.live, Bool.and_eq_true, beq_iff_eq] at hl
      obtain ⟨_, _, hh⟩ := rep_ot hv
      obtain ⟨sz, hsz⟩ := Option.isSome_iff_exists.1 hl.2
      obtain ⟨a', cap', hq, _⟩ := hh sz hl.1 hsz
      exact key _ (by simp [Builtin.len_, run_underlying hu, goInt]) hq
    | str l =>
      cases hk2 : (T.ty t).k <;> rw [hk2] at ht <;> simp at ht
      have hu := Tys.strT hk2
      simp [TS.len] at hn
      subst hn
      obtain ⟨s, hq, rfl⟩ := rep_str hv
      refine key _ ?_ hq
      have : s.data.toList.length = s.size := by cases s; rfl
      rw [this]
      simp [Builtin.len_, run_underlying hu, goInt]
    | nilm =>
      cases hk2 : (T.ty t).k <;> rw [hk2] at ht <;> simp at ht
      obtain ⟨ti, _, _, _, _, dd, h1, h2⟩ := Tys.get (T := T) (t := t) (by rw [hk2]; simp)
      rw [hk2] at h2
      cases dd <;> simp [descK] at h2
      simp [TS.len] at hn
      subst hn
      exact key _ (by simp [Builtin.len_, run_underlying h1, goInt]) (rep_nilm hv)
    | _ => simp [TS.len] at hn

/-- The place of an element. -/
def TS.at (ts : TS) (x : AV) (sz : Nat) (n : Int) : Option AV :=
  match x with
  | .slice _ xs => if 0 ≤ n ∧ n < xs.length ∧ (xs.getD n.toNat .any).cells.length = sz then some (.ro (xs.getD n.toNat .any).cells) else none
  | .os d g len => if g = ts.gen d then (match ts.obj d with
      | .arr sz' _ => if 0 ≤ n ∧ n < len ∧ sz' = sz then some (.eref d g n.toNat 0) else none
      | _ => none) else none
  | .ot d g off len => if g = ts.gen d then (match ts.obj d with
      | .arr sz' _ => if 0 ≤ n ∧ n < len ∧ sz' = sz then some (.eref d g (off + n.toNat) 0) else none
      | _ => none) else none
  | _ => none

theorem SpecO.indexAddr {T : Tys P} {o : Oper} {ts : TS} {K : TS → Prop} {t e : TypeId} {x i : Operand} (ho : o.op = .indexAddr t x i) (ht : (T.ty t).k = .slice e) (he : (T.ty e).k ≠ .unk) (hz : (T.ty e).sz ≠ 0)
    {k : IntKind} {n : Int} (hi : ts.ev i = .int k n) {y : AV} (hy : ts.at (ts.ev x) (T.ty e).sz n = some y) (hk : setK ts o.dst y K) : SpecO P o ts K :=
  SpecO.val hk fun E G a w hr => by
    have hu := Tys.slice ht
    have hvi := hr.ev i
    rw [hi] at hvi
    have key : ∀ b off len cap, a.eval x = .slice (some ⟨b, off, none⟩) len cap → 0 ≤ n ∧ n < len →
        (execOp a.eval o).run P w = .ok (.value (.pointer (some ⟨b, off + n.toNat * (T.ty e).sz, none⟩))) w := fun b off len cap hx hn => by
      simp only [execOp, ho, hx, rep_int hvi, Instr.indexAt, Sem.run_bind, asIntOf, Sem.run_pure, Result.andThen_ok, run_underlying hu]
      rw [if_pos hn]
      simp [Tys.run_sizeOf he, Addr.add0]
    have hvx := hr.ev x
    revert hy hvx
    generalize ts.ev x = q
    intro hy hvx
    unfold TS.at at hy
    split at hy
    · rename_i clip xs
      split at hy
      · rename_i hn
        obtain ⟨h1, h2, h3⟩ := hn
        cases hy
        cases hv : a.eval x with
        | slice ad len cap =>
          rw [hv] at hvx
          cases hvx with
          | slice0 => simp at h2; omega
          | slice _ b off _ sz _ f h0 hs hM hcap hclip hsz hc hr' =>
            refine ⟨_, key b off xs.length cap hv ⟨h1, h2⟩, ?_⟩
            have hlt : n.toNat < xs.length := by omega
            have hsz' : sz = (T.ty e).sz := by
              rw [← h3]
              have : xs.getD n.toNat .any = xs[n.toNat] := by simp [hlt]
              rw [this]; exact (hsz _ (List.getElem_mem hlt)).symm
            subst hsz'
            refine .ro b _ _ (fun j => f n.toNat j) (by intro e0; rw [e0] at h3; simp at h3; omega) hM (fun j hj => ?_) fun j => hr' n.toNat j
            rw [h3] at hj
            exact hc n.toNat j hlt hj
        | _ => rw [hv] at hvx; cases hvx
      · cases hy
    · rename_i d g len
      split at hy
      · rename_i hg
        split at hy
        · rename_i sz' xs hob
          split at hy
          · rename_i hn
            obtain ⟨h1, h2, h3⟩ := hn
            cases hy
            obtain ⟨_, hgl, hh⟩ := rep_os hvx
            have := hh hg (by simp [ctxOf, hob, Ob.kind])
            unfold OsIs at this
            split at this
            · refine ⟨_, key _ _ _ _ this.1 ⟨h1, h2⟩, ?_⟩
              refine .eref d g n.toNat 0 _ rfl hgl fun sz _ hk' => ?_
              have : sz = sz' := by simp [ctxOf, hob, Ob.kind] at hk'; exact hk'.symm
              subst this; subst h3; simp
            · obtain ⟨h0, _⟩ := this; omega
          · cases hy
        · cases hy
      · cases hy
    · rename_i d g off len
      split at hy
      · rename_i hg
        split at hy
        · rename_i sz' xs hob
          split at hy
          · rename_i hn
            obtain ⟨h1, h2, h3⟩ := hn
            cases hy
            obtain ⟨_, hgl, hh⟩ := rep_ot hvx
            obtain ⟨ad, cap', hv, hcap', hpos⟩ := hh sz' hg (by simp [ctxOf, hob, Ob.kind])
            obtain ⟨hv2, _⟩ := hpos (by omega)
            subst hv2
            refine ⟨_, key _ _ _ _ hv ⟨h1, h2⟩, ?_⟩
            refine .eref d g (off + n.toNat) 0 _ rfl hgl fun sz _ hk' => ?_
            have : sz = sz' := by simp [ctxOf, hob, Ob.kind] at hk'; exact hk'.symm
            subst this; subst h3; simp [Nat.add_mul]
          · cases hy
        · cases hy
      · cases hy
    · cases hy

theorem SpecO.extract {o : Oper} {ts : TS} {K : TS → Prop} {x : Operand} {i : Nat} (ho : o.op = .extract x i) {vs : List AV} (hx : ts.ev x = .tup vs) (hi : i < vs.length)
    (hk : setK ts o.dst (vs.getD i .any) K) : SpecO P o ts K :=
  SpecO.val hk fun E G a w hr => by
    have hv := hr.ev x
    rw [hx] at hv
    cases hq : a.eval x with
    | tuple cs =>
      rw [hq] at hv
      cases hv with
      | tup _ _ hl hh =>
        have hi' : i < cs.size := by omega
        have := hh i
        refine ⟨cs[i], by simp [execOp, ho, hq, Instr.extract, hi'], ?_⟩
        simpa [hi'] using this
    | _ => rw [hq] at hv; cases hv

theorem SpecO.not {o : Oper} {ts : TS} {K : TS → Prop} {x : Operand} {t : TypeId} (ho : o.op = .unOp .not t x) {b : Bool} (hx : ts.ev x = .bool b)
    (hk : setK ts o.dst (.bool !b) K) : SpecO P o ts K :=
  SpecO.val hk fun E G a w hr => by
    have hv := hr.ev x
    rw [hx] at hv
    exact ⟨.bool !b, by simp [execOp, ho, rep_bool hv, Op.unary], .bool _⟩

theorem SpecO.neg {o : Oper} {ts : TS} {K : TS → Prop} {x : Operand} {t : TypeId} (ho : o.op = .unOp .neg t x) {k : IntKind} {n : Int} (hx : ts.ev x = .int k n)
    (hk : setK ts o.dst (.int k (k.wrap (0 - n))) K) : SpecO P o ts K :=
  SpecO.val hk fun E G a w hr => by
    have hv := hr.ev x
    rw [hx] at hv
    exact ⟨.int k (k.wrap (0 - n)), by simp [execOp, ho, rep_int hv, Op.unary, Op.intArith], .int _ _⟩

/-- A slice held against nil: what it answers where the slice is empty is not known. -/
theorem SpecO.nilEq {T : Tys P} {o : Oper} {ts : TS} {K : TS → Prop} {t e u : TypeId} {x : Operand} (ho : o.op = .binOp .eql t x (.const (.slice none 0 0)) u) (ht : (T.ty t).k = .slice e) {xs : List AV} (hx : ts.sl (ts.ev x) = some xs)
    (hk : ∀ b : Bool, (b = true → xs = []) → setK ts o.dst (.bool b) K) : SpecO P o ts K := by
  intro E G a w next Q hr hn
  obtain ⟨ad, cap, hv, _⟩ := sl_len hx (hr.ev x)
  have hu := Tys.slice ht
  have hnil : ad = none → xs = [] := by
    intro e0
    subst e0
    have h2 := hr.ev x
    rw [hv] at h2
    revert hx h2
    generalize ts.ev x = y
    intro hx h2
    cases y with
    | slice c ys =>
      simp [TS.sl] at hx
      subst hx
      generalize hq : Value.slice none ys.length cap = q at h2
      cases h2 with
      | slice0 => rfl
      | slice => simp at hq
    | os d g len =>
      unfold TS.sl at hx
      simp only at hx
      split at hx
      · rename_i hg
        split at hx
        · rename_i sz xs' hob
          split at hx
          · obtain ⟨_, _, hh⟩ := rep_os h2
            have := hh hg (by simp [ctxOf, hob, Ob.kind])
            unfold OsIs at this
            split at this
            · simp at this
            · obtain ⟨h0, _⟩ := this; subst h0; simpa using hx.symm
          · cases hx
        · cases hx
      · cases hx
    | ot d g off len =>
      unfold TS.sl at hx
      simp only at hx
      split at hx
      · rename_i hg
        split at hx
        · rename_i sz xs' hob
          split at hx
          · obtain ⟨_, _, hh⟩ := rep_ot h2
            obtain ⟨a', cap', hq, _, hp⟩ := hh sz hg (by simp [ctxOf, hob, Ob.kind])
            have hl0 : len = 0 := by
              rcases Nat.eq_zero_or_pos len with h | h
              · exact h
              · have := (hp h).1; subst this; simp at hq
            subst hl0; simpa using hx.symm
          · cases hx
        · cases hx
      · cases hx
    | _ => simp [TS.sl] at hx
  have hrun : (execOp a.eval o).run P w = .ok (.value (.bool ad.isNone)) w := by
    have e1 : a.eval (.const (.slice none 0 0)) = .slice none 0 0 := rfl
    simp only [execOp, ho, hv, e1]
    simp [eqGuard, Lib.run_eql_slice_nil w t e ad xs.length cap 0 0 hu]
  unfold Oper.wp
  rw [hrun]
  show next (a.put o.dst (.bool ad.isNone)) w
  have hk' := hk ad.isNone (fun h => hnil (by simpa using h))
  cases hd : o.dst with
  | none => rw [hd] at hk'; exact hn ts G _ w hk' hr
  | some d => rw [hd] at hk'; exact hn _ G _ w hk'.2 (hr.put hk'.1 (.bool _))

end Go.Proofs.Ytjmnokbbodcaaaa.Lg
