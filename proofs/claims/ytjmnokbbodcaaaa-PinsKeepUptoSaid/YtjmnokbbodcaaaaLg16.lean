/- The rules by which the computed transformer is reckoned out. -/
import Derived.Test.YtjmnokbbodcaaaaLg15
namespace Go.Proofs.Ytjmnokbbodcaaaa.Lg
set_option linter.unusedVariables false
set_option linter.unusedSimpArgs false
open Go
variable {P : Program} (T : Tys P)

section ops
variable (ts : TS) (K : TS → Prop) (dst : Option Nat) (ty : TypeId) (pos : String) (after : Array Edge) (g : Option (Nat × Bool))
@[go_sem] theorem opK_move (x : Operand) : opK T ⟨dst, .move x, ty, pos, after, g⟩ ts K = setK ts dst (ts.ev x) K := rfl
@[go_sem] theorem opK_assign (x : Operand) : opK T ⟨dst, .assign x, ty, pos, after, g⟩ ts K = setK ts dst (ts.ev x) K := rfl
@[go_sem] theorem opK_pick (c x y : Operand) : opK T ⟨dst, .pick c x y, ty, pos, after, g⟩ ts K = boolK (ts.ev c) fun b => setK ts dst (if b then ts.ev x else ts.ev y) K := rfl
@[go_sem] theorem opK_alloc (t : TypeId) : opK T ⟨dst, .alloc t, ty, pos, after, g⟩ ts K = ((T.ty t).k ≠ .unk ∧ newBoxK ts dst (T.ty t).zero K) := rfl
@[go_sem] theorem opK_box (t : TypeId) (x : Operand) : opK T ⟨dst, .box t x, ty, pos, after, g⟩ ts K = ((ts.ev x).known = true ∧ newBoxK ts dst (ts.ev x).cells K) := rfl
@[go_sem] theorem opK_load (t : TypeId) (x : Operand) : opK T ⟨dst, .load t x, ty, pos, after, g⟩ ts K = optK (ts.ptr (ts.ev x)) fun cs => loadK T t cs ts dst K := rfl
@[go_sem] theorem opK_store (t : TypeId) (p x : Operand) : opK T ⟨dst, .store t p x, ty, pos, after, g⟩ ts K = ((T.ty t).k ≠ .unk ∧ (ts.ev x).known = true ∧ (ts.ev x).cells.length = (T.ty t).sz ∧ (ts.ev x).cells.all AV.one = true ∧
      optK (ts.poke (ts.ev p) (ts.ev x).cells) fun q => (∀ e, dst = some e → e < ts.n) ∧ K (putDst (ts.setObj q.1 q.2) dst .any)) := rfl
def fieldAddrK (T : Tys P) (k : TyK) (x : AV) (f : Nat) (ts : TS) (dst : Option Nat) (K : TS → Prop) : Prop :=
  match k with
  | .struct fs => optK fs[f]? fun q => (T.ty q.2.1).k ≠ .unk ∧ (T.ty q.2.1).sz ≠ 0 ∧ optK (ts.shift x q.1) fun y => setK ts dst y K
  | _ => False
@[go_sem] theorem opK_fieldAddr (s : TypeId) (x : Operand) (f : Nat) : opK T ⟨dst, .fieldAddr s x f, ty, pos, after, g⟩ ts K = fieldAddrK T (T.ty s).k (ts.ev x) f ts dst K := rfl
@[go_sem] theorem fieldAddrK_struct (fs : List (Nat × Nat × String)) (x : AV) (f : Nat) : fieldAddrK T (.struct fs) x f ts dst K = optK fs[f]? fun q => (T.ty q.2.1).k ≠ .unk ∧ (T.ty q.2.1).sz ≠ 0 ∧ optK (ts.shift x q.1) fun y => setK ts dst y K := rfl
@[go_sem] theorem killL_nil : ts.killL [] = ts := rfl
@[go_sem] theorem killL_cons (d : Nat) (l : List Nat) : ts.killL (d :: l) = (ts.kill d).killL l := rfl
def fieldK (T : Tys P) (k : TyK) (x : AV) (f : Nat) (ts : TS) (dst : Option Nat) (K : TS → Prop) : Prop :=
  match k, x with
  | .struct fs, .agg cs => optK fs[f]? fun q => loadK T q.2.1 (cs.drop q.1) ts dst K
  | _, _ => False
@[go_sem] theorem opK_field (s : TypeId) (x : Operand) (f : Nat) : opK T ⟨dst, .field s x f, ty, pos, after, g⟩ ts K = fieldK T (T.ty s).k (ts.ev x) f ts dst K := rfl
@[go_sem] theorem fieldK_agg (fs : List (Nat × Nat × String)) (cs : List AV) (f : Nat) : fieldK T (.struct fs) (.agg cs) f ts dst K = optK fs[f]? fun q => loadK T q.2.1 (cs.drop q.1) ts dst K := rfl
def indexAddrK (T : Tys P) (k : TyK) (x i : AV) (ts : TS) (dst : Option Nat) (K : TS → Prop) : Prop :=
  match k with
  | .slice e => (T.ty e).k ≠ .unk ∧ (T.ty e).sz ≠ 0 ∧ intK i fun _ n => optK (ts.at x (T.ty e).sz n) fun y => setK ts dst y K
  | _ => False
@[go_sem] theorem opK_indexAddr (t : TypeId) (x i : Operand) : opK T ⟨dst, .indexAddr t x i, ty, pos, after, g⟩ ts K = indexAddrK T (T.ty t).k (ts.ev x) (ts.ev i) ts dst K := rfl
theorem indexAddrK_slice (e : Nat) (x i : AV) : indexAddrK T (.slice e) x i ts dst K = ((T.ty e).k ≠ .unk ∧ (T.ty e).sz ≠ 0 ∧ intK i fun _ n => optK (ts.at x (T.ty e).sz n) fun y => setK ts dst y K) := rfl
@[go_sem] theorem indexAddrK_int (e : Nat) (x : AV) (k : IntKind) (n : Int) : indexAddrK T (.slice e) x (.int k n) ts dst K = ((T.ty e).k ≠ .unk ∧ (T.ty e).sz ≠ 0 ∧ optK (ts.at x (T.ty e).sz n) fun y => setK ts dst y K) := rfl
def indexK (k : TyK) (x i : AV) (ts : TS) (dst : Option Nat) (K : TS → Prop) : Prop :=
  match k, x with
  | .str, .str s => intK i fun _ n => 0 ≤ n ∧ n < s.length ∧ setK ts dst (.int .u8 (s.getD n.toNat 0).toNat) K
  | _, _ => False
@[go_sem] theorem opK_index (t : TypeId) (x i : Operand) : opK T ⟨dst, .index t x i, ty, pos, after, g⟩ ts K = indexK (T.ty t).k (ts.ev x) (ts.ev i) ts dst K := rfl
@[go_sem] theorem indexK_int (s : List UInt8) (k : IntKind) (n : Int) : indexK .str (.str s) (.int k n) ts dst K = (0 ≤ n ∧ n < s.length ∧ setK ts dst (.int .u8 (s.getD n.toNat 0).toNat) K) := rfl
theorem indexK_str (s : List UInt8) (i : AV) : indexK .str (.str s) i ts dst K = intK i fun _ n => 0 ≤ n ∧ n < s.length ∧ setK ts dst (.int .u8 (s.getD n.toNat 0).toNat) K := rfl
@[go_sem] theorem opK_slice (t : TypeId) (x : Operand) (lo hi mx : Option Operand) : opK T ⟨dst, .slice t x lo hi mx, ty, pos, after, g⟩ ts K = sliceK T t (ts.ev x) lo hi mx ts dst K := rfl
def binK (T : Tys P) (op : BinOp) (t : TypeId) (x y : Operand) (ts : TS) (dst : Option Nat) (K : TS → Prop) : Prop :=
  match op, y with
    | .eql, .const (.slice none 0 0) => match (T.ty t).k with
      | .slice _ => optK (ts.sl (ts.ev x)) fun xs => ∀ b : Bool, (b = true → xs = []) → setK ts dst (.bool b) K
      | _ => False
    | _, _ => binD T op t (ts.ev x) (ts.ev y) ts dst K
@[go_sem] theorem opK_bin (op : BinOp) (t u : TypeId) (x y : Operand) : opK T ⟨dst, .binOp op t x y u, ty, pos, after, g⟩ ts K = binK T op t x y ts dst K := rfl
@[go_sem] theorem binK_tmp (op : BinOp) (t : TypeId) (x : Operand) (y : Nat) : binK T op t x (.tmp y) ts dst K = binD T op t (ts.ev x) (ts.tmp y) ts dst K := by cases op <;> rfl
@[go_sem] theorem binK_int (op : BinOp) (t : TypeId) (x : Operand) (k : IntKind) (n : Int) : binK T op t x (.const (.int k n)) ts dst K = binD T op t (ts.ev x) (.int k n) ts dst K := by cases op <;> rfl
@[go_sem] theorem binK_str (op : BinOp) (t : TypeId) (x : Operand) (s : ByteArray) : binK T op t x (.const (.string s)) ts dst K = binD T op t (ts.ev x) (.str s.data.toList) ts dst K := by cases op <;> rfl
@[go_sem] theorem opK_not (t : TypeId) (x : Operand) : opK T ⟨dst, .unOp .not t x, ty, pos, after, g⟩ ts K = boolK (ts.ev x) fun b => setK ts dst (.bool !b) K := rfl
@[go_sem] theorem opK_neg (t : TypeId) (x : Operand) : opK T ⟨dst, .unOp .neg t x, ty, pos, after, g⟩ ts K = intK (ts.ev x) fun k n => setK ts dst (.int k (k.wrap (0 - n))) K := rfl
def extractK (x : AV) (i : Nat) (ts : TS) (dst : Option Nat) (K : TS → Prop) : Prop :=
  match x with
  | .tup vs => i < vs.length ∧ setK ts dst (vs.getD i .any) K
  | _ => False
@[go_sem] theorem opK_extract (x : Operand) (i : Nat) : opK T ⟨dst, .extract x i, ty, pos, after, g⟩ ts K = extractK (ts.ev x) i ts dst K := rfl
@[go_sem] theorem extractK_tup (vs : List AV) (i : Nat) : extractK (.tup vs) i ts dst K = (i < vs.length ∧ setK ts dst (vs.getD i .any) K) := rfl
@[go_sem] theorem opK_makeFunc (fn : Fn) (first caps : Array Operand) : opK T ⟨dst, .makeFunc fn first caps, ty, pos, after, g⟩ ts K =
  setK (ts.frzAll (caps.toList.map ts.ev)) dst (.clo fn (first.toList.map (ts.frzAll (caps.toList.map ts.ev)).ev) (caps.toList.map (ts.frzAll (caps.toList.map ts.ev)).ev)) K := rfl
@[go_sem] theorem opK_len (x : Operand) (t : TypeId) : opK T ⟨dst, .call ⟨.builtin .len, #[x], #[t]⟩, ty, pos, after, g⟩ ts K = lenK T t (ts.ev x) ts dst K := rfl
@[go_sem] theorem opK_append (s x : Operand) (t tx : TypeId) : opK T ⟨dst, .call ⟨.builtin .append, #[s, x], #[t, tx]⟩, ty, pos, after, g⟩ ts K = appendW T t tx (ts.ev s) (ts.ev x) ts dst K := rfl
@[go_sem] theorem appendW_slice (t tx : TypeId) (s : AV) (c : Bool) (xs : List AV) : appendW T t tx s (.slice c xs) ts dst K = appendK T t tx s (.slice c xs) ts dst K := rfl
@[go_sem] theorem appendW_os (t tx : TypeId) (s : AV) (d q n : Nat) : appendW T t tx s (.os d q n) ts dst K = appendK T t tx s (.os d q n) ts dst K := rfl
@[go_sem] theorem appendW_ot (t tx : TypeId) (s : AV) (d q o n : Nat) : appendW T t tx s (.ot d q o n) ts dst K = appendInK T t tx s (.ot d q o n) ts dst K := rfl
@[go_sem] theorem opK_call (f : Operand) (xs : Array Operand) (at_ : Array TypeId) : opK T ⟨dst, .call ⟨.value f, xs, at_⟩, ty, pos, after, g⟩ ts K = callW true P (ts.ev f) (xs.toList.map ts.ev) dst ts K := rfl
@[go_sem] theorem callW_clo (m : Bool) (f : FuncId) (caps args : List AV) : callW m P (.clo (.func f) [] caps) args dst ts K = callX m P f (args ++ caps) (ts.toArgs (args ++ caps)) dst ts K := rfl
@[go_sem] theorem opK_clear (x : Operand) (t : TypeId) : opK T ⟨dst, .call ⟨.builtin .clear, #[x], #[t]⟩, ty, pos, after, g⟩ ts K = clearK T t (ts.ev x) ts dst K := rfl
@[go_sem] theorem opK_max (x y : Operand) (at_ : Array TypeId) : opK T ⟨dst, .call ⟨.builtin .max, #[x, y], at_⟩, ty, pos, after, g⟩ ts K = minmaxK true (ts.ev x) (ts.ev y) ts dst K := rfl
@[go_sem] theorem opK_min (x y : Operand) (at_ : Array TypeId) : opK T ⟨dst, .call ⟨.builtin .min, #[x, y], at_⟩, ty, pos, after, g⟩ ts K = minmaxK false (ts.ev x) (ts.ev y) ts dst K := rfl
@[go_sem] theorem minmaxK_max (k k' : IntKind) (n m : Int) : minmaxK true (.int k n) (.int k' m) ts dst K = setK ts dst (.int k (max n m)) K := rfl
@[go_sem] theorem minmaxK_min (k k' : IntKind) (n m : Int) : minmaxK false (.int k n) (.int k' m) ts dst K = setK ts dst (.int k (min n m)) K := rfl
def buildK (T : Tys P) (k : TyK) (zero : List AV) (parts : List (Nat × AV)) (ts : TS) (dst : Option Nat) (K : TS → Prop) : Prop :=
  match k with
    | .struct fs => (∀ f ∈ fs, (T.ty f.2.1).k ≠ .unk) ∧ optK (fillA (placeS T fs) zero parts) fun cs => setK ts dst (.agg cs) K
    | _ => False
@[go_sem] theorem opK_build (t : TypeId) (parts : Array (Nat × Operand)) : opK T ⟨dst, .build t parts, ty, pos, after, g⟩ ts K = buildK T (T.ty t).k (T.ty t).zero (parts.toList.map fun p => (p.1, ts.ev p.2)) ts dst K := rfl
@[go_sem] theorem buildK_struct (fs : List (Nat × Nat × String)) (zero : List AV) (parts : List (Nat × AV)) : buildK T (.struct fs) zero parts ts dst K = ((∀ f ∈ fs, (T.ty f.2.1).k ≠ .unk) ∧ optK (fillA (placeS T fs) zero parts) fun cs => setK ts dst (.agg cs) K) := rfl
def buildSliceK (T : Tys P) (k : TyK) (n : Nat) (parts : List (Nat × AV)) (ts : TS) (dst : Option Nat) (K : TS → Prop) : Prop :=
  match k with
    | .slice e => (T.ty e).k ≠ .unk ∧ 0 < (T.ty e).sz ∧ parts.map (·.1) = List.range n ∧ n * (T.ty e).sz ≤ 16777216 ∧
        (∀ p ∈ parts, p.2.known = true ∧ p.2.cells.length = (T.ty e).sz) ∧ newArrK ts dst (T.ty e).sz (parts.map (·.2)) K
    | _ => False
@[go_sem] theorem opK_buildSlice (t : TypeId) (n : Nat) (parts : Array (Nat × Operand)) : opK T ⟨dst, .buildSlice t n parts, ty, pos, after, g⟩ ts K = buildSliceK T (T.ty t).k n (parts.toList.map fun p => (p.1, ts.ev p.2)) ts dst K := by
  show (match (T.ty t).k with
    | .slice e => _
    | _ => False) = buildSliceK T (T.ty t).k n _ ts dst K
  unfold buildSliceK
  cases (T.ty t).k <;> simp only [List.map_map, Function.comp_def]
  rename_i e
  have h : (∀ p ∈ parts.toList, (ts.ev p.2).known = true ∧ (ts.ev p.2).cells.length = (T.ty e).sz) ↔ (∀ p ∈ parts.toList.map (fun p => (p.1, ts.ev p.2)), p.2.known = true ∧ p.2.cells.length = (T.ty e).sz) :=
    ⟨fun h p hp => by obtain ⟨q, hq, rfl⟩ := List.mem_map.1 hp; exact h q hq, fun h p hp => h (p.1, ts.ev p.2) (List.mem_map.2 ⟨p, hp, rfl⟩)⟩
  rw [h]
@[go_sem] theorem buildSliceK_slice (e n : Nat) (parts : List (Nat × AV)) : buildSliceK T (.slice e) n parts ts dst K = ((T.ty e).k ≠ .unk ∧ 0 < (T.ty e).sz ∧ parts.map (·.1) = List.range n ∧ n * (T.ty e).sz ≤ 16777216 ∧
        (∀ p ∈ parts, p.2.known = true ∧ p.2.cells.length = (T.ty e).sz) ∧ newArrK ts dst (T.ty e).sz (parts.map (·.2)) K) := rfl
end ops

section kont
variable (ts : TS) (K : TS → Prop) (d u : Nat) (x : AV)
@[go_sem] theorem setK_some : setK ts (some d) x K = (d < ts.n ∧ K (ts.put d x)) := rfl
@[go_sem] theorem setK_none : setK ts none x K = K ts := rfl
@[go_sem] theorem newBoxK_some (cs : List AV) : newBoxK ts (some d) cs K = (d < ts.n ∧ K ((ts.new d (.box cs)).put d (.ref d (ts.gen d + 1) 0))) := rfl
@[go_sem] theorem newArrK_some (sz : Nat) (xs : List AV) : newArrK ts (some d) sz xs K = (d < ts.n ∧ K ((ts.new d (.arr sz xs)).put d (.os d (ts.gen d + 1) xs.length))) := rfl
@[go_sem] theorem optK_some' {α : Type} (a : α) (K : α → Prop) : optK (some a) K = K a := rfl
@[go_sem] theorem optK_none {α : Type} (K : α → Prop) : optK (none : Option α) K = False := rfl
@[go_sem] theorem optK_ite {α : Type} (c : Prop) [Decidable c] (a : α) (K : α → Prop) : optK (if c then some a else none) K = (c ∧ K a) := by
  by_cases h : c <;> simp [h, optK]
@[go_sem] theorem boolK_bool (b : Bool) (K : Bool → Prop) : boolK (.bool b) K = K b := rfl
@[go_sem] theorem intK_int (k : IntKind) (n : Int) (K : IntKind → Int → Prop) : intK (.int k n) K = K k n := rfl
@[go_sem] theorem afterK_val (dst : Option Nat) : afterK ts dst (.val x) K = setK ts dst x K := rfl
@[go_sem] theorem afterK_own (dst : Option Nat) (sz : Nat) (xs : List AV) : afterK ts dst (.own sz xs) K = newArrK ts dst sz xs K := rfl
@[go_sem] theorem putDst_none : putDst ts none x = ts := rfl
@[go_sem] theorem putDst_some : putDst ts (some d) x = ts.put d x := rfl

@[go_sem] theorem n_put : (ts.put d x).n = ts.n := rfl
@[go_sem] theorem n_new (o : Ob) : (ts.new d o).n = ts.n := rfl
@[go_sem] theorem n_setObj (o : Ob) : (ts.setObj d o).n = ts.n := rfl
@[go_sem] theorem n_kill : (ts.kill d).n = ts.n := rfl
@[go_sem] theorem tmp_put : (ts.put d x).tmp u = if u = d then x else ts.tmp u := rfl
@[go_sem] theorem tmp_new (o : Ob) : (ts.new d o).tmp = ts.tmp := rfl
@[go_sem] theorem tmp_setObj (o : Ob) : (ts.setObj d o).tmp = ts.tmp := rfl
@[go_sem] theorem tmp_kill : (ts.kill d).tmp = ts.tmp := rfl
@[go_sem] theorem gen_put : (ts.put d x).gen = ts.gen := rfl
@[go_sem] theorem gen_new (o : Ob) : (ts.new d o).gen u = if u = d then ts.gen d + 1 else ts.gen u := rfl
@[go_sem] theorem gen_setObj (o : Ob) : (ts.setObj d o).gen = ts.gen := rfl
@[go_sem] theorem gen_kill : (ts.kill d).gen = ts.gen := rfl
@[go_sem] theorem obj_put : (ts.put d x).obj = ts.obj := rfl
@[go_sem] theorem obj_new (o : Ob) : (ts.new d o).obj u = if u = d then o else ts.obj u := rfl
@[go_sem] theorem obj_setObj (o : Ob) : (ts.setObj d o).obj u = if u = d then o else ts.obj u := rfl
@[go_sem] theorem obj_kill : (ts.kill d).obj u = if u = d then .dead else ts.obj u := rfl
@[go_sem] theorem unbase_none : ts.unbase .none = ts := rfl
@[go_sem] theorem unbase_own : ts.unbase (.own d) = ts.kill d := rfl

@[go_sem] theorem ev_tmp (t : Nat) : ts.ev (.tmp t) = ts.tmp t := rfl
@[go_sem] theorem ev_func (f : Nat) : ts.ev (.func f) = .clo (.func f) [] [] := rfl
@[go_sem] theorem ev_int (k : IntKind) (n : Int) : ts.ev (.const (.int k n)) = .int k n := rfl
@[go_sem] theorem ev_bool (b : Bool) : ts.ev (.const (.bool b)) = .bool b := rfl
@[go_sem] theorem ev_str (s : ByteArray) : ts.ev (.const (.string s)) = .str s.data.toList := rfl
@[go_sem] theorem ev_nils : ts.ev (.const (.slice none 0 0)) = .slice true [] := rfl
@[go_sem] theorem ev_nilp : ts.ev (.const (.pointer none)) = .nilp := rfl
@[go_sem] theorem ev_nilf : ts.ev (.const .nilFunc) = .nilf := rfl
@[go_sem] theorem ev_nilm : ts.ev (.const (.map none)) = .nilm := rfl
@[go_sem] theorem ev_niface : ts.ev (.const .nilIface) = .niface := rfl

@[go_sem] theorem ptr_ro (cs : List AV) : ts.ptr (.ro cs) = some cs := rfl
@[go_sem] theorem ptr_ref (g off : Nat) : ts.ptr (.ref d g off) = if g = ts.gen d then (match ts.obj d with | .box cs => some (cs.drop off) | _ => none) else none := rfl
@[go_sem] theorem ptr_eref (g i o : Nat) : ts.ptr (.eref d g i o) = if g = ts.gen d then (match ts.obj d with | .arr _ xs => if i < xs.length then some ((xs.getD i .any).cells.drop o) else none | _ => none) else none := rfl
@[go_sem] theorem shift_ro (cs : List AV) (o : Nat) : ts.shift (.ro cs) o = if o < cs.length then some (.ro (cs.drop o)) else none := rfl
@[go_sem] theorem shift_ref (g o o' : Nat) : ts.shift (.ref d g o) o' = if ts.live d g then some (.ref d g (o + o')) else none := rfl
@[go_sem] theorem shift_eref (g i o o' : Nat) : ts.shift (.eref d g i o) o' = if ts.live d g then some (.eref d g i (o + o')) else none := rfl
@[go_sem] theorem live_eq (g : Nat) : ts.live d g = (g == ts.gen d && (ts.obj d).kind.isSome) := rfl
@[go_sem] theorem kind_box (cs : List AV) : (Ob.box cs).kind = some 0 := rfl
@[go_sem] theorem kind_arr (sz : Nat) (xs : List AV) : (Ob.arr sz xs).kind = some sz := rfl
@[go_sem] theorem sl_slice (c : Bool) (xs : List AV) : ts.sl (.slice c xs) = some xs := rfl
@[go_sem] theorem sl_os (g len : Nat) : ts.sl (.os d g len) = if g = ts.gen d then (match ts.obj d with | .arr _ xs => if len ≤ xs.length then some (xs.take len) else none | _ => none) else none := rfl
@[go_sem] theorem len_slice (c : Bool) (xs : List AV) : ts.len (.slice c xs) = some xs.length := rfl
@[go_sem] theorem len_os (g len : Nat) : ts.len (.os d g len) = if ts.live d g then some len else none := rfl
@[go_sem] theorem len_ot (g o len : Nat) : ts.len (.ot d g o len) = if ts.live d g then some len else none := rfl
@[go_sem] theorem sl_ot (g o len : Nat) : ts.sl (.ot d g o len) = if g = ts.gen d then (match ts.obj d with | .arr _ xs => if o + len ≤ xs.length then some ((xs.drop o).take len) else none | _ => none) else none := rfl
@[go_sem] theorem len_str (l : List UInt8) : ts.len (.str l) = some l.length := rfl
@[go_sem] theorem len_nilm : ts.len .nilm = some 0 := rfl
@[go_sem] theorem lenK_slice (t e : Nat) (x : AV) (dst : Option Nat) : lenK T t x ts dst K = (lenFits (T.ty t).k x = true ∧ optK (ts.len x) fun n => setK ts dst (.int .i64 n) K) := rfl
@[go_sem] theorem lenFits_slice (e : Nat) (c : Bool) (xs : List AV) : lenFits (.slice e) (.slice c xs) = true := rfl
@[go_sem] theorem lenFits_os (e d g len : Nat) : lenFits (.slice e) (.os d g len) = true := rfl
@[go_sem] theorem lenFits_ot (e d g o len : Nat) : lenFits (.slice e) (.ot d g o len) = true := rfl
@[go_sem] theorem lenFits_str (l : List UInt8) : lenFits .str (.str l) = true := rfl
@[go_sem] theorem lenFits_map (k e : Nat) : lenFits (.map k e) .nilm = true := rfl
@[go_sem] theorem at_slice (c : Bool) (xs : List AV) (sz : Nat) (n : Int) : ts.at (.slice c xs) sz n = if 0 ≤ n ∧ n < xs.length ∧ (xs.getD n.toNat .any).cells.length = sz then some (.ro (xs.getD n.toNat .any).cells) else none := rfl
@[go_sem] theorem at_os (g len sz : Nat) (n : Int) : ts.at (.os d g len) sz n = if g = ts.gen d then (match ts.obj d with
      | .arr sz' _ => if 0 ≤ n ∧ n < len ∧ sz' = sz then some (.eref d g n.toNat 0) else none
      | _ => none) else none := rfl
@[go_sem] theorem at_ot (g off len sz : Nat) (n : Int) : ts.at (.ot d g off len) sz n = if g = ts.gen d then (match ts.obj d with
      | .arr sz' _ => if 0 ≤ n ∧ n < len ∧ sz' = sz then some (.eref d g (off + n.toNat) 0) else none
      | _ => none) else none := rfl
@[go_sem] theorem base_none (sz : Nat) : ts.base (.slice true []) sz = some (.none, []) := rfl
@[go_sem] theorem base_os (g len sz : Nat) : ts.base (.os d g len) sz = if g = ts.gen d then (match ts.obj d with | .arr sz' xs => if sz' = sz ∧ len ≤ xs.length then some (.own d, xs.take len) else Option.none | _ => Option.none) else Option.none := rfl
@[go_sem] theorem poke_ref (g off : Nat) (ys : List AV) : ts.poke (.ref d g off) ys = if g = ts.gen d then (match ts.obj d with | .box cs => if off + ys.length ≤ cs.length then some (d, .box (setRange cs off ys)) else none | _ => none) else none := rfl
@[go_sem] theorem poke_eref (g i o : Nat) (ys : List AV) : ts.poke (.eref d g i o) ys = if g = ts.gen d then (match ts.obj d with
      | .arr sz xs => if i < xs.length ∧ o + ys.length ≤ sz ∧ ys ≠ [] then some (d, .arr sz (xs.set i (pokeEl (xs.getD i .any) o ys))) else none
      | _ => none) else none := rfl
@[go_sem] theorem pokeEl_agg (cs : List AV) (o : Nat) (ys : List AV) : pokeEl (.agg cs) o ys = .agg (setRange cs o ys) := rfl
@[go_sem] theorem setRange_eq (cs ys : List AV) (o : Nat) : setRange cs o ys = cs.take o ++ ys ++ cs.drop (o + ys.length) := rfl
@[go_sem] theorem cells_agg (cs : List AV) : (AV.agg cs).cells = cs := rfl
@[go_sem] theorem cells_int (k : IntKind) (n : Int) : (AV.int k n).cells = [.int k n] := rfl
@[go_sem] theorem cells_bool (b : Bool) : (AV.bool b).cells = [.bool b] := rfl
@[go_sem] theorem cells_str (s : List UInt8) : (AV.str s).cells = [.str s] := rfl
@[go_sem] theorem cells_slice (c : Bool) (xs : List AV) : (AV.slice c xs).cells = [.slice c xs] := rfl
@[go_sem] theorem cells_os (g len : Nat) : (AV.os d g len).cells = [.os d g len] := rfl
@[go_sem] theorem cells_ref (g len : Nat) : (AV.ref d g len).cells = [.ref d g len] := rfl
@[go_sem] theorem cells_nilp : AV.nilp.cells = [.nilp] := rfl
@[go_sem] theorem cells_nilf : AV.nilf.cells = [.nilf] := rfl
@[go_sem] theorem cells_nilm : AV.nilm.cells = [.nilm] := rfl
@[go_sem] theorem cells_clo (fn : Fn) (a b : List AV) : (AV.clo fn a b).cells = [.clo fn a b] := rfl
@[go_sem] theorem known_agg (cs : List AV) : (AV.agg cs).known = true := rfl
@[go_sem] theorem known_int (k : IntKind) (n : Int) : (AV.int k n).known = true := rfl
@[go_sem] theorem known_bool (b : Bool) : (AV.bool b).known = true := rfl
@[go_sem] theorem known_str (s : List UInt8) : (AV.str s).known = true := rfl
@[go_sem] theorem known_slice (c : Bool) (xs : List AV) : (AV.slice c xs).known = true := rfl
@[go_sem] theorem known_os (g len : Nat) : (AV.os d g len).known = true := rfl
@[go_sem] theorem known_clo (fn : Fn) (a b : List AV) : (AV.clo fn a b).known = true := rfl
@[go_sem] theorem known_nilf : AV.nilf.known = true := rfl
@[go_sem] theorem known_nilm : AV.nilm.known = true := rfl
@[go_sem] theorem one_int (k : IntKind) (n : Int) : (AV.int k n).one = true := rfl
@[go_sem] theorem one_bool (b : Bool) : (AV.bool b).one = true := rfl
@[go_sem] theorem one_str (s : List UInt8) : (AV.str s).one = true := rfl
@[go_sem] theorem one_slice (c : Bool) (xs : List AV) : (AV.slice c xs).one = true := rfl
@[go_sem] theorem one_os (g len : Nat) : (AV.os d g len).one = true := rfl
@[go_sem] theorem one_ref (g len : Nat) : (AV.ref d g len).one = true := rfl
@[go_sem] theorem one_nilp : AV.nilp.one = true := rfl
@[go_sem] theorem one_nilf : AV.nilf.one = true := rfl
@[go_sem] theorem one_nilm : AV.nilm.one = true := rfl
@[go_sem] theorem one_clo (fn : Fn) (a b : List AV) : (AV.clo fn a b).one = true := rfl
@[go_sem] theorem agg_struct (fs : List (Nat × Nat × String)) : (TyK.struct fs).agg = true := rfl
@[go_sem] theorem agg_array (n e : Nat) : (TyK.array n e).agg = true := rfl
@[go_sem] theorem agg_int (k : IntKind) : (TyK.int k).agg = false := rfl
@[go_sem] theorem agg_bool : TyK.bool.agg = false := rfl
@[go_sem] theorem agg_str : TyK.str.agg = false := rfl
@[go_sem] theorem agg_slice (e : Nat) : (TyK.slice e).agg = false := rfl
@[go_sem] theorem agg_func : TyK.func.agg = false := rfl
@[go_sem] theorem agg_map (k e : Nat) : (TyK.map k e).agg = false := rfl
@[go_sem] theorem agg_ptr (e : Nat) : (TyK.ptr e).agg = false := rfl
@[go_sem] theorem fillA_nil (pl : Nat → Option (Nat × Nat)) (cs : List AV) : fillA pl cs [] = some cs := rfl
@[go_sem] theorem fillA_cons (pl : Nat → Option (Nat × Nat)) (cs : List AV) (i : Nat) (x : AV) (r : List (Nat × AV)) : fillA pl cs ((i, x) :: r) =
    match pl i with
    | none => none
    | some (off, size) => if x.known = true ∧ x.cells.length = size ∧ off + size ≤ cs.length then fillA pl (setRange cs off x.cells) r else none := rfl
@[go_sem] theorem placeS_eq (fs : List (Nat × Nat × String)) (i : Nat) : placeS T fs i = (fs[i]?).map fun f => (f.1, (T.ty f.2.1).sz) := rfl
end kont

def loadKK (k : TyK) (sz : Nat) (cs : List AV) (ts : TS) (dst : Option Nat) (K : TS → Prop) : Prop :=
  match k with
  | .unk => False
  | k => (if k.agg then sz else 1) ≤ cs.length ∧ setK ts dst (if k.agg then .agg (cs.take sz) else cs.getD 0 .any) K
@[go_sem] theorem loadK_eq (t : Nat) (cs : List AV) (ts : TS) (dst : Option Nat) (K : TS → Prop) : loadK T t cs ts dst K = loadKK (T.ty t).k (T.ty t).sz cs ts dst K := rfl
section
variable (sz : Nat) (cs : List AV) (ts : TS) (dst : Option Nat) (K : TS → Prop)
@[go_sem] theorem loadKK_struct (fs : List (Nat × Nat × String)) : loadKK (.struct fs) sz cs ts dst K = (sz ≤ cs.length ∧ setK ts dst (.agg (cs.take sz)) K) := rfl
@[go_sem] theorem loadKK_array (n e : Nat) : loadKK (.array n e) sz cs ts dst K = (sz ≤ cs.length ∧ setK ts dst (.agg (cs.take sz)) K) := rfl
@[go_sem] theorem loadKK_int (k : IntKind) : loadKK (.int k) sz cs ts dst K = (1 ≤ cs.length ∧ setK ts dst (cs.getD 0 .any) K) := rfl
@[go_sem] theorem loadKK_bool : loadKK .bool sz cs ts dst K = (1 ≤ cs.length ∧ setK ts dst (cs.getD 0 .any) K) := rfl
@[go_sem] theorem loadKK_str : loadKK .str sz cs ts dst K = (1 ≤ cs.length ∧ setK ts dst (cs.getD 0 .any) K) := rfl
@[go_sem] theorem loadKK_slice (e : Nat) : loadKK (.slice e) sz cs ts dst K = (1 ≤ cs.length ∧ setK ts dst (cs.getD 0 .any) K) := rfl
@[go_sem] theorem loadKK_func : loadKK .func sz cs ts dst K = (1 ≤ cs.length ∧ setK ts dst (cs.getD 0 .any) K) := rfl
@[go_sem] theorem loadKK_map (k e : Nat) : loadKK (.map k e) sz cs ts dst K = (1 ≤ cs.length ∧ setK ts dst (cs.getD 0 .any) K) := rfl
@[go_sem] theorem loadKK_ptr (e : Nat) : loadKK (.ptr e) sz cs ts dst K = (1 ≤ cs.length ∧ setK ts dst (cs.getD 0 .any) K) := rfl
@[go_sem] theorem loadKK_iface : loadKK .iface sz cs ts dst K = (1 ≤ cs.length ∧ setK ts dst (cs.getD 0 .any) K) := rfl
end

section
variable (ts : TS) (dst : Option Nat) (K : TS → Prop)
def appendKK (T : Tys P) (k k2 : TyK) (s x : AV) (ts : TS) (dst : Option Nat) (K : TS → Prop) : Prop :=
  match k, k2, dst with
  | .slice e, .slice _, some d =>
    (T.ty e).k ≠ .unk ∧ 0 < (T.ty e).sz ∧ d < ts.n ∧
    optK (ts.base s (T.ty e).sz) fun b => optK (ts.sl x) fun ys =>
      (∀ y ∈ ys, y.cells.length = (T.ty e).sz) ∧ (∀ y ∈ ys, y.cells.all AV.one = true) ∧ ((b.2.length + ys.length) * (T.ty e).bytes ≤ 140737488355328 ∧ b.2.length + ys.length ≤ 9223372036854775807) ∧
      K (((ts.unbase b.1).new d (.arr (T.ty e).sz (b.2 ++ AV.nrm.nrmL ys))).put d (.os d (ts.gen d + 1) (b.2.length + ys.length)))
  | _, _, _ => False
@[go_sem] theorem appendK_eq (t tx : Nat) (s x : AV) : appendK T t tx s x ts dst K = appendKK T (T.ty t).k (T.ty tx).k s x ts dst K := rfl
/-- The bounds that an append asks. -/
def Room (n bytes : Nat) : Prop := n * bytes ≤ 140737488355328 ∧ n ≤ 9223372036854775807
@[go_sem] theorem appendKK_eq (e e' d : Nat) (s x : AV) : appendKK T (.slice e) (.slice e') s x ts (some d) K = ((T.ty e).k ≠ .unk ∧ 0 < (T.ty e).sz ∧ d < ts.n ∧
    optK (ts.base s (T.ty e).sz) fun b => optK (ts.sl x) fun ys =>
      (∀ y ∈ ys, y.cells.length = (T.ty e).sz) ∧ (∀ y ∈ ys, y.cells.all AV.one = true) ∧ Room (b.2.length + ys.length) (T.ty e).bytes ∧
      K (((ts.unbase b.1).new d (.arr (T.ty e).sz (b.2 ++ AV.nrm.nrmL ys))).put d (.os d (ts.gen d + 1) (b.2.length + ys.length)))) := rfl
theorem room_big {n b : Nat} (h : n ≤ 68719476736) (hb : b ≤ 2048) : Room n b := by
  unfold Room
  refine ⟨?_, by omega⟩
  calc n * b ≤ 68719476736 * 2048 := Nat.mul_le_mul h hb
    _ ≤ 140737488355328 := by decide
theorem room_small {n b : Nat} (h : n ≤ 8589934592) (hb : b ≤ 16384) : Room n b := by
  unfold Room
  refine ⟨?_, by omega⟩
  calc n * b ≤ 8589934592 * 16384 := Nat.mul_le_mul h hb
    _ ≤ 140737488355328 := by decide
def sliceKK (T : Tys P) (k : TyK) (x : AV) (lo hi mx : Option Operand) (ts : TS) (dst : Option Nat) (K : TS → Prop) : Prop :=
  match k, x with
  | .slice e, .slice clip xs =>
    (T.ty e).k ≠ .unk ∧ (∀ x ∈ xs, x.cells.length = (T.ty e).sz) ∧ optK (ts.optI lo 0) fun l => optK (ts.optI hi xs.length) fun u =>
      (match mx with
       | none => 0 ≤ l ∧ l ≤ u ∧ u ≤ xs.length ∧ setK ts dst (.slice (clip && (u == xs.length)) ((xs.take u.toNat).drop l.toNat)) K
       | some m => hi.isSome = true ∧ optK (ts.optI (some m) 0) fun m => 0 ≤ l ∧ l ≤ u ∧ u ≤ m ∧ m ≤ xs.length ∧ setK ts dst (.slice (m == u) ((xs.take u.toNat).drop l.toNat)) K)
  | .slice e, .os d g len =>
    (T.ty e).k ≠ .unk ∧ match lo, mx with
      | none, none => ts.live d g = true ∧ optK (ts.optI hi len) fun u => 0 ≤ u ∧ u ≤ len ∧ setK ts dst (.os d g u.toNat) K
      | _, _ => sliceOtK T e d g len lo hi mx ts dst K
  | .str, .str s =>
    mx.isNone = true ∧ optK (ts.optI lo 0) fun l => optK (ts.optI hi s.length) fun u => 0 ≤ l ∧ l ≤ u ∧ u ≤ s.length ∧ setK ts dst (.str ((s.take u.toNat).drop l.toNat)) K
  | _, _ => False
@[go_sem] theorem sliceK_eq (t : Nat) (x : AV) (lo hi mx : Option Operand) : sliceK T t x lo hi mx ts dst K = sliceKK T (T.ty t).k x lo hi mx ts dst K := rfl
@[go_sem] theorem sliceKK_s (e : Nat) (clip : Bool) (xs : List AV) (lo hi : Option Operand) : sliceKK T (.slice e) (.slice clip xs) lo hi none ts dst K = ((T.ty e).k ≠ .unk ∧ (∀ x ∈ xs, x.cells.length = (T.ty e).sz) ∧ optK (ts.optI lo 0) fun l => optK (ts.optI hi xs.length) fun u =>
      0 ≤ l ∧ l ≤ u ∧ u ≤ xs.length ∧ setK ts dst (.slice (clip && (u == xs.length)) ((xs.take u.toNat).drop l.toNat)) K) := rfl
@[go_sem] theorem sliceKK_3 (e : Nat) (clip : Bool) (xs : List AV) (lo hi : Option Operand) (m : Operand) : sliceKK T (.slice e) (.slice clip xs) lo hi (some m) ts dst K = ((T.ty e).k ≠ .unk ∧ (∀ x ∈ xs, x.cells.length = (T.ty e).sz) ∧ optK (ts.optI lo 0) fun l => optK (ts.optI hi xs.length) fun u =>
      hi.isSome = true ∧ optK (ts.optI (some m) 0) fun m => 0 ≤ l ∧ l ≤ u ∧ u ≤ m ∧ m ≤ xs.length ∧ setK ts dst (.slice (m == u) ((xs.take u.toNat).drop l.toNat)) K) := rfl
@[go_sem] theorem sliceKK_o (e d g len : Nat) (hi : Option Operand) : sliceKK T (.slice e) (.os d g len) none hi none ts dst K = ((T.ty e).k ≠ .unk ∧ ts.live d g = true ∧ optK (ts.optI hi len) fun u => 0 ≤ u ∧ u ≤ len ∧ setK ts dst (.os d g u.toNat) K) := rfl
@[go_sem] theorem sliceKK_ol (e d g len : Nat) (l : Operand) (hi mx : Option Operand) : sliceKK T (.slice e) (.os d g len) (some l) hi mx ts dst K = ((T.ty e).k ≠ .unk ∧ sliceOtK T e d g len (some l) hi mx ts dst K) := by cases mx <;> rfl
@[go_sem] theorem sliceOtK_eq (e d g len : Nat) (lo hi mx : Option Operand) : sliceOtK T e d g len lo hi mx ts dst K = (g = ts.gen d ∧ optK (ts.obj d).arr? fun q => q.1 = (T.ty e).sz ∧ optK (ts.optI lo 0) fun l => optK (ts.optI hi len) fun u => 0 ≤ l ∧ l ≤ u ∧ u ≤ q.2.length ∧
        maxOk ts hi mx u q.2.length ∧ setK ts dst (.ot d g l.toNat (u.toNat - l.toNat)) K) := rfl
@[go_sem] theorem maxOk_none (ts : TS) (hi : Option Operand) (u : Int) (n : Nat) : maxOk ts hi none u n = True := rfl
@[go_sem] theorem maxOk_some (ts : TS) (hi : Option Operand) (m : Operand) (u : Int) (n : Nat) : maxOk ts hi (some m) u n = (hi.isSome = true ∧ optK (ts.optI (some m) 0) fun k => u ≤ k ∧ k ≤ n) := rfl
@[go_sem] theorem arrQ (sz : Nat) (xs : List AV) : (Ob.arr sz xs).arr? = some (sz, xs) := rfl
def clearKK (T : Tys P) (k : TyK) (x : AV) (ts : TS) (dst : Option Nat) (K : TS → Prop) : Prop :=
  match k, x with
  | .slice e, .ot d g off len => (T.ty e).k ≠ .unk ∧ 0 < (T.ty e).sz ∧ g = ts.gen d ∧ dst = none ∧ (zeroA (T.ty e).k (T.ty e).zero).cells = (T.ty e).zero ∧ (T.ty e).zero.all AV.one = true ∧
    optK (ts.obj d).arr? fun q => q.1 = (T.ty e).sz ∧ off + len ≤ q.2.length ∧ K (ts.setObj d (.arr q.1 (clrL q.2 off len (zeroA (T.ty e).k (T.ty e).zero))))
  | _, _ => False
@[go_sem] theorem clearK_eq (t : Nat) (x : AV) : clearK T t x ts dst K = clearKK T (T.ty t).k x ts dst K := rfl
@[go_sem] theorem clearKK_ot (e d g off len : Nat) : clearKK T (.slice e) (.ot d g off len) ts dst K = ((T.ty e).k ≠ .unk ∧ 0 < (T.ty e).sz ∧ g = ts.gen d ∧ dst = none ∧ (zeroA (T.ty e).k (T.ty e).zero).cells = (T.ty e).zero ∧ (T.ty e).zero.all AV.one = true ∧
    optK (ts.obj d).arr? fun q => q.1 = (T.ty e).sz ∧ off + len ≤ q.2.length ∧ K (ts.setObj d (.arr q.1 (clrL q.2 off len (zeroA (T.ty e).k (T.ty e).zero))))) := rfl
@[go_sem] theorem zeroA_struct (fs : List (Nat × Nat × String)) (zs : List AV) : zeroA (.struct fs) zs = .agg zs := rfl
@[go_sem] theorem zeroA_int (k : IntKind) (zs : List AV) : zeroA (.int k) zs = zs.getD 0 .any := rfl
@[go_sem] theorem zeroA_str (zs : List AV) : zeroA .str zs = zs.getD 0 .any := rfl
@[go_sem] theorem zeroA_slice (e : Nat) (zs : List AV) : zeroA (.slice e) zs = zs.getD 0 .any := rfl
def appendInKK (T : Tys P) (k k2 : TyK) (s x : AV) (ts : TS) (dst : Option Nat) (K : TS → Prop) : Prop :=
  match k, k2, s, dst with
  | .slice e, .slice _, .os d g len, some d' => (T.ty e).k ≠ .unk ∧ 0 < (T.ty e).sz ∧ d' < ts.n ∧ g = ts.gen d ∧
    optK (ts.obj d).arr? fun q => q.1 = (T.ty e).sz ∧ optK (ts.sl x) fun ys => (∀ y ∈ ys, y.cells.length = (T.ty e).sz) ∧ (∀ y ∈ ys, y.cells.all AV.one = true) ∧ len + ys.length ≤ q.2.length ∧
        K ((ts.setObj d (.arr q.1 (q.2.take len ++ ys ++ q.2.drop (len + ys.length)))).put d' (.os d g (len + ys.length)))
  | _, _, _, _ => False
@[go_sem] theorem appendInK_eq (t tx : Nat) (s x : AV) : appendInK T t tx s x ts dst K = appendInKK T (T.ty t).k (T.ty tx).k s x ts dst K := rfl
@[go_sem] theorem appendInKK_eq (e e' d g len d' : Nat) (x : AV) : appendInKK T (.slice e) (.slice e') (.os d g len) x ts (some d') K = ((T.ty e).k ≠ .unk ∧ 0 < (T.ty e).sz ∧ d' < ts.n ∧ g = ts.gen d ∧
    optK (ts.obj d).arr? fun q => q.1 = (T.ty e).sz ∧ optK (ts.sl x) fun ys => (∀ y ∈ ys, y.cells.length = (T.ty e).sz) ∧ (∀ y ∈ ys, y.cells.all AV.one = true) ∧ len + ys.length ≤ q.2.length ∧
        K ((ts.setObj d (.arr q.1 (q.2.take len ++ ys ++ q.2.drop (len + ys.length)))).put d' (.os d g (len + ys.length)))) := rfl
@[go_sem] theorem sliceKK_str (s : List UInt8) (lo hi mx : Option Operand) : sliceKK T .str (.str s) lo hi mx ts dst K = (mx.isNone = true ∧ optK (ts.optI lo 0) fun l => optK (ts.optI hi s.length) fun u => 0 ≤ l ∧ l ≤ u ∧ u ≤ s.length ∧ setK ts dst (.str ((s.take u.toNat).drop l.toNat)) K) := rfl
@[go_sem] theorem optI_none (d : Int) : ts.optI none d = some d := rfl
@[go_sem] theorem optI_tmp (t : Nat) (d : Int) : ts.optI (some (.tmp t)) d = (match ts.tmp t with | .int _ n => some n | _ => none) := rfl
@[go_sem] theorem optI_const (k : IntKind) (n d : Int) : ts.optI (some (.const (.int k n))) d = some n := rfl
@[go_sem] theorem binK_nil (t : TypeId) (x : Operand) : binK T .eql t x (.const (.slice none 0 0)) ts dst K = (match (T.ty t).k with
      | .slice _ => optK (ts.sl (ts.ev x)) fun xs => ∀ b : Bool, (b = true → xs = []) → setK ts dst (.bool b) K
      | _ => False) := rfl
@[go_sem] theorem binK_bool (op : BinOp) (t : TypeId) (x : Operand) (b : Bool) : binK T op t x (.const (.bool b)) ts dst K = binD T op t (ts.ev x) (.bool b) ts dst K := by cases op <;> rfl
end

/-- By the type's kind. -/
def binDD (T : Tys P) (k : TyK) (op : BinOp) (t : TypeId) (a b : AV) (ts : TS) (dst : Option Nat) (K : TS → Prop) : Prop :=
  match k with
  | .struct fs => P.eqGuardType P.depth t = false ∧ P.stoodInHeld t = false ∧ optK (eqS T fs op a b) fun r => setK ts dst (.bool r) K
  | .bool => optK (eqB op a b) fun r => setK ts dst (.bool r) K
  | _ => optK (binA op a b) fun r => setK ts dst r K
section
variable (op : BinOp) (t : TypeId) (a b : AV) (ts : TS) (dst : Option Nat) (K : TS → Prop)
@[go_sem] theorem binD_eq : binD T op t a b ts dst K = binDD T (T.ty t).k op t a b ts dst K := rfl
@[go_sem] theorem binDD_struct (fs : List (Nat × Nat × String)) : binDD T (.struct fs) op t a b ts dst K = (P.eqGuardType P.depth t = false ∧ P.stoodInHeld t = false ∧ optK (eqS T fs op a b) fun r => setK ts dst (.bool r) K) := rfl
@[go_sem] theorem binDD_int (k : IntKind) : binDD T (.int k) op t a b ts dst K = optK (binA op a b) fun r => setK ts dst r K := rfl
@[go_sem] theorem binDD_bool : binDD T .bool op t a b ts dst K = optK (eqB op a b) fun r => setK ts dst (.bool r) K := rfl
@[go_sem] theorem eqB_eql (p q : Bool) : eqB .eql (.bool p) (.bool q) = some (decide (p = q)) := rfl
@[go_sem] theorem eqB_neq (p q : Bool) : eqB .neq (.bool p) (.bool q) = some (!decide (p = q)) := by simp [eqB]
@[go_sem] theorem binDD_str : binDD T .str op t a b ts dst K = optK (binA op a b) fun r => setK ts dst r K := rfl
@[go_sem] theorem eqS_eql (fs : List (Nat × Nat × String)) (xs ys : List AV) : eqS T fs .eql (.agg xs) (.agg ys) = eqFs T xs ys fs := rfl
@[go_sem] theorem eqS_neq (fs : List (Nat × Nat × String)) (xs ys : List AV) : eqS T fs .neq (.agg xs) (.agg ys) = (eqFs T xs ys fs).map (!·) := rfl
@[go_sem] theorem eqFs_nil (xs ys : List AV) : eqFs T xs ys [] = some true := rfl
@[go_sem] theorem eqFs_cons (xs ys : List AV) (off ty : Nat) (nm : String) (r : List (Nat × Nat × String)) : eqFs T xs ys ((off, ty, nm) :: r) = if nm = "_" then none else
    match eqF (T.ty ty).k (xs.getD off .any) (ys.getD off .any), eqFs T xs ys r with
    | some b, some c => some (b && c)
    | _, _ => none := rfl
@[go_sem] theorem eqF_int (k k1 : IntKind) (a b : Int) : eqF (.int k) (.int k1 a) (.int k1 b) = some (decide (a = b)) := by simp [eqF]
@[go_sem] theorem eqF_bool (a b : Bool) : eqF .bool (.bool a) (.bool b) = some (decide (a = b)) := rfl
@[go_sem] theorem eqF_str (a b : List UInt8) : eqF .str (.str a) (.str b) = some (decide (a = b)) := rfl
end

theorem beq_eq_decide {α : Type} [DecidableEq α] (a b : α) : (a == b) = decide (a = b) := rfl
section bin
variable (k : IntKind) (a b : Int) (s t : List UInt8)
@[go_sem] theorem binA_add : binA .add (.int k a) (.int k b) = some (.int k (k.wrap (a + b))) := by simp [binA]
@[go_sem] theorem binA_sub : binA .sub (.int k a) (.int k b) = some (.int k (k.wrap (a - b))) := by simp [binA]
@[go_sem] theorem binA_mul : binA .mul (.int k a) (.int k b) = some (.int k (k.wrap (a * b))) := by simp [binA]
@[go_sem] theorem binA_eql : binA .eql (.int k a) (.int k b) = some (.bool (decide (a = b))) := by simp [binA, beq_eq_decide]
@[go_sem] theorem binA_neq : binA .neq (.int k a) (.int k b) = some (.bool (!decide (a = b))) := by simp [binA, bne, beq_eq_decide]
@[go_sem] theorem binA_lss : binA .lss (.int k a) (.int k b) = some (.bool (decide (a < b))) := by simp [binA]
@[go_sem] theorem binA_leq : binA .leq (.int k a) (.int k b) = some (.bool (decide (a ≤ b))) := by simp [binA]
@[go_sem] theorem binA_gtr : binA .gtr (.int k a) (.int k b) = some (.bool (decide (b < a))) := by simp [binA]
@[go_sem] theorem binA_geq : binA .geq (.int k a) (.int k b) = some (.bool (decide (b ≤ a))) := by simp [binA]
@[go_sem] theorem binA_rem : binA .rem (.int k a) (.int k b) = if b = 0 then none else some (.int k (a.tmod b)) := by simp [binA]
@[go_sem] theorem binA_quo : binA .quo (.int k a) (.int k b) = if b = 0 then none else some (.int k (k.wrap (a.tdiv b))) := by simp [binA]
@[go_sem] theorem binA_seql : binA .eql (.str s) (.str t) = some (.bool (decide (s = t))) := by show some (AV.bool (s == t)) = _; exact congrArg (fun b => some (AV.bool b)) (Bool.eq_iff_iff.2 (by simp))
@[go_sem] theorem binA_sneq : binA .neq (.str s) (.str t) = some (.bool (!decide (s = t))) := by show some (AV.bool (s != t)) = _; exact congrArg (fun b => some (AV.bool b)) (Bool.eq_iff_iff.2 (by simp))
@[go_sem] theorem binA_slss : binA .lss (.str s) (.str t) = some (.bool (Op.bytesLess s t)) := rfl
@[go_sem] theorem binA_sgtr : binA .gtr (.str s) (.str t) = some (.bool !(Op.bytesLess s t || s == t)) := rfl
@[go_sem] theorem binA_and : binA .and (.int k a) (.int k b) = some (.int k (k.wrap (BitVec.ofInt k.bits a &&& BitVec.ofInt k.bits b).toNat)) := by simp [binA]
end bin
theorem not_dec (p : Prop) [Decidable p] : (!decide p) = decide (¬ p) := by simp

end Go.Proofs.Ytjmnokbbodcaaaa.Lg
