/- The rules by which the engine is reckoned out. -/
import Derived.Test.YtjmnokbbodcaaaaLg24
namespace Go.Proofs.Ytjmnokbbodcaaaa.Lg
set_option linter.unusedVariables false
set_option linter.unusedSimpArgs false
open Go
variable {P : Program}

/-- A round is over: the loop goes on. -/
structure Again (I : Nat → TS → Prop) (n : Nat) (A : TS → Prop) : Prop where
  on : ∀ (m : Nat) {ts : TS}, m < n → I m ts → A ts
theorem SpecC.loopW {c : Code} {ts : TS} {Q : Exit → TS → Prop} (I : Nat → TS → Prop) (n : Nat) (h0 : I n ts) (round : ∀ n A, Again I n A → ∀ ts, I n ts → SpecC P c ts (thenK A Q)) : SpecC P (.loop c) ts Q :=
  SpecC.loop I n h0 fun n ts h => round n _ ⟨fun m _ hm hi => ⟨m, hm, hi⟩⟩ ts h

/-- Some slots, with what they point to, are as they were. -/
def keepL (a b : TS) : List Nat → Prop
  | [] => True
  | t :: r => a.tmp t = b.tmp t ∧ a.gen t = b.gen t ∧ a.obj t = b.obj t ∧ keepL a b r
def Keeps (keep : List Nat) (a b : TS) : Prop := a.n = b.n ∧ keepL a b keep
theorem keepL.rfl' (a : TS) : ∀ l : List Nat, keepL a a l
  | [] => trivial
  | _ :: r => ⟨rfl, rfl, rfl, keepL.rfl' a r⟩
/-- The same frame and world may be read the other way, too. -/
def Ent (ts ts' : TS) : Prop := ∀ E G a w, Rel E ts G a w → ∃ G', Rel E ts' G' a w
theorem Ent.rfl' (ts : TS) : Ent ts ts := fun _ G _ _ h => ⟨G, h⟩
theorem Ent.trans {a b c : TS} (h : Ent a b) (k : Ent b c) : Ent a c := fun E G x w hr => by
  obtain ⟨G', h'⟩ := h E G x w hr
  exact k E G' x w h'
theorem SpecC.ent {c : Code} {ts ts' : TS} {Q : Exit → TS → Prop} (he : Ent ts ts') (h : SpecC P c ts' Q) : SpecC P c ts Q := fun E G a w hr => by
  obtain ⟨G', hr'⟩ := he E G a w hr
  exact h E G' a w hr'

/-- An own array gets the slot of the variable that holds it. -/
def AV.reos (t g : Nat) : AV → AV
  | .os _ _ len => .os t g len
  | x => x
def canV (ts : TS) (d : Nat) : AV → Bool
  | .os e g _ => e == d && g == ts.gen d && (ts.obj d).arr?.isSome
  | _ => false
theorem Ent.ren {ts : TS} (t d : Nat) (h : canV ts d (ts.tmp t) = true) (hn : t < ts.n) : Ent ts ((ts.ren d t).put t ((ts.tmp t).reos t (ts.gen t + 1))) := fun E G a w hr => by
  have hv := hr.tmp t
  generalize ts.tmp t = x at h hv
  cases x with
  | os e g len =>
    simp only [canV, Bool.and_eq_true, beq_iff_eq] at h
    obtain ⟨⟨rfl, h2⟩, h3⟩ := h
    obtain ⟨⟨sz, xs⟩, ho⟩ := Option.isSome_iff_exists.1 h3
    have ho := arr?_some ho
    obtain ⟨h1c, hgl, hos⟩ := rep_os hv
    have hos := hos h2 (by simp [ctxOf, ho, Ob.kind])
    have key := hr.ren (d := e) (d' := t) hn (v := a.tmps.getD t undef) (x := .os t (ts.gen t + 1) len) (.os t _ _ _ h1c (by simp [ctxOf, TS.ren]) fun _ _ => by
      unfold OsIs at hos ⊢
      simpa [ctxOf, Ghost.set] using hos)
    have ha : a.put (some t) (a.tmps.getD t undef) = a := by
      have hs : t < a.tmps.size := by rw [hr.size]; exact hn
      cases a with
      | mk tmps defers =>
        simp only [Act.put]
        congr 1
        simp only at hs
        rw [Array.getD_eq_getD_getElem?, Array.getElem?_eq_getElem hs]
        apply Array.ext
        · simp
        · intro i h1 h2
          by_cases e : t = i
          · subst e; simp
          · rw [Array.getElem_setIfInBounds (by simpa using h2)]; simp [e]
    rw [ha] at key
    exact ⟨_, key⟩
  | _ => simp [canV] at h

/-- A nil slice is an own array of no elements. -/
theorem Ent.virt {ts : TS} (t sz : Nat) (h : ts.tmp t = .slice true []) (hsz : 0 < sz) : Ent ts ((ts.new t (.arr sz [])).put t (.os t (ts.gen t + 1) 0)) := fun E G a w hr => by
  have h0 := hr.tmp t
  rw [h] at h0
  exact ⟨_, (hr.newVirt t sz hsz).reput (nil_os h0)⟩

/-- An own array is plain data from here on. -/
theorem Ent.frz {ts : TS} (t : Nat) {d g len : Nat} (h1 : ts.tmp t = .os d g len) (h2 : g = ts.gen d) {sz : Nat} {xs : List AV} (h3 : (ts.obj d).arr? = some (sz, xs)) (h4 : len ≤ xs.length) : Ent ts ((ts.kill d).put t (.slice false (xs.take len))) := fun E G a w hr => by
  have hv := hr.tmp t
  rw [h1] at hv
  exact ⟨G, (hr.kill d).reput (Rep.frozen hr hv h2 (arr?_some h3) h4)⟩

structure AgainF (keep : List Nat) (ts0 : TS) (I : Nat → TS → Prop) (n : Nat) (A : TS → Prop) : Prop where
  onE : ∀ (m : Nat) {ts ts' : TS}, Ent ts ts' → m < n → Keeps keep ts' ts0 → I m ts' → A ts
theorem AgainF.on {keep : List Nat} {ts0 : TS} {I : Nat → TS → Prop} {n : Nat} {A : TS → Prop} (h : AgainF keep ts0 I n A) (m : Nat) {ts : TS} (hm : m < n) (hk : Keeps keep ts ts0) (hi : I m ts) : A ts := h.onE m (Ent.rfl' ts) hm hk hi
theorem SpecC.loopF {c : Code} {ts : TS} {Q : Exit → TS → Prop} (keep : List Nat) (I : Nat → TS → Prop) (n : Nat) (h0 : I n ts) (round : ∀ n A, AgainF keep ts I n A → ∀ ts', Keeps keep ts' ts → I n ts' → SpecC P c ts' (thenK A Q)) : SpecC P (.loop c) ts Q :=
  SpecC.loop (fun n ts' => ∃ ts2, Ent ts' ts2 ∧ Keeps keep ts2 ts ∧ I n ts2) n ⟨ts, Ent.rfl' ts, ⟨rfl, keepL.rfl' ts keep⟩, h0⟩ fun n ts' h => by
    obtain ⟨ts2, h1, h2, h3⟩ := h
    exact SpecC.ent h1 (round n _ ⟨fun m _ ts4 he hm hk hi => ⟨m, hm, ts4, he, hk, hi⟩⟩ ts2 h2 h3)

theorem SpecC.scopeF {c rest : Code} {ts : TS} {Q : Exit → TS → Prop} (l : Nat) (keep : List Nat) (I : Nat → TS → Prop) (n0 : Nat) (hf : findLabel c l = some rest) (first : ∀ J, AgainF keep ts I n0 J → SpecC P c ts (jumpK l J Q))
    (pass : ∀ n J, AgainF keep ts I n J → ∀ ts', Keeps keep ts' ts → I n ts' → SpecC P rest ts' (jumpK l J Q)) : SpecC P (.scope c) ts Q :=
  SpecC.scope_jumps l (fun n ts' => ∃ ts2, Ent ts' ts2 ∧ Keeps keep ts2 ts ∧ I n ts2) hf (first _ ⟨fun m _ ts4 he _ hk hi => ⟨m, ts4, he, hk, hi⟩⟩) fun n ts' h => by
    obtain ⟨ts2, h1, h2, h3⟩ := h
    exact SpecC.ent h1 (pass n _ ⟨fun m _ ts4 he hm hk hi => ⟨m, hm, ts4, he, hk, hi⟩⟩ ts2 h2 h3)

@[congr] theorem optK_cong {α : Type} {x x' : Option α} {K : α → Prop} (hx : x = x') : (optK (α := α) x K) = (optK (α := α) x' K) := by subst hx; rfl
@[congr] theorem boolK_cong {x x' : AV} {K : Bool → Prop} (hx : x = x') : (boolK x K) = (boolK x' K) := by subst hx; rfl
@[congr] theorem intK_cong {x x' : AV} {K : IntKind → Int → Prop} (hx : x = x') : (intK x K) = (intK x' K) := by subst hx; rfl

def opsL (o : Oper) : List Operand := o.op.operands.toList
def tgtV (wr : List Nat) (v : AV) : Bool :=
  match v with
  | .ref d _ _ => wr.contains d
  | .eref d _ _ _ => wr.contains d
  | _ => true

section
variable (T : Tys P) (all l : List Oper) (o : Oper) (ts : TS) (K : TS → Prop) (Q : Exit → TS → Prop) (dst : Option Nat) (ty : TypeId) (pos : String) (after : Array Edge) (g : Option (Nat × Bool)) (wr bad : List Nat) (r : List (List Nat × List Nat))
@[go_sem] theorem reos_os (t q d p len : Nat) : (AV.os d p len).reos t q = .os t q len := rfl
@[go_sem] theorem canV_os (d e q len : Nat) : canV ts d (.os e q len) = (e == d && q == ts.gen d && (ts.obj d).arr?.isSome) := rfl
@[go_sem] theorem tmp_ren (d d' : Nat) : (ts.ren d d').tmp = ts.tmp := rfl
@[go_sem] theorem n_ren (d d' : Nat) : (ts.ren d d').n = ts.n := rfl
@[go_sem] theorem gen_ren (d d' u : Nat) : (ts.ren d d').gen u = if u = d' then ts.gen d' + 1 else ts.gen u := rfl
@[go_sem] theorem obj_ren (d d' u : Nat) : (ts.ren d d').obj u = if u = d' then ts.obj d else if u = d then .dead else ts.obj u := rfl
@[go_sem] theorem keepL_nil (a b : TS) : keepL a b [] = True := rfl
@[go_sem] theorem keepL_cons (a b : TS) (t : Nat) (r : List Nat) : keepL a b (t :: r) = (a.tmp t = b.tmp t ∧ a.gen t = b.gen t ∧ a.obj t = b.obj t ∧ keepL a b r) := rfl
@[go_sem] theorem Keeps_eq (keep : List Nat) (a b : TS) : Keeps keep a b = (a.n = b.n ∧ keepL a b keep) := rfl
@[go_sem] theorem wOps_nil : wOps T all [] K ts = K ts := rfl
@[go_sem] theorem wOps_cons : wOps T all (o :: l) K ts = wG T all o (wOps T all l K) ts := rfl
@[go_sem] theorem wG_none (op : Op) : wG T all ⟨dst, op, ty, pos, after, none⟩ K ts = opK T ⟨dst, op, ty, pos, after, none⟩ ts K := rfl
@[go_sem] theorem wG_some (op : Op) (j : Nat) (want : Bool) : wG T all ⟨dst, op, ty, pos, after, some (j, want)⟩ K ts = gK (gvalL ts all j) want (opKt T ⟨dst, op, ty, pos, after, some (j, want)⟩ K) (skipK dst K) ts := rfl
@[go_sem] theorem opKt_eq : opKt T o K ts = opK T o ts K := rfl
@[go_sem] theorem gvalL_zero (d : Nat) (op : Op) : gvalL ts (⟨some d, op, ty, pos, after, g⟩ :: l) 0 = ts.tmp d := rfl
@[go_sem] theorem gvalL_succ (j : Nat) : gvalL ts (o :: l) (j + 1) = gvalL ts l j := rfl
@[go_sem] theorem gK_tt (A B : TS → Prop) : gK (.bool true) true A B ts = A ts := by simp [gK]
@[go_sem] theorem gK_ff (A B : TS → Prop) : gK (.bool false) false A B ts = A ts := by simp [gK]
@[go_sem] theorem gK_tf (A B : TS → Prop) : gK (.bool true) false A B ts = B ts := by simp [gK]
@[go_sem] theorem gK_ft (A B : TS → Prop) : gK (.bool false) true A B ts = B ts := by simp [gK]
@[go_sem] theorem gK_skip (w : Bool) (A B : TS → Prop) : gK (.tup []) w A B ts = B ts := rfl
@[go_sem] theorem condK_t (A B : Prop) : condK (.bool true) A B = A := by simp [condK]
@[go_sem] theorem condK_f (A B : Prop) : condK (.bool false) A B = B := by simp [condK]
@[go_sem] theorem skipK_some (d : Nat) : skipK (some d) K ts = (d < ts.n ∧ K (ts.put d (.tup []))) := rfl
@[go_sem] theorem skipK_none : skipK none K ts = K ts := rfl
@[go_sem] theorem wDraw_nil : wDraw T all [] l K ts = wOps T all l K ts := rfl
@[go_sem] theorem wDraw_cons : wDraw T all ((wr, bad) :: r) (o :: l) K ts = (wGp T all o (wDraw T all r l K) ts ∧ (opndOk bad ts (opsL o) = true ∧ tgtOk wr ts o = true)) := rfl
@[go_sem] theorem opndOk_nil : opndOk bad ts [] = true := rfl
@[go_sem] theorem opndOk_tmp (t : Nat) (xs : List Operand) : opndOk bad ts (.tmp t :: xs) = (vOk bad (ts.tmp t) && opndOk bad ts xs) := rfl
@[go_sem] theorem opndOk_const (v : Value) (xs : List Operand) : opndOk bad ts (.const v :: xs) = opndOk bad ts xs := rfl
@[go_sem] theorem opndOk_func (f : Nat) (xs : List Operand) : opndOk bad ts (.func f :: xs) = opndOk bad ts xs := rfl
@[go_sem] theorem opsL_move (x : Operand) : opsL ⟨dst, .move x, ty, pos, after, g⟩ = [x] := rfl
@[go_sem] theorem tgtOk_move (x : Operand) : tgtOk wr ts ⟨dst, .move x, ty, pos, after, g⟩ = true := rfl
@[go_sem] theorem opsL_assign (x : Operand) : opsL ⟨dst, .assign x, ty, pos, after, g⟩ = [x] := rfl
@[go_sem] theorem tgtOk_assign (x : Operand) : tgtOk wr ts ⟨dst, .assign x, ty, pos, after, g⟩ = true := rfl
@[go_sem] theorem opsL_pick (c x y : Operand) : opsL ⟨dst, .pick c x y, ty, pos, after, g⟩ = [c, x, y] := rfl
@[go_sem] theorem tgtOk_pick (c x y : Operand) : tgtOk wr ts ⟨dst, .pick c x y, ty, pos, after, g⟩ = true := rfl
@[go_sem] theorem opsL_alloc (t : TypeId) : opsL ⟨dst, .alloc t, ty, pos, after, g⟩ = [] := rfl
@[go_sem] theorem tgtOk_alloc (t : TypeId) : tgtOk wr ts ⟨dst, .alloc t, ty, pos, after, g⟩ = true := rfl
@[go_sem] theorem opsL_box (t : TypeId) (x : Operand) : opsL ⟨dst, .box t x, ty, pos, after, g⟩ = [x] := rfl
@[go_sem] theorem tgtOk_box (t : TypeId) (x : Operand) : tgtOk wr ts ⟨dst, .box t x, ty, pos, after, g⟩ = true := rfl
@[go_sem] theorem opsL_load (t : TypeId) (x : Operand) : opsL ⟨dst, .load t x, ty, pos, after, g⟩ = [x] := rfl
@[go_sem] theorem tgtOk_load (t : TypeId) (x : Operand) : tgtOk wr ts ⟨dst, .load t x, ty, pos, after, g⟩ = true := rfl
@[go_sem] theorem opsL_fieldAddr (t : TypeId) (x : Operand) (f : Nat) : opsL ⟨dst, .fieldAddr t x f, ty, pos, after, g⟩ = [x] := rfl
@[go_sem] theorem tgtOk_fieldAddr (t : TypeId) (x : Operand) (f : Nat) : tgtOk wr ts ⟨dst, .fieldAddr t x f, ty, pos, after, g⟩ = true := rfl
@[go_sem] theorem opsL_indexAddr (t : TypeId) (x y : Operand) : opsL ⟨dst, .indexAddr t x y, ty, pos, after, g⟩ = [x, y] := rfl
@[go_sem] theorem tgtOk_indexAddr (t : TypeId) (x y : Operand) : tgtOk wr ts ⟨dst, .indexAddr t x y, ty, pos, after, g⟩ = true := rfl
@[go_sem] theorem opsL_index (t : TypeId) (x y : Operand) : opsL ⟨dst, .index t x y, ty, pos, after, g⟩ = [x, y] := rfl
@[go_sem] theorem tgtOk_index (t : TypeId) (x y : Operand) : tgtOk wr ts ⟨dst, .index t x y, ty, pos, after, g⟩ = true := rfl
@[go_sem] theorem opsL_bin (b : BinOp) (t u : TypeId) (x y : Operand) : opsL ⟨dst, .binOp b t x y u, ty, pos, after, g⟩ = [x, y] := rfl
@[go_sem] theorem tgtOk_bin (b : BinOp) (t u : TypeId) (x y : Operand) : tgtOk wr ts ⟨dst, .binOp b t x y u, ty, pos, after, g⟩ = true := rfl
@[go_sem] theorem opsL_un (b : UnOp) (t : TypeId) (x : Operand) : opsL ⟨dst, .unOp b t x, ty, pos, after, g⟩ = [x] := rfl
@[go_sem] theorem tgtOk_un (b : UnOp) (t : TypeId) (x : Operand) : tgtOk wr ts ⟨dst, .unOp b t x, ty, pos, after, g⟩ = true := rfl
@[go_sem] theorem opsL_extract (x : Operand) (i : Nat) : opsL ⟨dst, .extract x i, ty, pos, after, g⟩ = [x] := rfl
@[go_sem] theorem tgtOk_extract (x : Operand) (i : Nat) : tgtOk wr ts ⟨dst, .extract x i, ty, pos, after, g⟩ = true := rfl
@[go_sem] theorem opsL_slice0 (t : TypeId) (x : Operand) : opsL ⟨dst, .slice t x none none none, ty, pos, after, g⟩ = [x] := rfl
@[go_sem] theorem tgtOk_slice0 (t : TypeId) (x : Operand) : tgtOk wr ts ⟨dst, .slice t x none none none, ty, pos, after, g⟩ = true := rfl
@[go_sem] theorem opsL_slice1 (t : TypeId) (x y : Operand) : opsL ⟨dst, .slice t x (some y) none none, ty, pos, after, g⟩ = [x, y] := rfl
@[go_sem] theorem tgtOk_slice1 (t : TypeId) (x y : Operand) : tgtOk wr ts ⟨dst, .slice t x (some y) none none, ty, pos, after, g⟩ = true := rfl
@[go_sem] theorem opsL_slice2 (t : TypeId) (x y : Operand) : opsL ⟨dst, .slice t x none (some y) none, ty, pos, after, g⟩ = [x, y] := rfl
@[go_sem] theorem tgtOk_slice2 (t : TypeId) (x y : Operand) : tgtOk wr ts ⟨dst, .slice t x none (some y) none, ty, pos, after, g⟩ = true := rfl
@[go_sem] theorem opsL_slice3 (t : TypeId) (x y z : Operand) : opsL ⟨dst, .slice t x (some y) (some z) none, ty, pos, after, g⟩ = [x, y, z] := rfl
@[go_sem] theorem tgtOk_slice3 (t : TypeId) (x y z : Operand) : tgtOk wr ts ⟨dst, .slice t x (some y) (some z) none, ty, pos, after, g⟩ = true := rfl
@[go_sem] theorem opsL_slice4 (t : TypeId) (x y z u : Operand) : opsL ⟨dst, .slice t x (some y) (some z) (some u), ty, pos, after, g⟩ = [x, y, z, u] := rfl
@[go_sem] theorem tgtOk_slice4 (t : TypeId) (x y z u : Operand) : tgtOk wr ts ⟨dst, .slice t x (some y) (some z) (some u), ty, pos, after, g⟩ = true := rfl
@[go_sem] theorem opsL_slice5 (t : TypeId) (x z u : Operand) : opsL ⟨dst, .slice t x none (some z) (some u), ty, pos, after, g⟩ = [x, z, u] := rfl
@[go_sem] theorem tgtOk_slice5 (t : TypeId) (x z u : Operand) : tgtOk wr ts ⟨dst, .slice t x none (some z) (some u), ty, pos, after, g⟩ = true := rfl
@[go_sem] theorem opsL_call (f : Operand) (xs : List Operand) (ats : Array TypeId) : opsL ⟨dst, .call ⟨.value f, List.toArray xs, ats⟩, ty, pos, after, g⟩ = (f :: xs) := by simp [opsL, Op.operands, Call.operands]
@[go_sem] theorem tgtOk_call (f : Operand) (xs : List Operand) (ats : Array TypeId) : tgtOk wr ts ⟨dst, .call ⟨.value f, List.toArray xs, ats⟩, ty, pos, after, g⟩ = true := rfl
@[go_sem] theorem opsL_len (b : Builtin) (xs : List Operand) (ats : Array TypeId) : opsL ⟨dst, .call ⟨.builtin b, List.toArray xs, ats⟩, ty, pos, after, g⟩ = xs := by simp [opsL, Op.operands, Call.operands]
@[go_sem] theorem tgtOk_len (b : Builtin) (xs : List Operand) (ats : Array TypeId) : tgtOk wr ts ⟨dst, .call ⟨.builtin b, List.toArray xs, ats⟩, ty, pos, after, g⟩ = true := rfl
@[go_sem] theorem opsL_build (t : TypeId) (ps : List (Nat × Operand)) : opsL ⟨dst, .build t (List.toArray ps), ty, pos, after, g⟩ = (ps.map (·.2)) := by simp [opsL, Op.operands, Call.operands]
@[go_sem] theorem tgtOk_build (t : TypeId) (ps : List (Nat × Operand)) : tgtOk wr ts ⟨dst, .build t (List.toArray ps), ty, pos, after, g⟩ = true := rfl
@[go_sem] theorem opsL_buildSlice (t : TypeId) (n : Nat) (ps : List (Nat × Operand)) : opsL ⟨dst, .buildSlice t n (List.toArray ps), ty, pos, after, g⟩ = (ps.map (·.2)) := by simp [opsL, Op.operands, Call.operands]
@[go_sem] theorem tgtOk_buildSlice (t : TypeId) (n : Nat) (ps : List (Nat × Operand)) : tgtOk wr ts ⟨dst, .buildSlice t n (List.toArray ps), ty, pos, after, g⟩ = true := rfl
@[go_sem] theorem opsL_store (t : TypeId) (x y : Operand) : opsL ⟨dst, .store t x y, ty, pos, after, g⟩ = [x, y] := rfl
@[go_sem] theorem tgtOk_store (t : TypeId) (x y : Operand) : tgtOk wr ts ⟨dst, .store t x y, ty, pos, after, g⟩ = tgtV wr (ts.ev x) := rfl
@[go_sem] theorem boxQ (cs : List AV) : (Ob.box cs).box? = some cs := rfl
@[go_sem] theorem vOk_ot (d q o n : Nat) : vOk bad (.ot d q o n) = !bad.contains d := rfl
@[go_sem] theorem wGp_none (op : Op) : wGp T all ⟨dst, op, ty, pos, after, none⟩ K ts = opKp T ⟨dst, op, ty, pos, after, none⟩ ts K := rfl
@[go_sem] theorem wGp_some (op : Op) (j : Nat) (want : Bool) : wGp T all ⟨dst, op, ty, pos, after, some (j, want)⟩ K ts = gK (gvalL ts all j) want (opKpt T ⟨dst, op, ty, pos, after, some (j, want)⟩ K) (skipK dst K) ts := rfl
@[go_sem] theorem opKpt_eq : opKpt T o K ts = opKp T o ts K := rfl
@[go_sem] theorem opKp_call (f : Operand) (xs : Array Operand) (at_ : Array TypeId) : opKp T ⟨dst, .call ⟨.value f, xs, at_⟩, ty, pos, after, g⟩ ts K = callW false P (ts.ev f) (xs.toList.map ts.ev) dst ts K := rfl
@[go_sem] theorem opKp_move (x : Operand) : opKp T ⟨dst, .move x, ty, pos, after, g⟩ ts K = opK T ⟨dst, .move x, ty, pos, after, g⟩ ts K := rfl
@[go_sem] theorem opKp_assign (x : Operand) : opKp T ⟨dst, .assign x, ty, pos, after, g⟩ ts K = opK T ⟨dst, .assign x, ty, pos, after, g⟩ ts K := rfl
@[go_sem] theorem opKp_pick (c x y : Operand) : opKp T ⟨dst, .pick c x y, ty, pos, after, g⟩ ts K = opK T ⟨dst, .pick c x y, ty, pos, after, g⟩ ts K := rfl
@[go_sem] theorem opKp_alloc (t : TypeId) : opKp T ⟨dst, .alloc t, ty, pos, after, g⟩ ts K = opK T ⟨dst, .alloc t, ty, pos, after, g⟩ ts K := rfl
@[go_sem] theorem opKp_box (t : TypeId) (x : Operand) : opKp T ⟨dst, .box t x, ty, pos, after, g⟩ ts K = opK T ⟨dst, .box t x, ty, pos, after, g⟩ ts K := rfl
@[go_sem] theorem opKp_load (t : TypeId) (x : Operand) : opKp T ⟨dst, .load t x, ty, pos, after, g⟩ ts K = opK T ⟨dst, .load t x, ty, pos, after, g⟩ ts K := rfl
@[go_sem] theorem opKp_store (t : TypeId) (x y : Operand) : opKp T ⟨dst, .store t x y, ty, pos, after, g⟩ ts K = opK T ⟨dst, .store t x y, ty, pos, after, g⟩ ts K := rfl
@[go_sem] theorem opKp_fieldAddr (t : TypeId) (x : Operand) (f : Nat) : opKp T ⟨dst, .fieldAddr t x f, ty, pos, after, g⟩ ts K = opK T ⟨dst, .fieldAddr t x f, ty, pos, after, g⟩ ts K := rfl
@[go_sem] theorem opKp_indexAddr (t : TypeId) (x y : Operand) : opKp T ⟨dst, .indexAddr t x y, ty, pos, after, g⟩ ts K = opK T ⟨dst, .indexAddr t x y, ty, pos, after, g⟩ ts K := rfl
@[go_sem] theorem opKp_index (t : TypeId) (x y : Operand) : opKp T ⟨dst, .index t x y, ty, pos, after, g⟩ ts K = opK T ⟨dst, .index t x y, ty, pos, after, g⟩ ts K := rfl
@[go_sem] theorem opKp_bin (b : BinOp) (t u : TypeId) (x y : Operand) : opKp T ⟨dst, .binOp b t x y u, ty, pos, after, g⟩ ts K = opK T ⟨dst, .binOp b t x y u, ty, pos, after, g⟩ ts K := rfl
@[go_sem] theorem opKp_un (b : UnOp) (t : TypeId) (x : Operand) : opKp T ⟨dst, .unOp b t x, ty, pos, after, g⟩ ts K = opK T ⟨dst, .unOp b t x, ty, pos, after, g⟩ ts K := rfl
@[go_sem] theorem opKp_extract (x : Operand) (i : Nat) : opKp T ⟨dst, .extract x i, ty, pos, after, g⟩ ts K = opK T ⟨dst, .extract x i, ty, pos, after, g⟩ ts K := rfl
@[go_sem] theorem opKp_slice (t : TypeId) (x : Operand) (lo hi mx : Option Operand) : opKp T ⟨dst, .slice t x lo hi mx, ty, pos, after, g⟩ ts K = opK T ⟨dst, .slice t x lo hi mx, ty, pos, after, g⟩ ts K := rfl
@[go_sem] theorem opKp_len (b : Builtin) (xs : Array Operand) (ats : Array TypeId) : opKp T ⟨dst, .call ⟨.builtin b, xs, ats⟩, ty, pos, after, g⟩ ts K = opK T ⟨dst, .call ⟨.builtin b, xs, ats⟩, ty, pos, after, g⟩ ts K := rfl
@[go_sem] theorem opKp_build (t : TypeId) (ps : Array (Nat × Operand)) : opKp T ⟨dst, .build t ps, ty, pos, after, g⟩ ts K = opK T ⟨dst, .build t ps, ty, pos, after, g⟩ ts K := rfl
@[go_sem] theorem opKp_buildSlice (t : TypeId) (n : Nat) (ps : Array (Nat × Operand)) : opKp T ⟨dst, .buildSlice t n ps, ty, pos, after, g⟩ ts K = opK T ⟨dst, .buildSlice t n ps, ty, pos, after, g⟩ ts K := rfl
@[go_sem] theorem tgtV_ref (d q off : Nat) : tgtV wr (.ref d q off) = wr.contains d := rfl
@[go_sem] theorem tgtV_eref (d q i off : Nat) : tgtV wr (.eref d q i off) = wr.contains d := rfl
@[go_sem] theorem vOk_os (d q n : Nat) : vOk bad (.os d q n) = !bad.contains d := rfl
@[go_sem] theorem vOk_ref (d q n : Nat) : vOk bad (.ref d q n) = !bad.contains d := rfl
@[go_sem] theorem vOk_eref (d q i n : Nat) : vOk bad (.eref d q i n) = !bad.contains d := rfl
@[go_sem] theorem vOk_agg (cs : List AV) : vOk bad (.agg cs) = vOk.vOkL bad cs := rfl
@[go_sem] theorem vOk_tup (cs : List AV) : vOk bad (.tup cs) = vOk.vOkL bad cs := rfl
@[go_sem] theorem vOk_clo (fn : Fn) (a b : List AV) : vOk bad (.clo fn a b) = (vOk.vOkL bad a && vOk.vOkL bad b) := rfl
@[go_sem] theorem vOk_int (k : IntKind) (n : Int) : vOk bad (.int k n) = true := rfl
@[go_sem] theorem vOk_bool (b : Bool) : vOk bad (.bool b) = true := rfl
@[go_sem] theorem vOk_str (s : List UInt8) : vOk bad (.str s) = true := rfl
@[go_sem] theorem vOk_slice (c : Bool) (xs : List AV) : vOk bad (.slice c xs) = true := rfl
@[go_sem] theorem vOk_ro (xs : List AV) : vOk bad (.ro xs) = true := rfl
@[go_sem] theorem vOk_nilp : vOk bad .nilp = true := rfl
@[go_sem] theorem vOk_nilf : vOk bad .nilf = true := rfl
@[go_sem] theorem vOk_nilm : vOk bad .nilm = true := rfl
@[go_sem] theorem vOk_niface : vOk bad .niface = true := rfl
@[go_sem] theorem vOkL_nl : vOk.vOkL bad [] = true := rfl
@[go_sem] theorem vOkL_cons (x : AV) (xs : List AV) : vOk.vOkL bad (x :: xs) = (vOk bad x && vOk.vOkL bad xs) := rfl
@[go_sem] theorem endK_normal (R : TS → Prop) : endK R .normal ts = R ts := rfl
@[go_sem] theorem endK_ret (R : TS → Prop) : endK R .ret ts = R ts := rfl
@[go_sem] theorem EndX_val (rs : List ResultVar) (z : AV) : EndX T rs (.val z) ts = optK (ts.result T rs) fun x => optK (x.res ts) fun y => y.nrm = z := rfl
@[go_sem] theorem EndX_own (rs : List ResultVar) (sz : Nat) (zs : List AV) : EndX T rs (.own sz zs) ts = (oneRes ts rs = true ∧ optK (ts.result T rs) fun x => ownX ts x sz zs) := rfl
@[go_sem] theorem oneRes_tmp (t : Nat) : oneRes ts [.tmp t] = true := rfl
@[go_sem] theorem oneRes_cell (a t : Nat) : oneRes ts [.cell a t] = (match ts.tmp a with | .ref .. => true | _ => false) := rfl
@[go_sem] theorem ownX_os (d q len sz : Nat) (zs : List AV) : ownX ts (.os d q len) sz zs = (q = ts.gen d ∧ optK (ts.obj d).arr? fun q => q.1 = sz ∧ len ≤ q.2.length ∧ AV.pure.pureL (q.2.take len) = true ∧ AV.nrm.nrmL (q.2.take len) = zs) := rfl
@[go_sem] theorem ownX_nil (sz : Nat) (zs : List AV) : ownX ts (.slice true []) sz zs = (0 < sz ∧ [] = zs) := rfl
@[go_sem] theorem retflat_val (x : AV) : Ret.flat (.val x) = x.flat := rfl
@[go_sem] theorem retflat_own (sz : Nat) (xs : List AV) : Ret.flat (.own sz xs) = AV.flat.flatL xs := rfl
end

@[go_sem] theorem take_set_len {α : Type} (l : List α) (i : Nat) (x : α) : (l.set i x).take l.length = l.set i x := List.take_of_length_le (by simp)

theorem clr_length {xs : List AV} {off len : Nat} {z : AV} (h : off + len ≤ xs.length) : (clrL xs off len z).length = xs.length := by
  simp only [clrL, List.length_append, List.length_take, List.length_replicate, List.length_drop]; omega
@[go_sem] theorem clr_take (xs : List AV) (off len : Nat) (z : AV) (h : off ≤ xs.length) : (clrL xs off len z).take off = xs.take off := by
  simp only [clrL, List.append_assoc]
  rw [List.take_append_of_le_length (by rw [List.length_take]; omega), List.take_take, Nat.min_self]
@[go_sem] theorem clr_le (xs : List AV) (off len n : Nat) (z : AV) (h : off + len ≤ xs.length) : (n ≤ (clrL xs off len z).length) = (n ≤ xs.length) := by rw [clr_length h]

mutual
theorem owns_of_pure : ∀ x : AV, x.pure = true → x.owns = []
  | .agg cs, h => by simp only [AV.pure] at h; simp only [AV.owns]; exact ownsL_of_pure cs h
  | .tup cs, h => by simp only [AV.pure] at h; simp only [AV.owns]; exact ownsL_of_pure cs h
  | .os _ _ _, h => by simp [AV.pure] at h
  | .any, _ | .bool _, _ | .int _ _, _ | .str _, _ | .slice _ _, _ | .ro _, _ | .nilp, _ | .clo _ _ _, _ | .nilf, _ | .nilm, _ | .niface, _ | .iface _ _, _ | .ref _ _ _, _ | .eref _ _ _ _, _ | .ot _ _ _ _, _ => rfl
theorem ownsL_of_pure : ∀ l : List AV, AV.pure.pureL l = true → AV.owns.ownsL l = []
  | [], _ => rfl
  | x :: r, h => by
    simp only [AV.pure.pureL, Bool.and_eq_true] at h
    simp only [AV.owns.ownsL, owns_of_pure x h.1, ownsL_of_pure r h.2, List.append_nil]
end

/-- Captured values of plain data. -/
structure Caps (caps : List AV) : Prop where
  pure : AV.pure.pureL caps = true
  nrm : AV.nrm.nrmL caps = caps
theorem Caps.args {caps : List AV} (h : Caps caps) (ts : TS) : ts.toArgs caps = some (caps, []) := by
  obtain ⟨h1, h2⟩ := h
  induction caps with
  | nil => rfl
  | cons x r ih =>
    simp only [AV.pure.pureL, Bool.and_eq_true] at h1
    simp only [AV.nrm.nrmL, List.cons.injEq] at h2
    simp only [TS.toArgs, res_of_pure ts x h1.1, ih h1.2 h2.2, h2.1, owns_of_pure x h1.1, List.append_nil]
theorem Caps.nil : Caps [] := ⟨rfl, rfl⟩

attribute [go_sem] thenK_normal thenK_ret thenK_exit thenK_goto inBlockK_normal inBlockK_ret inBlockK_exit inBlockK_goto
attribute [go_sem] AV.bool.injEq AV.int.injEq AV.str.injEq AV.agg.injEq AV.tup.injEq AV.slice.injEq List.cons.injEq
attribute [go_sem] Nat.lt_add_one true_and and_true ne_eq not_false_eq_true not_true_eq_false and_self List.map_cons List.map_nil List.length_cons List.length_nil List.drop_zero List.drop_succ_cons List.drop_nil List.take_succ_cons List.take_zero List.take_nil
attribute [go_sem] List.getD_cons_zero List.getD_cons_succ List.getElem?_cons_zero List.getElem?_cons_succ List.nil_append List.cons_append List.append_nil List.all_cons List.all_nil Bool.and_self Bool.and_true Bool.true_and Bool.not_true Bool.not_false Bool.and_false Bool.false_and Bool.false_eq_true
attribute [go_sem] Option.map_some Option.isSome_some Option.isSome_none Option.isNone_none Option.isNone_some BEq.rfl beq_self_eq_true List.mem_cons List.not_mem_nil or_false or_self forall_eq_or_imp forall_eq implies_true false_implies Nat.zero_add Nat.add_zero Nat.zero_le Nat.zero_lt_succ Nat.le_refl
attribute [go_sem] List.isEmpty Int.toNat_natCast Int.ofNat_lt Int.ofNat_le Int.natCast_nonneg List.toList_toArray List.take_length Nat.sub_zero List.set_cons_zero List.set_cons_succ Option.some.injEq forall_eq' List.range List.range.loop List.set_nil List.length_set List.length_map List.contains_cons List.contains_nil
attribute [go_sem] List.length_drop List.length_append List.getElem_set_self
theorem dec_T (p : Prop) [Decidable p] : (decide p = true) = (p = True) := by simp
theorem dec_F (p : Prop) [Decidable p] : (decide p = false) = (p = False) := by simp
@[go_sem] theorem take_snoc_len {α : Type} (l : List α) (x : α) : (l ++ [x]).take (l.length + 1) = l ++ [x] := List.take_of_length_le (by simp)
attribute [go_sem] Bool.or_false Bool.false_or Bool.or_true Bool.true_or decide_true decide_false true_or or_true

end Go.Proofs.Ytjmnokbbodcaaaa.Lg
