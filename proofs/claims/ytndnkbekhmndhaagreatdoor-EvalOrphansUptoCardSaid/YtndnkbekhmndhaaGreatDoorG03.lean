/- Parts of the proof, one behind the other. -/
import Derived.Test.YtndnkbekhmndhaaGreatDoorProg
import Derived.Test.YtndnkbekhmndhaaGreatDoorG02
namespace Go.Proofs.YtndnkbekhmndhaaGreatDoor.Lg
set_option maxRecDepth 100000
set_option linter.unusedVariables false
set_option linter.unusedSimpArgs false
open Go
variable {P : Program}
structure Again (I : Nat → TS → Prop) (n : Nat) (A : TS → Prop) : Prop where
  on : ∀ (m : Nat) {ts : TS}, m < n → I m ts → A ts
def keepL (a b : TS) : List Nat → Prop
  | [] => True
  | t :: r => a.tmp t = b.tmp t ∧ a.gen t = b.gen t ∧ a.obj t = b.obj t ∧ keepL a b r
def Keeps (keep : List Nat) (a b : TS) : Prop := a.n = b.n ∧ keepL a b keep
theorem keepL.rfl' (a : TS) : ∀ l : List Nat, keepL a a l
  | [] => trivial
  | _ :: r => ⟨rfl, rfl, rfl, keepL.rfl' a r⟩
def Ent (ts ts' : TS) : Prop := ∀ E G a w, Rel E ts G a w → ∃ G', Rel E ts' G' a w
theorem Ent.rfl' (ts : TS) : Ent ts ts := fun _ G _ _ h => ⟨G, h⟩
theorem Ent.trans {a b c : TS} (h : Ent a b) (k : Ent b c) : Ent a c := fun E G x w hr => by
  obtain ⟨G', h'⟩ := h E G x w hr
  exact k E G' x w h'
theorem SpecC.ent {c : Code} {ts ts' : TS} {Q : Exit → TS → Prop} (he : Ent ts ts') (h : SpecC P c ts' Q) : SpecC P c ts Q := fun E G a w hr => by
  obtain ⟨G', hr'⟩ := he E G a w hr
  exact h E G' a w hr'
def AV.reos (t g : Nat) : AV → AV
  | .os _ _ len => .os t g len
  | x => x
def canV (ts : TS) (d : Nat) : AV → Bool
  | .os e g _ => e == d && g == ts.gen d && (ts.obj d).arr?.isSome
  | _ => false
theorem Ent.ren {ts : TS} (t d : Nat) (h : canV ts d (ts.tmp t) = true) (hn : t < ts.n) : Ent ts ((ts.ren d t).put t ((ts.tmp t).reos t (ts.gen t + 1))) := fun E G a w hr => by
  have hv := hr.tmp t
  generalize ts.tmp t = x at h hv
  cases x with
  | os e g len =>
    simp only [canV, Bool.and_eq_true, beq_iff_eq] at h
    obtain ⟨⟨rfl, h2⟩, h3⟩ := h
    obtain ⟨⟨sz, xs⟩, ho⟩ := Option.isSome_iff_exists.1 h3
    have ho := arr?_some ho
    obtain ⟨h1c, hgl, hos⟩ := rep_os hv
    have hos := hos h2 (by simp [ctxOf, ho, Ob.kind])
    have key := hr.ren (d := e) (d' := t) hn (v := a.tmps.getD t undef) (x := .os t (ts.gen t + 1) len) (.os t _ _ _ h1c (by simp [ctxOf, TS.ren]) fun _ _ => by
      unfold OsIs at hos ⊢
      simpa [ctxOf, Ghost.set] using hos)
    have ha : a.put (some t) (a.tmps.getD t undef) = a := by
      have hs : t < a.tmps.size := by rw [hr.size]; exact hn
      cases a with
      | mk tmps defers =>
        simp only [Act.put]
        congr 1
        simp only at hs
        rw [Array.getD_eq_getD_getElem?, Array.getElem?_eq_getElem hs]
        apply Array.ext
        · simp
        · intro i h1 h2
          by_cases e : t = i
          · subst e; simp
          · rw [Array.getElem_setIfInBounds (by simpa using h2)]; simp [e]
    rw [ha] at key
    exact ⟨_, key⟩
  | _ => simp [canV] at h
theorem Ent.virt {ts : TS} (t sz : Nat) (h : ts.tmp t = .slice true []) (hsz : 0 < sz) : Ent ts ((ts.new t (.arr sz [])).put t (.os t (ts.gen t + 1) 0)) := fun E G a w hr => by
  have h0 := hr.tmp t
  rw [h] at h0
  exact ⟨_, (hr.newVirt t sz hsz).reput (nil_os h0)⟩
theorem Ent.frz {ts : TS} (t : Nat) {d g len : Nat} (h1 : ts.tmp t = .os d g len) (h2 : g = ts.gen d) {sz : Nat} {xs : List AV} (h3 : (ts.obj d).arr? = some (sz, xs)) (h4 : len ≤ xs.length) : Ent ts ((ts.kill d).put t (.slice false (xs.take len))) := fun E G a w hr => by
  have hv := hr.tmp t
  rw [h1] at hv
  exact ⟨G, (hr.kill d).reput (Rep.frozen hr hv h2 (arr?_some h3) h4)⟩
structure AgainF (keep : List Nat) (ts0 : TS) (I : Nat → TS → Prop) (n : Nat) (A : TS → Prop) : Prop where
  onE : ∀ (m : Nat) {ts ts' : TS}, Ent ts ts' → m < n → Keeps keep ts' ts0 → I m ts' → A ts
theorem AgainF.on {keep : List Nat} {ts0 : TS} {I : Nat → TS → Prop} {n : Nat} {A : TS → Prop} (h : AgainF keep ts0 I n A) (m : Nat) {ts : TS} (hm : m < n) (hk : Keeps keep ts ts0) (hi : I m ts) : A ts := h.onE m (Ent.rfl' ts) hm hk hi
theorem SpecC.loopF {c : Code} {ts : TS} {Q : Exit → TS → Prop} (keep : List Nat) (I : Nat → TS → Prop) (n : Nat) (h0 : I n ts) (round : ∀ n A, AgainF keep ts I n A → ∀ ts', Keeps keep ts' ts → I n ts' → SpecC P c ts' (thenK A Q)) : SpecC P (.loop c) ts Q :=
  SpecC.loop (fun n ts' => ∃ ts2, Ent ts' ts2 ∧ Keeps keep ts2 ts ∧ I n ts2) n ⟨ts, Ent.rfl' ts, ⟨rfl, keepL.rfl' ts keep⟩, h0⟩ fun n ts' h => by
    obtain ⟨ts2, h1, h2, h3⟩ := h
    exact SpecC.ent h1 (round n _ ⟨fun m _ ts4 he hm hk hi => ⟨m, hm, ts4, he, hk, hi⟩⟩ ts2 h2 h3)
@[congr] theorem optK_cong {α : Type} {x x' : Option α} {K : α → Prop} (hx : x = x') : (optK (α := α) x K) = (optK (α := α) x' K) := by subst hx; rfl
@[congr] theorem boolK_cong {x x' : AV} {K : Bool → Prop} (hx : x = x') : (boolK x K) = (boolK x' K) := by subst hx; rfl
@[congr] theorem intK_cong {x x' : AV} {K : IntKind → Int → Prop} (hx : x = x') : (intK x K) = (intK x' K) := by subst hx; rfl
def opsL (o : Oper) : List Operand := o.op.operands.toList
def tgtV (wr : List Nat) (v : AV) : Bool :=
  match v with
  | .ref d _ _ => wr.contains d
  | .eref d _ _ _ => wr.contains d
  | _ => true
def tgtA (wr : List Nat) (v : AV) : Bool :=
  match v with
  | .os d _ _ => wr.contains d
  | _ => true
def tgtM (wr : List Nat) (v : AV) : Bool :=
  match v with
  | .mref d _ => wr.contains d
  | _ => true
section
variable (T : Tys P) (all l : List Oper) (o : Oper) (ts : TS) (K : TS → Prop) (Q : Exit → TS → Prop) (dst : Option Nat) (ty : TypeId) (pos : String) (after : Array Edge) (g : Option (Nat × Bool)) (wr bad : List Nat) (r : List (List Nat × List Nat))
@[go_sem] theorem reos_os (t q d p len : Nat) : (AV.os d p len).reos t q = .os t q len := rfl
@[go_sem] theorem canV_os (d e q len : Nat) : canV ts d (.os e q len) = (e == d && q == ts.gen d && (ts.obj d).arr?.isSome) := rfl
@[go_sem] theorem tmp_ren (d d' : Nat) : (ts.ren d d').tmp = ts.tmp := rfl
@[go_sem] theorem n_ren (d d' : Nat) : (ts.ren d d').n = ts.n := rfl
@[go_sem] theorem gen_ren (d d' u : Nat) : (ts.ren d d').gen u = if u = d' then ts.gen d' + 1 else ts.gen u := rfl
@[go_sem] theorem obj_ren (d d' u : Nat) : (ts.ren d d').obj u = if u = d' then ts.obj d else if u = d then .dead else ts.obj u := rfl
@[go_sem] theorem keepL_nil (a b : TS) : keepL a b [] = True := rfl
@[go_sem] theorem keepL_cons (a b : TS) (t : Nat) (r : List Nat) : keepL a b (t :: r) = (a.tmp t = b.tmp t ∧ a.gen t = b.gen t ∧ a.obj t = b.obj t ∧ keepL a b r) := rfl
@[go_sem] theorem Keeps_eq (keep : List Nat) (a b : TS) : Keeps keep a b = (a.n = b.n ∧ keepL a b keep) := rfl
@[go_sem] theorem wOps_nil : wOps T all [] K ts = K ts := rfl
@[go_sem] theorem wOps_cons : wOps T all (o :: l) K ts = wG T all o (wOps T all l K) ts := rfl
@[go_sem] theorem wG_none (op : Op) : wG T all ⟨dst, op, ty, pos, after, none⟩ K ts = opK T ⟨dst, op, ty, pos, after, none⟩ ts K := rfl
@[go_sem] theorem wG_some (op : Op) (j : Nat) (want : Bool) : wG T all ⟨dst, op, ty, pos, after, some (j, want)⟩ K ts = gK (gvalL ts all j) want (opKt T ⟨dst, op, ty, pos, after, some (j, want)⟩ K) (skipK dst K) ts := rfl
@[go_sem] theorem opKt_eq : opKt T o K ts = opK T o ts K := rfl
@[go_sem] theorem gvalL_zero (d : Nat) (op : Op) : gvalL ts (⟨some d, op, ty, pos, after, g⟩ :: l) 0 = ts.tmp d := rfl
@[go_sem] theorem gvalL_succ (j : Nat) : gvalL ts (o :: l) (j + 1) = gvalL ts l j := rfl
@[go_sem] theorem gK_tt (A B : TS → Prop) : gK (.bool true) true A B ts = A ts := by simp [gK]
@[go_sem] theorem gK_ff (A B : TS → Prop) : gK (.bool false) false A B ts = A ts := by simp [gK]
@[go_sem] theorem gK_tf (A B : TS → Prop) : gK (.bool true) false A B ts = B ts := by simp [gK]
@[go_sem] theorem gK_ft (A B : TS → Prop) : gK (.bool false) true A B ts = B ts := by simp [gK]
@[go_sem] theorem gK_skip (w : Bool) (A B : TS → Prop) : gK (.tup []) w A B ts = B ts := rfl
@[go_sem] theorem condK_t (A B : Prop) : condK (.bool true) A B = A := by simp [condK]
@[go_sem] theorem condK_f (A B : Prop) : condK (.bool false) A B = B := by simp [condK]
@[go_sem] theorem skipK_some (d : Nat) : skipK (some d) K ts = (d < ts.n ∧ K (ts.put d (.tup []))) := rfl
@[go_sem] theorem skipK_none : skipK none K ts = K ts := rfl
@[go_sem] theorem wDraw_nil : wDraw T all [] l K ts = wOps T all l K ts := rfl
@[go_sem] theorem wDraw_cons : wDraw T all ((wr, bad) :: r) (o :: l) K ts = (wGp T all o (wDraw T all r l K) ts ∧ (opndOk bad ts (opsL o) = true ∧ tgtOk wr ts o = true)) := rfl
@[go_sem] theorem opndOk_nil : opndOk bad ts [] = true := rfl
@[go_sem] theorem opndOk_tmp (t : Nat) (xs : List Operand) : opndOk bad ts (.tmp t :: xs) = (vOk bad (ts.tmp t) && opndOk bad ts xs) := rfl
@[go_sem] theorem opndOk_const (v : Value) (xs : List Operand) : opndOk bad ts (.const v :: xs) = opndOk bad ts xs := rfl
@[go_sem] theorem opndOk_func (f : Nat) (xs : List Operand) : opndOk bad ts (.func f :: xs) = opndOk bad ts xs := rfl
@[go_sem] theorem opsL_move (x : Operand) : opsL ⟨dst, .move x, ty, pos, after, g⟩ = [x] := rfl
@[go_sem] theorem tgtOk_move (x : Operand) : tgtOk wr ts ⟨dst, .move x, ty, pos, after, g⟩ = true := rfl
@[go_sem] theorem opsL_assign (x : Operand) : opsL ⟨dst, .assign x, ty, pos, after, g⟩ = [x] := rfl
@[go_sem] theorem tgtOk_assign (x : Operand) : tgtOk wr ts ⟨dst, .assign x, ty, pos, after, g⟩ = true := rfl
@[go_sem] theorem opsL_pick (c x y : Operand) : opsL ⟨dst, .pick c x y, ty, pos, after, g⟩ = [c, x, y] := rfl
@[go_sem] theorem tgtOk_pick (c x y : Operand) : tgtOk wr ts ⟨dst, .pick c x y, ty, pos, after, g⟩ = true := rfl
@[go_sem] theorem opsL_alloc (t : TypeId) : opsL ⟨dst, .alloc t, ty, pos, after, g⟩ = [] := rfl
@[go_sem] theorem tgtOk_alloc (t : TypeId) : tgtOk wr ts ⟨dst, .alloc t, ty, pos, after, g⟩ = true := rfl
@[go_sem] theorem opsL_box (t : TypeId) (x : Operand) : opsL ⟨dst, .box t x, ty, pos, after, g⟩ = [x] := rfl
@[go_sem] theorem tgtOk_box (t : TypeId) (x : Operand) : tgtOk wr ts ⟨dst, .box t x, ty, pos, after, g⟩ = true := rfl
@[go_sem] theorem opsL_load (t : TypeId) (x : Operand) : opsL ⟨dst, .load t x, ty, pos, after, g⟩ = [x] := rfl
@[go_sem] theorem tgtOk_load (t : TypeId) (x : Operand) : tgtOk wr ts ⟨dst, .load t x, ty, pos, after, g⟩ = true := rfl
@[go_sem] theorem opsL_field (t : TypeId) (x : Operand) (f : Nat) : opsL ⟨dst, .field t x f, ty, pos, after, g⟩ = [x] := rfl
@[go_sem] theorem tgtOk_field (t : TypeId) (x : Operand) (f : Nat) : tgtOk wr ts ⟨dst, .field t x f, ty, pos, after, g⟩ = true := rfl
@[go_sem] theorem opsL_fieldAddr (t : TypeId) (x : Operand) (f : Nat) : opsL ⟨dst, .fieldAddr t x f, ty, pos, after, g⟩ = [x] := rfl
@[go_sem] theorem tgtOk_fieldAddr (t : TypeId) (x : Operand) (f : Nat) : tgtOk wr ts ⟨dst, .fieldAddr t x f, ty, pos, after, g⟩ = true := rfl
@[go_sem] theorem opsL_indexAddr (t : TypeId) (x y : Operand) : opsL ⟨dst, .indexAddr t x y, ty, pos, after, g⟩ = [x, y] := rfl
@[go_sem] theorem tgtOk_indexAddr (t : TypeId) (x y : Operand) : tgtOk wr ts ⟨dst, .indexAddr t x y, ty, pos, after, g⟩ = true := rfl
@[go_sem] theorem opsL_index (t : TypeId) (x y : Operand) : opsL ⟨dst, .index t x y, ty, pos, after, g⟩ = [x, y] := rfl
@[go_sem] theorem tgtOk_index (t : TypeId) (x y : Operand) : tgtOk wr ts ⟨dst, .index t x y, ty, pos, after, g⟩ = true := rfl
@[go_sem] theorem opsL_bin (b : BinOp) (t u : TypeId) (x y : Operand) : opsL ⟨dst, .binOp b t x y u, ty, pos, after, g⟩ = [x, y] := rfl
@[go_sem] theorem tgtOk_bin (b : BinOp) (t u : TypeId) (x y : Operand) : tgtOk wr ts ⟨dst, .binOp b t x y u, ty, pos, after, g⟩ = true := rfl
@[go_sem] theorem opsL_un (b : UnOp) (t : TypeId) (x : Operand) : opsL ⟨dst, .unOp b t x, ty, pos, after, g⟩ = [x] := rfl
@[go_sem] theorem tgtOk_un (b : UnOp) (t : TypeId) (x : Operand) : tgtOk wr ts ⟨dst, .unOp b t x, ty, pos, after, g⟩ = true := rfl
@[go_sem] theorem opsL_makeFunc (fn : Fn) (l r : List Operand) : opsL ⟨dst, .makeFunc fn (List.toArray l) (List.toArray r), ty, pos, after, g⟩ = l ++ r := by simp [opsL, Op.operands]
@[go_sem] theorem tgtOk_makeFunc (fn : Fn) (l r : Array Operand) : tgtOk wr ts ⟨dst, .makeFunc fn l r, ty, pos, after, g⟩ = true := rfl
@[go_sem] theorem opsL_nilCheck (x : Operand) : opsL ⟨dst, .nilCheck x, ty, pos, after, g⟩ = [x] := rfl
@[go_sem] theorem tgtOk_nilCheck (x : Operand) : tgtOk wr ts ⟨dst, .nilCheck x, ty, pos, after, g⟩ = true := rfl
@[go_sem] theorem opsL_extract (x : Operand) (i : Nat) : opsL ⟨dst, .extract x i, ty, pos, after, g⟩ = [x] := rfl
@[go_sem] theorem tgtOk_extract (x : Operand) (i : Nat) : tgtOk wr ts ⟨dst, .extract x i, ty, pos, after, g⟩ = true := rfl
@[go_sem] theorem opsL_slice0 (t : TypeId) (x : Operand) : opsL ⟨dst, .slice t x none none none, ty, pos, after, g⟩ = [x] := rfl
@[go_sem] theorem tgtOk_slice0 (t : TypeId) (x : Operand) : tgtOk wr ts ⟨dst, .slice t x none none none, ty, pos, after, g⟩ = true := rfl
@[go_sem] theorem opsL_slice1 (t : TypeId) (x y : Operand) : opsL ⟨dst, .slice t x (some y) none none, ty, pos, after, g⟩ = [x, y] := rfl
@[go_sem] theorem tgtOk_slice1 (t : TypeId) (x y : Operand) : tgtOk wr ts ⟨dst, .slice t x (some y) none none, ty, pos, after, g⟩ = true := rfl
@[go_sem] theorem opsL_slice2 (t : TypeId) (x y : Operand) : opsL ⟨dst, .slice t x none (some y) none, ty, pos, after, g⟩ = [x, y] := rfl
@[go_sem] theorem tgtOk_slice2 (t : TypeId) (x y : Operand) : tgtOk wr ts ⟨dst, .slice t x none (some y) none, ty, pos, after, g⟩ = true := rfl
@[go_sem] theorem opsL_slice3 (t : TypeId) (x y z : Operand) : opsL ⟨dst, .slice t x (some y) (some z) none, ty, pos, after, g⟩ = [x, y, z] := rfl
@[go_sem] theorem tgtOk_slice3 (t : TypeId) (x y z : Operand) : tgtOk wr ts ⟨dst, .slice t x (some y) (some z) none, ty, pos, after, g⟩ = true := rfl
@[go_sem] theorem opsL_slice4 (t : TypeId) (x y z u : Operand) : opsL ⟨dst, .slice t x (some y) (some z) (some u), ty, pos, after, g⟩ = [x, y, z, u] := rfl
@[go_sem] theorem tgtOk_slice4 (t : TypeId) (x y z u : Operand) : tgtOk wr ts ⟨dst, .slice t x (some y) (some z) (some u), ty, pos, after, g⟩ = true := rfl
@[go_sem] theorem opsL_slice5 (t : TypeId) (x z u : Operand) : opsL ⟨dst, .slice t x none (some z) (some u), ty, pos, after, g⟩ = [x, z, u] := rfl
@[go_sem] theorem tgtOk_slice5 (t : TypeId) (x z u : Operand) : tgtOk wr ts ⟨dst, .slice t x none (some z) (some u), ty, pos, after, g⟩ = true := rfl
@[go_sem] theorem opsL_call (f : Operand) (xs : List Operand) (ats : Array TypeId) : opsL ⟨dst, .call ⟨.value f, List.toArray xs, ats⟩, ty, pos, after, g⟩ = (f :: xs) := by simp [opsL, Op.operands, Call.operands]
@[go_sem] theorem tgtOk_call (f : Operand) (xs : List Operand) (ats : Array TypeId) : tgtOk wr ts ⟨dst, .call ⟨.value f, List.toArray xs, ats⟩, ty, pos, after, g⟩ = true := rfl
@[go_sem] theorem opsL_len (b : Builtin) (xs : List Operand) (ats : Array TypeId) : opsL ⟨dst, .call ⟨.builtin b, List.toArray xs, ats⟩, ty, pos, after, g⟩ = xs := by simp [opsL, Op.operands, Call.operands]
@[go_sem] theorem tgtOk_len (xs : List Operand) (ats : Array TypeId) : tgtOk wr ts ⟨dst, .call ⟨.builtin .len, List.toArray xs, ats⟩, ty, pos, after, g⟩ = true := rfl
@[go_sem] theorem tgtOk_max (xs : List Operand) (ats : Array TypeId) : tgtOk wr ts ⟨dst, .call ⟨.builtin .max, List.toArray xs, ats⟩, ty, pos, after, g⟩ = true := rfl
@[go_sem] theorem tgtOk_min (xs : List Operand) (ats : Array TypeId) : tgtOk wr ts ⟨dst, .call ⟨.builtin .min, List.toArray xs, ats⟩, ty, pos, after, g⟩ = true := rfl
@[go_sem] theorem tgtOk_append (s x : Operand) (ats : Array TypeId) : tgtOk wr ts ⟨dst, .call ⟨.builtin .append, List.toArray [s, x], ats⟩, ty, pos, after, g⟩ = tgtA wr (ts.ev s) := rfl
@[go_sem] theorem tgtA_os (d q n : Nat) : tgtA wr (.os d q n) = wr.contains d := rfl
@[go_sem] theorem tgtA_nil (c : Bool) (xs : List AV) : tgtA wr (.slice c xs) = true := rfl
@[go_sem] theorem opsL_build (t : TypeId) (ps : List (Nat × Operand)) : opsL ⟨dst, .build t (List.toArray ps), ty, pos, after, g⟩ = (ps.map (·.2)) := by simp [opsL, Op.operands, Call.operands]
@[go_sem] theorem tgtOk_build (t : TypeId) (ps : List (Nat × Operand)) : tgtOk wr ts ⟨dst, .build t (List.toArray ps), ty, pos, after, g⟩ = true := rfl
@[go_sem] theorem opsL_buildSlice (t : TypeId) (n : Nat) (ps : List (Nat × Operand)) : opsL ⟨dst, .buildSlice t n (List.toArray ps), ty, pos, after, g⟩ = (ps.map (·.2)) := by simp [opsL, Op.operands, Call.operands]
@[go_sem] theorem tgtOk_buildSlice (t : TypeId) (n : Nat) (ps : List (Nat × Operand)) : tgtOk wr ts ⟨dst, .buildSlice t n (List.toArray ps), ty, pos, after, g⟩ = true := rfl
@[go_sem] theorem opsL_store (t : TypeId) (x y : Operand) : opsL ⟨dst, .store t x y, ty, pos, after, g⟩ = [x, y] := rfl
@[go_sem] theorem tgtOk_store (t : TypeId) (x y : Operand) : tgtOk wr ts ⟨dst, .store t x y, ty, pos, after, g⟩ = tgtV wr (ts.ev x) := rfl
@[go_sem] theorem opsL_lookup (t : TypeId) (x k : Operand) (ok : Bool) : opsL ⟨dst, .lookup t x k ok, ty, pos, after, g⟩ = [x, k] := rfl
@[go_sem] theorem tgtOk_lookup (t : TypeId) (x k : Operand) (ok : Bool) : tgtOk wr ts ⟨dst, .lookup t x k ok, ty, pos, after, g⟩ = true := rfl
@[go_sem] theorem opsL_makeMap (t : TypeId) : opsL ⟨dst, .makeMap t none, ty, pos, after, g⟩ = [] := rfl
@[go_sem] theorem tgtOk_makeMap (t : TypeId) : tgtOk wr ts ⟨dst, .makeMap t none, ty, pos, after, g⟩ = true := rfl
@[go_sem] theorem opsL_mapUpdate (t : TypeId) (m k x : Operand) : opsL ⟨dst, .mapUpdate t m k x, ty, pos, after, g⟩ = [m, k, x] := rfl
@[go_sem] theorem tgtOk_mapUpdate (t : TypeId) (m k x : Operand) : tgtOk wr ts ⟨dst, .mapUpdate t m k x, ty, pos, after, g⟩ = tgtM wr (ts.ev m) := rfl
@[go_sem] theorem opsL_mapEntry (t : TypeId) (m k : Operand) : opsL ⟨dst, .mapEntry t m k, ty, pos, after, g⟩ = [m, k] := rfl
@[go_sem] theorem tgtOk_mapEntry (t : TypeId) (m k : Operand) : tgtOk wr ts ⟨dst, .mapEntry t m k, ty, pos, after, g⟩ = tgtM wr (ts.ev m) := rfl
@[go_sem] theorem opKp_mapEntry (t : TypeId) (m k : Operand) : opKp T ⟨dst, .mapEntry t m k, ty, pos, after, g⟩ ts K = opK T ⟨dst, .mapEntry t m k, ty, pos, after, g⟩ ts K := rfl
@[go_sem] theorem opsL_entryStore (t : TypeId) (m s x : Operand) : opsL ⟨dst, .entryStore t m s x, ty, pos, after, g⟩ = [m, s, x] := rfl
@[go_sem] theorem tgtOk_entryStore (t : TypeId) (m s x : Operand) : tgtOk wr ts ⟨dst, .entryStore t m s x, ty, pos, after, g⟩ = tgtM wr (ts.ev m) := rfl
@[go_sem] theorem opKp_entryStore (t : TypeId) (m s x : Operand) : opKp T ⟨dst, .entryStore t m s x, ty, pos, after, g⟩ ts K = opK T ⟨dst, .entryStore t m s x, ty, pos, after, g⟩ ts K := rfl
@[go_sem] theorem tgtM_mref (d q : Nat) : tgtM wr (.mref d q) = wr.contains d := rfl
@[go_sem] theorem opKp_lookup (t : TypeId) (x k : Operand) (ok : Bool) : opKp T ⟨dst, .lookup t x k ok, ty, pos, after, g⟩ ts K = opK T ⟨dst, .lookup t x k ok, ty, pos, after, g⟩ ts K := rfl
@[go_sem] theorem opKp_makeMap (t : TypeId) (r : Option Operand) : opKp T ⟨dst, .makeMap t r, ty, pos, after, g⟩ ts K = opK T ⟨dst, .makeMap t r, ty, pos, after, g⟩ ts K := rfl
@[go_sem] theorem opKp_mapUpdate (t : TypeId) (m k x : Operand) : opKp T ⟨dst, .mapUpdate t m k x, ty, pos, after, g⟩ ts K = opK T ⟨dst, .mapUpdate t m k x, ty, pos, after, g⟩ ts K := rfl
@[go_sem] theorem boxQ (cs : List AV) : (Ob.box cs).box? = some cs := rfl
@[go_sem] theorem vOk_ot (d q o n : Nat) : vOk bad (.ot d q o n) = !bad.contains d := rfl
@[go_sem] theorem wGp_none (op : Op) : wGp T all ⟨dst, op, ty, pos, after, none⟩ K ts = opKp T ⟨dst, op, ty, pos, after, none⟩ ts K := rfl
@[go_sem] theorem wGp_some (op : Op) (j : Nat) (want : Bool) : wGp T all ⟨dst, op, ty, pos, after, some (j, want)⟩ K ts = gK (gvalL ts all j) want (opKpt T ⟨dst, op, ty, pos, after, some (j, want)⟩ K) (skipK dst K) ts := rfl
@[go_sem] theorem opKpt_eq : opKpt T o K ts = opKp T o ts K := rfl
@[go_sem] theorem opKp_call (f : Operand) (xs : Array Operand) (at_ : Array TypeId) : opKp T ⟨dst, .call ⟨.value f, xs, at_⟩, ty, pos, after, g⟩ ts K = callW false P (ts.ev f) (xs.toList.map ts.ev) dst ts K := rfl
@[go_sem] theorem opKp_move (x : Operand) : opKp T ⟨dst, .move x, ty, pos, after, g⟩ ts K = opK T ⟨dst, .move x, ty, pos, after, g⟩ ts K := rfl
@[go_sem] theorem opKp_assign (x : Operand) : opKp T ⟨dst, .assign x, ty, pos, after, g⟩ ts K = opK T ⟨dst, .assign x, ty, pos, after, g⟩ ts K := rfl
@[go_sem] theorem opKp_pick (c x y : Operand) : opKp T ⟨dst, .pick c x y, ty, pos, after, g⟩ ts K = opK T ⟨dst, .pick c x y, ty, pos, after, g⟩ ts K := rfl
@[go_sem] theorem opKp_alloc (t : TypeId) : opKp T ⟨dst, .alloc t, ty, pos, after, g⟩ ts K = opK T ⟨dst, .alloc t, ty, pos, after, g⟩ ts K := rfl
@[go_sem] theorem opKp_box (t : TypeId) (x : Operand) : opKp T ⟨dst, .box t x, ty, pos, after, g⟩ ts K = opK T ⟨dst, .box t x, ty, pos, after, g⟩ ts K := rfl
@[go_sem] theorem opKp_load (t : TypeId) (x : Operand) : opKp T ⟨dst, .load t x, ty, pos, after, g⟩ ts K = opK T ⟨dst, .load t x, ty, pos, after, g⟩ ts K := rfl
@[go_sem] theorem opKp_store (t : TypeId) (x y : Operand) : opKp T ⟨dst, .store t x y, ty, pos, after, g⟩ ts K = opK T ⟨dst, .store t x y, ty, pos, after, g⟩ ts K := rfl
@[go_sem] theorem opKp_field (t : TypeId) (x : Operand) (f : Nat) : opKp T ⟨dst, .field t x f, ty, pos, after, g⟩ ts K = opK T ⟨dst, .field t x f, ty, pos, after, g⟩ ts K := rfl
@[go_sem] theorem opKp_fieldAddr (t : TypeId) (x : Operand) (f : Nat) : opKp T ⟨dst, .fieldAddr t x f, ty, pos, after, g⟩ ts K = opK T ⟨dst, .fieldAddr t x f, ty, pos, after, g⟩ ts K := rfl
@[go_sem] theorem opKp_indexAddr (t : TypeId) (x y : Operand) : opKp T ⟨dst, .indexAddr t x y, ty, pos, after, g⟩ ts K = opK T ⟨dst, .indexAddr t x y, ty, pos, after, g⟩ ts K := rfl
@[go_sem] theorem opKp_index (t : TypeId) (x y : Operand) : opKp T ⟨dst, .index t x y, ty, pos, after, g⟩ ts K = opK T ⟨dst, .index t x y, ty, pos, after, g⟩ ts K := rfl
@[go_sem] theorem opKp_bin (b : BinOp) (t u : TypeId) (x y : Operand) : opKp T ⟨dst, .binOp b t x y u, ty, pos, after, g⟩ ts K = opK T ⟨dst, .binOp b t x y u, ty, pos, after, g⟩ ts K := rfl
@[go_sem] theorem opKp_un (b : UnOp) (t : TypeId) (x : Operand) : opKp T ⟨dst, .unOp b t x, ty, pos, after, g⟩ ts K = opK T ⟨dst, .unOp b t x, ty, pos, after, g⟩ ts K := rfl
@[go_sem] theorem opKp_makeFunc (fn : Fn) (l r : Array Operand) : opKp T ⟨dst, .makeFunc fn l r, ty, pos, after, g⟩ ts K = (T.fzD dst = true ∧ funcK true ts dst fn l.toList r.toList K) := rfl
@[go_sem] theorem opKp_nilCheck (x : Operand) : opKp T ⟨dst, .nilCheck x, ty, pos, after, g⟩ ts K = opK T ⟨dst, .nilCheck x, ty, pos, after, g⟩ ts K := rfl
@[go_sem] theorem opKp_extract (x : Operand) (i : Nat) : opKp T ⟨dst, .extract x i, ty, pos, after, g⟩ ts K = opK T ⟨dst, .extract x i, ty, pos, after, g⟩ ts K := rfl
@[go_sem] theorem opKp_slice (t : TypeId) (x : Operand) (lo hi mx : Option Operand) : opKp T ⟨dst, .slice t x lo hi mx, ty, pos, after, g⟩ ts K = opK T ⟨dst, .slice t x lo hi mx, ty, pos, after, g⟩ ts K := rfl
@[go_sem] theorem opKp_len (b : Builtin) (xs : Array Operand) (ats : Array TypeId) : opKp T ⟨dst, .call ⟨.builtin b, xs, ats⟩, ty, pos, after, g⟩ ts K = opK T ⟨dst, .call ⟨.builtin b, xs, ats⟩, ty, pos, after, g⟩ ts K := rfl
@[go_sem] theorem opKp_build (t : TypeId) (ps : Array (Nat × Operand)) : opKp T ⟨dst, .build t ps, ty, pos, after, g⟩ ts K = opK T ⟨dst, .build t ps, ty, pos, after, g⟩ ts K := rfl
@[go_sem] theorem opKp_buildSlice (t : TypeId) (n : Nat) (ps : Array (Nat × Operand)) : opKp T ⟨dst, .buildSlice t n ps, ty, pos, after, g⟩ ts K = opK T ⟨dst, .buildSlice t n ps, ty, pos, after, g⟩ ts K := rfl
@[go_sem] theorem tgtV_ref (d q off : Nat) : tgtV wr (.ref d q off) = wr.contains d := rfl
@[go_sem] theorem tgtV_eref (d q i off : Nat) : tgtV wr (.eref d q i off) = wr.contains d := rfl
@[go_sem] theorem vOk_mref (d q : Nat) : vOk bad (.mref d q) = !bad.contains d := rfl
@[go_sem] theorem vOk_mp (a b : List AV) : vOk bad (.mp a b) = true := rfl
@[go_sem] theorem vOk_os (d q n : Nat) : vOk bad (.os d q n) = !bad.contains d := rfl
@[go_sem] theorem vOk_ref (d q n : Nat) : vOk bad (.ref d q n) = !bad.contains d := rfl
@[go_sem] theorem vOk_eref (d q i n : Nat) : vOk bad (.eref d q i n) = !bad.contains d := rfl
@[go_sem] theorem vOk_agg (cs : List AV) : vOk bad (.agg cs) = vOk.vOkL bad cs := rfl
@[go_sem] theorem vOk_tup (cs : List AV) : vOk bad (.tup cs) = vOk.vOkL bad cs := rfl
@[go_sem] theorem vOk_clo (fn : Fn) (a b : List AV) : vOk bad (.clo fn a b) = (vOk.vOkL bad a && vOk.vOkL bad b) := rfl
@[go_sem] theorem vOk_int (k : IntKind) (n : Int) : vOk bad (.int k n) = true := rfl
@[go_sem] theorem vOk_bool (b : Bool) : vOk bad (.bool b) = true := rfl
@[go_sem] theorem vOk_str (s : List UInt8) : vOk bad (.str s) = true := rfl
@[go_sem] theorem vOk_slice (c : Bool) (xs : List AV) : vOk bad (.slice c xs) = true := rfl
@[go_sem] theorem vOk_ro (xs : List AV) : vOk bad (.ro xs) = true := rfl
@[go_sem] theorem vOk_nilp : vOk bad .nilp = true := rfl
@[go_sem] theorem vOk_nilf : vOk bad .nilf = true := rfl
@[go_sem] theorem vOk_nilm : vOk bad .nilm = true := rfl
@[go_sem] theorem vOk_niface : vOk bad .niface = true := rfl
@[go_sem] theorem vOkL_nl : vOk.vOkL bad [] = true := rfl
@[go_sem] theorem vOkL_cons (x : AV) (xs : List AV) : vOk.vOkL bad (x :: xs) = (vOk bad x && vOk.vOkL bad xs) := rfl
@[go_sem] theorem endK_normal (R : TS → Prop) : endK R .normal ts = R ts := rfl
@[go_sem] theorem endK_ret (R : TS → Prop) : endK R .ret ts = R ts := rfl
@[go_sem] theorem EndX_val (rs : List ResultVar) (z : AV) : EndX T rs (.val z) ts = optK (ts.result T rs) fun x => optK (x.res ts) fun y => y.nrm = z := rfl
@[go_sem] theorem EndX_own (rs : List ResultVar) (sz : Nat) (zs : List AV) : EndX T rs (.own sz zs) ts = (oneRes ts rs = true ∧ optK (ts.result T rs) fun x => ownX ts x sz zs) := rfl
@[go_sem] theorem oneRes_tmp (t : Nat) : oneRes ts [.tmp t] = true := rfl
@[go_sem] theorem oneRes_cell (a t : Nat) : oneRes ts [.cell a t] = (match ts.tmp a with | .ref .. => true | _ => false) := rfl
@[go_sem] theorem ownX_os (d q len sz : Nat) (zs : List AV) : ownX ts (.os d q len) sz zs = (q = ts.gen d ∧ optK (ts.obj d).arr? fun q => q.1 = sz ∧ len ≤ q.2.length ∧ AV.pure.pureL (q.2.take len) = true ∧ AV.nrm.nrmL (q.2.take len) = zs) := rfl
@[go_sem] theorem ownX_nil (sz : Nat) (zs : List AV) : ownX ts (.slice true []) sz zs = (0 < sz ∧ [] = zs) := rfl
@[go_sem] theorem retflat_val (x : AV) : Ret.flat (.val x) = x.flat := rfl
@[go_sem] theorem retflat_own (sz : Nat) (xs : List AV) : Ret.flat (.own sz xs) = AV.flat.flatL xs := rfl
end
section
variable (d g H : Nat)
@[go_sem] theorem renML_nil : AV.renM.renML d g H [] = [] := rfl
@[go_sem] theorem renML_cons (x : AV) (r : List AV) : AV.renM.renML d g H (x :: r) = x.renM d g H :: AV.renM.renML d g H r := rfl
@[go_sem] theorem renM_agg (cs : List AV) : (AV.agg cs).renM d g H = .agg (AV.renM.renML d g H cs) := rfl
@[go_sem] theorem renM_ro (cs : List AV) : (AV.ro cs).renM d g H = .ro (AV.renM.renML d g H cs) := rfl
@[go_sem] theorem renM_slice (c : Bool) (cs : List AV) : (AV.slice c cs).renM d g H = .slice c (AV.renM.renML d g H cs) := rfl
@[go_sem] theorem renM_clo (fn : Fn) (a b : List AV) : (AV.clo fn a b).renM d g H = .clo fn (AV.renM.renML d g H a) (AV.renM.renML d g H b) := rfl
@[go_sem] theorem renM_mp (a b : List AV) : (AV.mp a b).renM d g H = .mp (AV.renM.renML d g H a) (AV.renM.renML d g H b) := rfl
@[go_sem] theorem renM_mref (e q : Nat) : (AV.mref e q).renM d g H = if e = d ∧ q = g then .mref H 0 else .mref e q := rfl
@[go_sem] theorem renM_int (k : IntKind) (n : Int) : (AV.int k n).renM d g H = .int k n := rfl
@[go_sem] theorem renM_bool (b : Bool) : (AV.bool b).renM d g H = .bool b := rfl
@[go_sem] theorem renM_str (s : List UInt8) : (AV.str s).renM d g H = .str s := rfl
@[go_sem] theorem renM_any : AV.any.renM d g H = .any := rfl
@[go_sem] theorem pureHL_nil : AV.pureH.pureHL d g [] = true := rfl
@[go_sem] theorem pureHL_cons (x : AV) (r : List AV) : AV.pureH.pureHL d g (x :: r) = (x.pureH d g && AV.pureH.pureHL d g r) := rfl
@[go_sem] theorem pureH_agg (cs : List AV) : (AV.agg cs).pureH d g = AV.pureH.pureHL d g cs := rfl
@[go_sem] theorem pureH_ro (cs : List AV) : (AV.ro cs).pureH d g = AV.pureH.pureHL d g cs := rfl
@[go_sem] theorem pureH_slice (c : Bool) (cs : List AV) : (AV.slice c cs).pureH d g = AV.pureH.pureHL d g cs := rfl
@[go_sem] theorem pureH_clo (fn : Fn) (a b : List AV) : (AV.clo fn a b).pureH d g = (AV.pureH.pureHL d g a && AV.pureH.pureHL d g b) := rfl
@[go_sem] theorem pureH_mp (a b : List AV) : (AV.mp a b).pureH d g = (AV.pureH.pureHL d g a && AV.pureH.pureHL d g b) := rfl
@[go_sem] theorem pureH_mref (e q : Nat) : (AV.mref e q).pureH d g = (e == d && q == g) := rfl
@[go_sem] theorem pureH_int (k : IntKind) (n : Int) : (AV.int k n).pureH d g = true := rfl
@[go_sem] theorem pureH_bool (b : Bool) : (AV.bool b).pureH d g = true := rfl
@[go_sem] theorem pureH_str (s : List UInt8) : (AV.str s).pureH d g = true := rfl
@[go_sem] theorem pureH_any : AV.any.pureH d g = true := rfl
mutual
theorem renM_of_pure : ∀ x : AV, x.pure = true → x.renM d g H = x
  | .agg cs, h => by simp only [AV.pure] at h; simp only [AV.renM, renML_of_pure cs h]
  | .tup cs, h => by simp only [AV.pure] at h; simp only [AV.renM, renML_of_pure cs h]
  | .slice _ cs, h => by simp only [AV.pure] at h; simp only [AV.renM, renML_of_pure cs h]
  | .ro cs, h => by simp only [AV.pure] at h; simp only [AV.renM, renML_of_pure cs h]
  | .clo _ a b, h => by simp only [AV.pure, Bool.and_eq_true] at h; simp only [AV.renM, renML_of_pure a h.1, renML_of_pure b h.2]
  | .mp a b, h => by simp only [AV.pure, Bool.and_eq_true] at h; simp only [AV.renM, renML_of_pure a h.1, renML_of_pure b h.2]
  | .iface _ x, h => by simp only [AV.pure] at h; simp only [AV.renM, renM_of_pure x h]
  | .mref _ _, h => by simp [AV.pure] at h
  | .any, _ | .bool _, _ | .int _ _, _ | .str _, _ | .nilp, _ | .nilf, _ | .nilm, _ | .niface, _ | .ref _ _ _, _ | .eref _ _ _ _, _ | .ot _ _ _ _, _ | .os _ _ _, _ => rfl
theorem renML_of_pure : ∀ l : List AV, AV.pure.pureL l = true → AV.renM.renML d g H l = l
  | [], _ => rfl
  | x :: r, h => by
    simp only [AV.pure.pureL, Bool.and_eq_true] at h
    simp only [AV.renM.renML, renM_of_pure x h.1, renML_of_pure r h.2]
end
mutual
theorem pureH_of_pure : ∀ x : AV, x.pure = true → x.pureH d g = true
  | .agg cs, h => by simp only [AV.pure] at h; simp only [AV.pureH, pureHL_of_pure cs h]
  | .tup cs, h => by simp only [AV.pure] at h; simp only [AV.pureH, pureHL_of_pure cs h]
  | .slice _ cs, h => by simp only [AV.pure] at h; simp only [AV.pureH, pureHL_of_pure cs h]
  | .ro cs, h => by simp only [AV.pure] at h; simp only [AV.pureH, pureHL_of_pure cs h]
  | .clo _ a b, h => by simp only [AV.pure, Bool.and_eq_true] at h; simp only [AV.pureH, pureHL_of_pure a h.1, pureHL_of_pure b h.2, Bool.and_self]
  | .mp a b, h => by simp only [AV.pure, Bool.and_eq_true] at h; simp only [AV.pureH, pureHL_of_pure a h.1, pureHL_of_pure b h.2, Bool.and_self]
  | .iface _ x, h => by simp only [AV.pure] at h; simp only [AV.pureH, pureH_of_pure x h]
  | .mref _ _, h | .ref _ _ _, h | .eref _ _ _ _, h | .ot _ _ _ _, h | .os _ _ _, h => by simp [AV.pure] at h
  | .any, _ | .bool _, _ | .int _ _, _ | .str _, _ | .nilp, _ | .nilf, _ | .nilm, _ | .niface, _ => rfl
theorem pureHL_of_pure : ∀ l : List AV, AV.pure.pureL l = true → AV.pureH.pureHL d g l = true
  | [], _ => rfl
  | x :: r, h => by
    simp only [AV.pure.pureL, Bool.and_eq_true] at h
    simp only [AV.pureH.pureHL, pureH_of_pure x h.1, pureHL_of_pure r h.2, Bool.and_self]
end
@[go_sem] theorem renML_avs {α : Type} [Dat α] (l : List α) : AV.renM.renML d g H (avs l) = avs l := renML_of_pure d g H _ (pureL_map l)
@[go_sem] theorem pureHL_avs {α : Type} [Dat α] (l : List α) : AV.pureH.pureHL d g (avs l) = true := pureHL_of_pure d g _ (pureL_map l)
variable {P : Program} (T : Tys P) (ts : TS)
@[go_sem] theorem EndH_eq (rs : List ResultVar) (x : AV) (ks vs : List AV) : EndH T rs H x ks vs ts = (optK (ts.result T rs) (fun y => y = x) ∧ x.pure = true ∧ ts.gen H = 0 ∧ ts.obj H = .mp ks vs ∧ AV.pure.pureL ks = true ∧ AV.pure.pureL vs = true) := by
  have e : EndH.optK0 (ts.result T rs) (fun y => y = x) = optK (ts.result T rs) (fun y => y = x) := by
    unfold EndH.optK0 optK
    cases ts.result T rs <;> simp
  unfold EndH; rw [e]
end
@[go_sem] theorem take_set_len {α : Type} (l : List α) (i : Nat) (x : α) : (l.set i x).take l.length = l.set i x := List.take_of_length_le (by simp)
theorem clr_length {xs : List AV} {off len : Nat} {z : AV} (h : off + len ≤ xs.length) : (clrL xs off len z).length = xs.length := by
  simp only [clrL, List.length_append, List.length_take, List.length_replicate, List.length_drop]; omega
@[go_sem] theorem clr_take (xs : List AV) (off len : Nat) (z : AV) (h : off ≤ xs.length) : (clrL xs off len z).take off = xs.take off := by
  simp only [clrL, List.append_assoc]
  rw [List.take_append_of_le_length (by rw [List.length_take]; omega), List.take_take, Nat.min_self]
@[go_sem] theorem clr_le (xs : List AV) (off len n : Nat) (z : AV) (h : off + len ≤ xs.length) : (n ≤ (clrL xs off len z).length) = (n ≤ xs.length) := by rw [clr_length h]
mutual
theorem owns_of_pure : ∀ x : AV, x.pure = true → x.owns = []
  | .agg cs, h => by simp only [AV.pure] at h; simp only [AV.owns]; exact ownsL_of_pure cs h
  | .tup cs, h => by simp only [AV.pure] at h; simp only [AV.owns]; exact ownsL_of_pure cs h
  | .os _ _ _, h => by simp [AV.pure] at h
  | .mref _ _, h => by simp [AV.pure] at h
  | .mp _ _, _ => rfl
  | .any, _ | .bool _, _ | .int _ _, _ | .str _, _ | .slice _ _, _ | .ro _, _ | .nilp, _ | .clo _ _ _, _ | .nilf, _ | .nilm, _ | .niface, _ | .iface _ _, _ | .ref _ _ _, _ | .eref _ _ _ _, _ | .ot _ _ _ _, _ => rfl
theorem ownsL_of_pure : ∀ l : List AV, AV.pure.pureL l = true → AV.owns.ownsL l = []
  | [], _ => rfl
  | x :: r, h => by
    simp only [AV.pure.pureL, Bool.and_eq_true] at h
    simp only [AV.owns.ownsL, owns_of_pure x h.1, ownsL_of_pure r h.2, List.append_nil]
end
structure Caps (caps : List AV) : Prop where
  pure : AV.pure.pureL caps = true
  nrm : AV.nrm.nrmL caps = caps
theorem Caps.args {caps : List AV} (h : Caps caps) (ts : TS) : ts.toArgs caps = some (caps, []) := by
  obtain ⟨h1, h2⟩ := h
  induction caps with
  | nil => rfl
  | cons x r ih =>
    simp only [AV.pure.pureL, Bool.and_eq_true] at h1
    simp only [AV.nrm.nrmL, List.cons.injEq] at h2
    simp only [TS.toArgs, res_of_pure ts x h1.1, ih h1.2 h2.2, h2.1, owns_of_pure x h1.1, List.append_nil]
theorem Caps.nil : Caps [] := ⟨rfl, rfl⟩
attribute [go_sem] thenK_normal thenK_ret thenK_exit thenK_goto inBlockK_normal inBlockK_ret inBlockK_exit inBlockK_goto
attribute [go_sem] AV.bool.injEq AV.int.injEq AV.str.injEq AV.agg.injEq AV.tup.injEq AV.slice.injEq List.cons.injEq
attribute [go_sem] Nat.lt_add_one true_and and_true ne_eq not_false_eq_true not_true_eq_false and_self List.map_cons List.map_nil List.length_cons List.length_nil List.drop_zero List.drop_succ_cons List.drop_nil List.take_succ_cons List.take_zero List.take_nil
attribute [go_sem] List.getD_cons_zero List.getD_cons_succ List.getElem?_cons_zero List.getElem?_cons_succ List.nil_append List.cons_append List.append_nil List.all_cons List.all_nil Bool.and_self Bool.and_true Bool.true_and Bool.not_true Bool.not_false Bool.and_false Bool.false_and Bool.false_eq_true
attribute [go_sem] Option.map_some Option.isSome_some Option.isSome_none Option.isNone_none Option.isNone_some BEq.rfl beq_self_eq_true List.mem_cons List.not_mem_nil or_false or_self forall_eq_or_imp forall_eq implies_true false_implies Nat.zero_add Nat.add_zero Nat.zero_le Nat.zero_lt_succ Nat.le_refl
attribute [go_sem] List.isEmpty Int.toNat_natCast Int.ofNat_lt Int.ofNat_le Int.natCast_nonneg List.toList_toArray List.take_length Nat.sub_zero List.set_cons_zero List.set_cons_succ Option.some.injEq forall_eq' List.range List.range.loop List.set_nil List.length_set List.length_map List.contains_cons List.contains_nil
attribute [go_sem] List.length_drop List.length_append List.getElem_set_self
@[go_sem] theorem take_snoc_len {α : Type} (l : List α) (x : α) : (l ++ [x]).take (l.length + 1) = l ++ [x] := List.take_of_length_le (by simp)
attribute [go_sem] Bool.or_false Bool.false_or Bool.or_true Bool.true_or decide_true decide_false true_or or_true
end Go.Proofs.YtndnkbekhmndhaaGreatDoor.Lg

namespace Go.Proofs.YtndnkbekhmndhaaGreatDoor.Lg
open Go
set_option linter.unusedVariables false
set_option linter.unusedSimpArgs false
theorem infoOf {i : Nat} {ti : TypeInfo} (h : Tryz.prog.types[i]? = some ti) : Tryz.prog.info? i = some ti := by
  have hlt : i < Tryz.prog.types.size := (Array.getElem?_eq_some_iff.1 h).1
  simp only [Tables.info?, if_pos hlt, h]
def ty1 : TyI := ⟨.func, 1, 8, [.nilf]⟩
theorem tyOk1 : TyOk Tryz.prog 1 ty1 := .inr ⟨Tryz.t1, infoOf Tryz.type1, rfl, rfl, ⟨_, rfl, rfl, rfl⟩, _, Tryz.underlying1, rfl⟩
theorem tyZ1 : TyZ Tryz.prog 1 ty1 := .inr ⟨Tryz.t1, _, infoOf Tryz.type1, rfl, rfl⟩
def ty2 : TyI := ⟨.int .i64, 1, 8, [.int .i64 0]⟩
theorem tyOk2 : TyOk Tryz.prog 2 ty2 := .inr ⟨Tryz.t2, infoOf Tryz.type2, rfl, rfl, ⟨_, rfl, rfl, rfl⟩, _, Tryz.underlying2, rfl⟩
theorem tyZ2 : TyZ Tryz.prog 2 ty2 := .inr ⟨Tryz.t2, _, infoOf Tryz.type2, rfl, rfl⟩
def ty3 : TyI := ⟨.int .i64, 1, 8, [.int .i64 0]⟩
theorem tyOk3 : TyOk Tryz.prog 3 ty3 := .inr ⟨Tryz.t3, infoOf Tryz.type3, rfl, rfl, ⟨_, rfl, rfl, rfl⟩, _, Tryz.underlying3, rfl⟩
theorem tyZ3 : TyZ Tryz.prog 3 ty3 := .inr ⟨Tryz.t3, _, infoOf Tryz.type3, rfl, rfl⟩
def ty4 : TyI := ⟨.bool, 1, 1, [.bool false]⟩
theorem tyOk4 : TyOk Tryz.prog 4 ty4 := .inr ⟨Tryz.t4, infoOf Tryz.type4, rfl, rfl, ⟨_, rfl, rfl, rfl⟩, _, Tryz.underlying4, rfl⟩
theorem tyZ4 : TyZ Tryz.prog 4 ty4 := .inr ⟨Tryz.t4, _, infoOf Tryz.type4, rfl, rfl⟩
def ty5 : TyI := ⟨.int .u8, 1, 1, [.int .u8 0]⟩
theorem tyOk5 : TyOk Tryz.prog 5 ty5 := .inr ⟨Tryz.t5, infoOf Tryz.type5, rfl, rfl, ⟨_, rfl, rfl, rfl⟩, _, Tryz.underlying5, rfl⟩
theorem tyZ5 : TyZ Tryz.prog 5 ty5 := .inr ⟨Tryz.t5, _, infoOf Tryz.type5, rfl, rfl⟩
def ty6 : TyI := ⟨.int .u8, 1, 1, [.int .u8 0]⟩
theorem tyOk6 : TyOk Tryz.prog 6 ty6 := .inr ⟨Tryz.t6, infoOf Tryz.type6, rfl, rfl, ⟨_, rfl, rfl, rfl⟩, _, Tryz.underlying6, rfl⟩
theorem tyZ6 : TyZ Tryz.prog 6 ty6 := .inr ⟨Tryz.t6, _, infoOf Tryz.type6, rfl, rfl⟩
def ty7 : TyI := ⟨.struct [(0, 2, "x"), (1, 3, "y"), (2, 4, "signed"), (3, 6, "code")], 4, 24, [.int .i64 0, .int .i64 0, .bool false, .int .u8 0]⟩
theorem tyOk7 : TyOk Tryz.prog 7 ty7 := .inr ⟨Tryz.t7, infoOf Tryz.type7, rfl, rfl, ⟨_, rfl, rfl, rfl⟩, _, Tryz.underlying7, rfl⟩
theorem tyZ7 : TyZ Tryz.prog 7 ty7 := .inr ⟨Tryz.t7, _, infoOf Tryz.type7, rfl, rfl⟩
def ty8 : TyI := ⟨.struct [(0, 2, "x"), (1, 3, "y"), (2, 4, "signed"), (3, 6, "code")], 4, 24, [.int .i64 0, .int .i64 0, .bool false, .int .u8 0]⟩
theorem tyOk8 : TyOk Tryz.prog 8 ty8 := .inr ⟨Tryz.t8, infoOf Tryz.type8, rfl, rfl, ⟨_, rfl, rfl, rfl⟩, _, Tryz.underlying8, rfl⟩
theorem tyZ8 : TyZ Tryz.prog 8 ty8 := .inr ⟨Tryz.t8, _, infoOf Tryz.type8, rfl, rfl⟩
def ty9 : TyI := ⟨.str, 1, 16, [.str []]⟩
theorem tyOk9 : TyOk Tryz.prog 9 ty9 := .inr ⟨Tryz.t9, infoOf Tryz.type9, rfl, rfl, ⟨_, rfl, rfl, rfl⟩, _, Tryz.underlying9, rfl⟩
theorem tyZ9 : TyZ Tryz.prog 9 ty9 := .inr ⟨Tryz.t9, _, infoOf Tryz.type9, rfl, rfl⟩
def ty10 : TyI := ⟨.str, 1, 16, [.str []]⟩
theorem tyOk10 : TyOk Tryz.prog 10 ty10 := .inr ⟨Tryz.t10, infoOf Tryz.type10, rfl, rfl, ⟨_, rfl, rfl, rfl⟩, _, Tryz.underlying10, rfl⟩
theorem tyZ10 : TyZ Tryz.prog 10 ty10 := .inr ⟨Tryz.t10, _, infoOf Tryz.type10, rfl, rfl⟩
def ty11 : TyI := ⟨.str, 1, 16, [.str []]⟩
theorem tyOk11 : TyOk Tryz.prog 11 ty11 := .inr ⟨Tryz.t11, infoOf Tryz.type11, rfl, rfl, ⟨_, rfl, rfl, rfl⟩, _, Tryz.underlying11, rfl⟩
theorem tyZ11 : TyZ Tryz.prog 11 ty11 := .inr ⟨Tryz.t11, _, infoOf Tryz.type11, rfl, rfl⟩
def ty12 : TyI := ⟨.int .u64, 1, 8, [.int .u64 0]⟩
theorem tyOk12 : TyOk Tryz.prog 12 ty12 := .inr ⟨Tryz.t12, infoOf Tryz.type12, rfl, rfl, ⟨_, rfl, rfl, rfl⟩, _, Tryz.underlying12, rfl⟩
theorem tyZ12 : TyZ Tryz.prog 12 ty12 := .inr ⟨Tryz.t12, _, infoOf Tryz.type12, rfl, rfl⟩
def ty13 : TyI := ⟨.struct [(0, 9, "msg"), (1, 12, "addr")], 2, 24, [.str [], .int .u64 0]⟩
theorem tyOk13 : TyOk Tryz.prog 13 ty13 := .inr ⟨Tryz.t13, infoOf Tryz.type13, rfl, rfl, ⟨_, rfl, rfl, rfl⟩, _, Tryz.underlying13, rfl⟩
theorem tyZ13 : TyZ Tryz.prog 13 ty13 := .inr ⟨Tryz.t13, _, infoOf Tryz.type13, rfl, rfl⟩
def ty14 : TyI := ⟨.struct [(0, 9, "msg"), (1, 12, "addr")], 2, 24, [.str [], .int .u64 0]⟩
theorem tyOk14 : TyOk Tryz.prog 14 ty14 := .inr ⟨Tryz.t14, infoOf Tryz.type14, rfl, rfl, ⟨_, rfl, rfl, rfl⟩, _, Tryz.underlying14, rfl⟩
theorem tyZ14 : TyZ Tryz.prog 14 ty14 := .inr ⟨Tryz.t14, _, infoOf Tryz.type14, rfl, rfl⟩
def ty15 : TyI := ⟨.ptr 247, 1, 8, [.nilp]⟩
theorem tyOk15 : TyOk Tryz.prog 15 ty15 := .inr ⟨Tryz.t15, infoOf Tryz.type15, rfl, rfl, ⟨_, rfl, rfl, rfl⟩, _, Tryz.underlying15, rfl⟩
theorem tyZ15 : TyZ Tryz.prog 15 ty15 := .inr ⟨Tryz.t15, _, infoOf Tryz.type15, rfl, rfl⟩
def ty16 : TyI := ⟨.ptr 250, 1, 8, [.nilp]⟩
theorem tyOk16 : TyOk Tryz.prog 16 ty16 := .inr ⟨Tryz.t16, infoOf Tryz.type16, rfl, rfl, ⟨_, rfl, rfl, rfl⟩, _, Tryz.underlying16, rfl⟩
theorem tyZ16 : TyZ Tryz.prog 16 ty16 := .inr ⟨Tryz.t16, _, infoOf Tryz.type16, rfl, rfl⟩
def ty17 : TyI := ⟨.ptr 259, 1, 8, [.nilp]⟩
theorem tyOk17 : TyOk Tryz.prog 17 ty17 := .inr ⟨Tryz.t17, infoOf Tryz.type17, rfl, rfl, ⟨_, rfl, rfl, rfl⟩, _, Tryz.underlying17, rfl⟩
theorem tyZ17 : TyZ Tryz.prog 17 ty17 := .inr ⟨Tryz.t17, _, infoOf Tryz.type17, rfl, rfl⟩
def ty18 : TyI := ⟨.struct [(0, 17, "typ")], 1, 8, [.nilp]⟩
theorem tyOk18 : TyOk Tryz.prog 18 ty18 := .inr ⟨Tryz.t18, infoOf Tryz.type18, rfl, rfl, ⟨_, rfl, rfl, rfl⟩, _, Tryz.underlying18, rfl⟩
theorem tyZ18 : TyZ Tryz.prog 18 ty18 := .inr ⟨Tryz.t18, _, infoOf Tryz.type18, rfl, rfl⟩
def ty19 : TyI := ⟨.struct [(0, 17, "typ")], 1, 8, [.nilp]⟩
theorem tyOk19 : TyOk Tryz.prog 19 ty19 := .inr ⟨Tryz.t19, infoOf Tryz.type19, rfl, rfl, ⟨_, rfl, rfl, rfl⟩, _, Tryz.underlying19, rfl⟩
theorem tyZ19 : TyZ Tryz.prog 19 ty19 := .inr ⟨Tryz.t19, _, infoOf Tryz.type19, rfl, rfl⟩
def ty21 : TyI := ⟨.int .i32, 1, 4, [.int .i32 0]⟩
theorem tyOk21 : TyOk Tryz.prog 21 ty21 := .inr ⟨Tryz.t21, infoOf Tryz.type21, rfl, rfl, ⟨_, rfl, rfl, rfl⟩, _, Tryz.underlying21, rfl⟩
theorem tyZ21 : TyZ Tryz.prog 21 ty21 := .inr ⟨Tryz.t21, _, infoOf Tryz.type21, rfl, rfl⟩
def ty22 : TyI := ⟨.slice 65, 1, 24, [.slice true []]⟩
theorem tyOk22 : TyOk Tryz.prog 22 ty22 := .inr ⟨Tryz.t22, infoOf Tryz.type22, rfl, rfl, ⟨_, rfl, rfl, rfl⟩, _, Tryz.underlying22, rfl⟩
theorem tyZ22 : TyZ Tryz.prog 22 ty22 := .inr ⟨Tryz.t22, _, infoOf Tryz.type22, rfl, rfl⟩
def ty23 : TyI := ⟨.struct [(0, 3, "Kind"), (1, 9, "Name")], 2, 24, [.int .i64 0, .str []]⟩
theorem tyOk23 : TyOk Tryz.prog 23 ty23 := .inr ⟨Tryz.t23, infoOf Tryz.type23, rfl, rfl, ⟨_, rfl, rfl, rfl⟩, _, Tryz.underlying23, rfl⟩
theorem tyZ23 : TyZ Tryz.prog 23 ty23 := .inr ⟨Tryz.t23, _, infoOf Tryz.type23, rfl, rfl⟩
def ty24 : TyI := ⟨.struct [(0, 3, "Kind"), (1, 9, "Name")], 2, 24, [.int .i64 0, .str []]⟩
theorem tyOk24 : TyOk Tryz.prog 24 ty24 := .inr ⟨Tryz.t24, infoOf Tryz.type24, rfl, rfl, ⟨_, rfl, rfl, rfl⟩, _, Tryz.underlying24, rfl⟩
theorem tyZ24 : TyZ Tryz.prog 24 ty24 := .inr ⟨Tryz.t24, _, infoOf Tryz.type24, rfl, rfl⟩
def ty25 : TyI := ⟨.func, 1, 8, [.nilf]⟩
theorem tyOk25 : TyOk Tryz.prog 25 ty25 := .inr ⟨Tryz.t25, infoOf Tryz.type25, rfl, rfl, ⟨_, rfl, rfl, rfl⟩, _, Tryz.underlying25, rfl⟩
theorem tyZ25 : TyZ Tryz.prog 25 ty25 := .inr ⟨Tryz.t25, _, infoOf Tryz.type25, rfl, rfl⟩
def ty26 : TyI := ⟨.func, 1, 8, [.nilf]⟩
theorem tyOk26 : TyOk Tryz.prog 26 ty26 := .inr ⟨Tryz.t26, infoOf Tryz.type26, rfl, rfl, ⟨_, rfl, rfl, rfl⟩, _, Tryz.underlying26, rfl⟩
theorem tyZ26 : TyZ Tryz.prog 26 ty26 := .inr ⟨Tryz.t26, _, infoOf Tryz.type26, rfl, rfl⟩
def ty27 : TyI := ⟨.func, 1, 8, [.nilf]⟩
theorem tyOk27 : TyOk Tryz.prog 27 ty27 := .inr ⟨Tryz.t27, infoOf Tryz.type27, rfl, rfl, ⟨_, rfl, rfl, rfl⟩, _, Tryz.underlying27, rfl⟩
theorem tyZ27 : TyZ Tryz.prog 27 ty27 := .inr ⟨Tryz.t27, _, infoOf Tryz.type27, rfl, rfl⟩
def ty28 : TyI := ⟨.slice 24, 1, 24, [.slice true []]⟩
theorem tyOk28 : TyOk Tryz.prog 28 ty28 := .inr ⟨Tryz.t28, infoOf Tryz.type28, rfl, rfl, ⟨_, rfl, rfl, rfl⟩, _, Tryz.underlying28, rfl⟩
theorem tyZ28 : TyZ Tryz.prog 28 ty28 := .inr ⟨Tryz.t28, _, infoOf Tryz.type28, rfl, rfl⟩
def ty29 : TyI := ⟨.func, 1, 8, [.nilf]⟩
theorem tyOk29 : TyOk Tryz.prog 29 ty29 := .inr ⟨Tryz.t29, infoOf Tryz.type29, rfl, rfl, ⟨_, rfl, rfl, rfl⟩, _, Tryz.underlying29, rfl⟩
theorem tyZ29 : TyZ Tryz.prog 29 ty29 := .inr ⟨Tryz.t29, _, infoOf Tryz.type29, rfl, rfl⟩
def ty30 : TyI := ⟨.func, 1, 8, [.nilf]⟩
theorem tyOk30 : TyOk Tryz.prog 30 ty30 := .inr ⟨Tryz.t30, infoOf Tryz.type30, rfl, rfl, ⟨_, rfl, rfl, rfl⟩, _, Tryz.underlying30, rfl⟩
theorem tyZ30 : TyZ Tryz.prog 30 ty30 := .inr ⟨Tryz.t30, _, infoOf Tryz.type30, rfl, rfl⟩
def ty31 : TyI := ⟨.func, 1, 8, [.nilf]⟩
theorem tyOk31 : TyOk Tryz.prog 31 ty31 := .inr ⟨Tryz.t31, infoOf Tryz.type31, rfl, rfl, ⟨_, rfl, rfl, rfl⟩, _, Tryz.underlying31, rfl⟩
theorem tyZ31 : TyZ Tryz.prog 31 ty31 := .inr ⟨Tryz.t31, _, infoOf Tryz.type31, rfl, rfl⟩
def ty32 : TyI := ⟨.func, 1, 8, [.nilf]⟩
theorem tyOk32 : TyOk Tryz.prog 32 ty32 := .inr ⟨Tryz.t32, infoOf Tryz.type32, rfl, rfl, ⟨_, rfl, rfl, rfl⟩, _, Tryz.underlying32, rfl⟩
theorem tyZ32 : TyZ Tryz.prog 32 ty32 := .inr ⟨Tryz.t32, _, infoOf Tryz.type32, rfl, rfl⟩
def ty33 : TyI := ⟨.int .i64, 1, 8, [.int .i64 0]⟩
theorem tyOk33 : TyOk Tryz.prog 33 ty33 := .inr ⟨Tryz.t33, infoOf Tryz.type33, rfl, rfl, ⟨_, rfl, rfl, rfl⟩, _, Tryz.underlying33, rfl⟩
theorem tyZ33 : TyZ Tryz.prog 33 ty33 := .inr ⟨Tryz.t33, _, infoOf Tryz.type33, rfl, rfl⟩
def ty34 : TyI := ⟨.func, 1, 8, [.nilf]⟩
theorem tyOk34 : TyOk Tryz.prog 34 ty34 := .inr ⟨Tryz.t34, infoOf Tryz.type34, rfl, rfl, ⟨_, rfl, rfl, rfl⟩, _, Tryz.underlying34, rfl⟩
theorem tyZ34 : TyZ Tryz.prog 34 ty34 := .inr ⟨Tryz.t34, _, infoOf Tryz.type34, rfl, rfl⟩
def ty35 : TyI := ⟨.func, 1, 8, [.nilf]⟩
theorem tyOk35 : TyOk Tryz.prog 35 ty35 := .inr ⟨Tryz.t35, infoOf Tryz.type35, rfl, rfl, ⟨_, rfl, rfl, rfl⟩, _, Tryz.underlying35, rfl⟩
theorem tyZ35 : TyZ Tryz.prog 35 ty35 := .inr ⟨Tryz.t35, _, infoOf Tryz.type35, rfl, rfl⟩
def ty36 : TyI := ⟨.struct [(0, 3, "Cap"), (1, 22, "L")], 2, 32, [.int .i64 0, .slice true []]⟩
theorem tyOk36 : TyOk Tryz.prog 36 ty36 := .inr ⟨Tryz.t36, infoOf Tryz.type36, rfl, rfl, ⟨_, rfl, rfl, rfl⟩, _, Tryz.underlying36, rfl⟩
theorem tyZ36 : TyZ Tryz.prog 36 ty36 := .inr ⟨Tryz.t36, _, infoOf Tryz.type36, rfl, rfl⟩
def ty37 : TyI := ⟨.struct [(0, 3, "Cap"), (1, 22, "L")], 2, 32, [.int .i64 0, .slice true []]⟩
theorem tyOk37 : TyOk Tryz.prog 37 ty37 := .inr ⟨Tryz.t37, infoOf Tryz.type37, rfl, rfl, ⟨_, rfl, rfl, rfl⟩, _, Tryz.underlying37, rfl⟩
theorem tyZ37 : TyZ Tryz.prog 37 ty37 := .inr ⟨Tryz.t37, _, infoOf Tryz.type37, rfl, rfl⟩
def ty38 : TyI := ⟨.struct [(0, 37, "C"), (2, 4, "Ready"), (3, 22, "Shown")], 4, 64, [.int .i64 0, .slice true [], .bool false, .slice true []]⟩
theorem tyOk38 : TyOk Tryz.prog 38 ty38 := .inr ⟨Tryz.t38, infoOf Tryz.type38, rfl, rfl, ⟨_, rfl, rfl, rfl⟩, _, Tryz.underlying38, rfl⟩
theorem tyZ38 : TyZ Tryz.prog 38 ty38 := .inr ⟨Tryz.t38, _, infoOf Tryz.type38, rfl, rfl⟩
def ty39 : TyI := ⟨.struct [(0, 37, "C"), (2, 4, "Ready"), (3, 22, "Shown")], 4, 64, [.int .i64 0, .slice true [], .bool false, .slice true []]⟩
theorem tyOk39 : TyOk Tryz.prog 39 ty39 := .inr ⟨Tryz.t39, infoOf Tryz.type39, rfl, rfl, ⟨_, rfl, rfl, rfl⟩, _, Tryz.underlying39, rfl⟩
theorem tyZ39 : TyZ Tryz.prog 39 ty39 := .inr ⟨Tryz.t39, _, infoOf Tryz.type39, rfl, rfl⟩
def ty40 : TyI := ⟨.struct [(0, 3, "Cap"), (1, 22, "L")], 2, 32, [.int .i64 0, .slice true []]⟩
theorem tyOk40 : TyOk Tryz.prog 40 ty40 := .inr ⟨Tryz.t40, infoOf Tryz.type40, rfl, rfl, ⟨_, rfl, rfl, rfl⟩, _, Tryz.underlying40, rfl⟩
theorem tyZ40 : TyZ Tryz.prog 40 ty40 := .inr ⟨Tryz.t40, _, infoOf Tryz.type40, rfl, rfl⟩
def ty41 : TyI := ⟨.struct [(0, 40, "C"), (2, 4, "Ready"), (3, 22, "Shown")], 4, 64, [.int .i64 0, .slice true [], .bool false, .slice true []]⟩
theorem tyOk41 : TyOk Tryz.prog 41 ty41 := .inr ⟨Tryz.t41, infoOf Tryz.type41, rfl, rfl, ⟨_, rfl, rfl, rfl⟩, _, Tryz.underlying41, rfl⟩
theorem tyZ41 : TyZ Tryz.prog 41 ty41 := .inr ⟨Tryz.t41, _, infoOf Tryz.type41, rfl, rfl⟩
def ty42 : TyI := ⟨.struct [(0, 40, "C"), (2, 4, "Ready"), (3, 22, "Shown")], 4, 64, [.int .i64 0, .slice true [], .bool false, .slice true []]⟩
theorem tyOk42 : TyOk Tryz.prog 42 ty42 := .inr ⟨Tryz.t42, infoOf Tryz.type42, rfl, rfl, ⟨_, rfl, rfl, rfl⟩, _, Tryz.underlying42, rfl⟩
theorem tyZ42 : TyZ Tryz.prog 42 ty42 := .inr ⟨Tryz.t42, _, infoOf Tryz.type42, rfl, rfl⟩
def ty44 : TyI := ⟨.func, 1, 8, [.nilf]⟩
theorem tyOk44 : TyOk Tryz.prog 44 ty44 := .inr ⟨Tryz.t44, infoOf Tryz.type44, rfl, rfl, ⟨_, rfl, rfl, rfl⟩, _, Tryz.underlying44, rfl⟩
theorem tyZ44 : TyZ Tryz.prog 44 ty44 := .inr ⟨Tryz.t44, _, infoOf Tryz.type44, rfl, rfl⟩
def ty45 : TyI := ⟨.func, 1, 8, [.nilf]⟩
theorem tyOk45 : TyOk Tryz.prog 45 ty45 := .inr ⟨Tryz.t45, infoOf Tryz.type45, rfl, rfl, ⟨_, rfl, rfl, rfl⟩, _, Tryz.underlying45, rfl⟩
theorem tyZ45 : TyZ Tryz.prog 45 ty45 := .inr ⟨Tryz.t45, _, infoOf Tryz.type45, rfl, rfl⟩
def ty47 : TyI := ⟨.func, 1, 8, [.nilf]⟩
theorem tyOk47 : TyOk Tryz.prog 47 ty47 := .inr ⟨Tryz.t47, infoOf Tryz.type47, rfl, rfl, ⟨_, rfl, rfl, rfl⟩, _, Tryz.underlying47, rfl⟩
theorem tyZ47 : TyZ Tryz.prog 47 ty47 := .inr ⟨Tryz.t47, _, infoOf Tryz.type47, rfl, rfl⟩
def ty48 : TyI := ⟨.func, 1, 8, [.nilf]⟩
theorem tyOk48 : TyOk Tryz.prog 48 ty48 := .inr ⟨Tryz.t48, infoOf Tryz.type48, rfl, rfl, ⟨_, rfl, rfl, rfl⟩, _, Tryz.underlying48, rfl⟩
theorem tyZ48 : TyZ Tryz.prog 48 ty48 := .inr ⟨Tryz.t48, _, infoOf Tryz.type48, rfl, rfl⟩
def ty49 : TyI := ⟨.func, 1, 8, [.nilf]⟩
theorem tyOk49 : TyOk Tryz.prog 49 ty49 := .inr ⟨Tryz.t49, infoOf Tryz.type49, rfl, rfl, ⟨_, rfl, rfl, rfl⟩, _, Tryz.underlying49, rfl⟩
theorem tyZ49 : TyZ Tryz.prog 49 ty49 := .inr ⟨Tryz.t49, _, infoOf Tryz.type49, rfl, rfl⟩
def ty50 : TyI := ⟨.func, 1, 8, [.nilf]⟩
theorem tyOk50 : TyOk Tryz.prog 50 ty50 := .inr ⟨Tryz.t50, infoOf Tryz.type50, rfl, rfl, ⟨_, rfl, rfl, rfl⟩, _, Tryz.underlying50, rfl⟩
theorem tyZ50 : TyZ Tryz.prog 50 ty50 := .inr ⟨Tryz.t50, _, infoOf Tryz.type50, rfl, rfl⟩
def ty51 : TyI := ⟨.func, 1, 8, [.nilf]⟩
theorem tyOk51 : TyOk Tryz.prog 51 ty51 := .inr ⟨Tryz.t51, infoOf Tryz.type51, rfl, rfl, ⟨_, rfl, rfl, rfl⟩, _, Tryz.underlying51, rfl⟩
theorem tyZ51 : TyZ Tryz.prog 51 ty51 := .inr ⟨Tryz.t51, _, infoOf Tryz.type51, rfl, rfl⟩
def ty52 : TyI := ⟨.func, 1, 8, [.nilf]⟩
theorem tyOk52 : TyOk Tryz.prog 52 ty52 := .inr ⟨Tryz.t52, infoOf Tryz.type52, rfl, rfl, ⟨_, rfl, rfl, rfl⟩, _, Tryz.underlying52, rfl⟩
theorem tyZ52 : TyZ Tryz.prog 52 ty52 := .inr ⟨Tryz.t52, _, infoOf Tryz.type52, rfl, rfl⟩
def ty53 : TyI := ⟨.func, 1, 8, [.nilf]⟩
theorem tyOk53 : TyOk Tryz.prog 53 ty53 := .inr ⟨Tryz.t53, infoOf Tryz.type53, rfl, rfl, ⟨_, rfl, rfl, rfl⟩, _, Tryz.underlying53, rfl⟩
theorem tyZ53 : TyZ Tryz.prog 53 ty53 := .inr ⟨Tryz.t53, _, infoOf Tryz.type53, rfl, rfl⟩
def ty54 : TyI := ⟨.func, 1, 8, [.nilf]⟩
theorem tyOk54 : TyOk Tryz.prog 54 ty54 := .inr ⟨Tryz.t54, infoOf Tryz.type54, rfl, rfl, ⟨_, rfl, rfl, rfl⟩, _, Tryz.underlying54, rfl⟩
theorem tyZ54 : TyZ Tryz.prog 54 ty54 := .inr ⟨Tryz.t54, _, infoOf Tryz.type54, rfl, rfl⟩
def ty55 : TyI := ⟨.func, 1, 8, [.nilf]⟩
theorem tyOk55 : TyOk Tryz.prog 55 ty55 := .inr ⟨Tryz.t55, infoOf Tryz.type55, rfl, rfl, ⟨_, rfl, rfl, rfl⟩, _, Tryz.underlying55, rfl⟩
theorem tyZ55 : TyZ Tryz.prog 55 ty55 := .inr ⟨Tryz.t55, _, infoOf Tryz.type55, rfl, rfl⟩
def ty56 : TyI := ⟨.func, 1, 8, [.nilf]⟩
theorem tyOk56 : TyOk Tryz.prog 56 ty56 := .inr ⟨Tryz.t56, infoOf Tryz.type56, rfl, rfl, ⟨_, rfl, rfl, rfl⟩, _, Tryz.underlying56, rfl⟩
theorem tyZ56 : TyZ Tryz.prog 56 ty56 := .inr ⟨Tryz.t56, _, infoOf Tryz.type56, rfl, rfl⟩
def ty57 : TyI := ⟨.func, 1, 8, [.nilf]⟩
theorem tyOk57 : TyOk Tryz.prog 57 ty57 := .inr ⟨Tryz.t57, infoOf Tryz.type57, rfl, rfl, ⟨_, rfl, rfl, rfl⟩, _, Tryz.underlying57, rfl⟩
theorem tyZ57 : TyZ Tryz.prog 57 ty57 := .inr ⟨Tryz.t57, _, infoOf Tryz.type57, rfl, rfl⟩
def ty58 : TyI := ⟨.slice 60, 1, 24, [.slice true []]⟩
theorem tyOk58 : TyOk Tryz.prog 58 ty58 := .inr ⟨Tryz.t58, infoOf Tryz.type58, rfl, rfl, ⟨_, rfl, rfl, rfl⟩, _, Tryz.underlying58, rfl⟩
theorem tyZ58 : TyZ Tryz.prog 58 ty58 := .inr ⟨Tryz.t58, _, infoOf Tryz.type58, rfl, rfl⟩
def ty59 : TyI := ⟨.struct [(0, 22, "Adds"), (1, 28, "Gone")], 2, 48, [.slice true [], .slice true []]⟩
theorem tyOk59 : TyOk Tryz.prog 59 ty59 := .inr ⟨Tryz.t59, infoOf Tryz.type59, rfl, rfl, ⟨_, rfl, rfl, rfl⟩, _, Tryz.underlying59, rfl⟩
theorem tyZ59 : TyZ Tryz.prog 59 ty59 := .inr ⟨Tryz.t59, _, infoOf Tryz.type59, rfl, rfl⟩
def ty60 : TyI := ⟨.struct [(0, 22, "Adds"), (1, 28, "Gone")], 2, 48, [.slice true [], .slice true []]⟩
theorem tyOk60 : TyOk Tryz.prog 60 ty60 := .inr ⟨Tryz.t60, infoOf Tryz.type60, rfl, rfl, ⟨_, rfl, rfl, rfl⟩, _, Tryz.underlying60, rfl⟩
theorem tyZ60 : TyZ Tryz.prog 60 ty60 := .inr ⟨Tryz.t60, _, infoOf Tryz.type60, rfl, rfl⟩
def ty61 : TyI := ⟨.func, 1, 8, [.nilf]⟩
theorem tyOk61 : TyOk Tryz.prog 61 ty61 := .inr ⟨Tryz.t61, infoOf Tryz.type61, rfl, rfl, ⟨_, rfl, rfl, rfl⟩, _, Tryz.underlying61, rfl⟩
theorem tyZ61 : TyZ Tryz.prog 61 ty61 := .inr ⟨Tryz.t61, _, infoOf Tryz.type61, rfl, rfl⟩
def ty62 : TyI := ⟨.slice 120, 1, 24, [.slice true []]⟩
theorem tyOk62 : TyOk Tryz.prog 62 ty62 := .inr ⟨Tryz.t62, infoOf Tryz.type62, rfl, rfl, ⟨_, rfl, rfl, rfl⟩, _, Tryz.underlying62, rfl⟩
theorem tyZ62 : TyZ Tryz.prog 62 ty62 := .inr ⟨Tryz.t62, _, infoOf Tryz.type62, rfl, rfl⟩
def ty63 : TyI := ⟨.slice 3, 1, 24, [.slice true []]⟩
theorem tyOk63 : TyOk Tryz.prog 63 ty63 := .inr ⟨Tryz.t63, infoOf Tryz.type63, rfl, rfl, ⟨_, rfl, rfl, rfl⟩, _, Tryz.underlying63, rfl⟩
theorem tyZ63 : TyZ Tryz.prog 63 ty63 := .inr ⟨Tryz.t63, _, infoOf Tryz.type63, rfl, rfl⟩
def ty64 : TyI := ⟨.struct [(0, 3, "Kind"), (1, 9, "Name"), (2, 3, "Ver"), (3, 3, "Port"), (4, 9, "To"), (5, 62, "Rules"), (6, 63, "Hosts")], 7, 104, [.int .i64 0, .str [], .int .i64 0, .int .i64 0, .str [], .slice true [], .slice true []]⟩
theorem tyOk64 : TyOk Tryz.prog 64 ty64 := .inr ⟨Tryz.t64, infoOf Tryz.type64, rfl, rfl, ⟨_, rfl, rfl, rfl⟩, _, Tryz.underlying64, rfl⟩
theorem tyZ64 : TyZ Tryz.prog 64 ty64 := .inr ⟨Tryz.t64, _, infoOf Tryz.type64, rfl, rfl⟩
def ty65 : TyI := ⟨.struct [(0, 3, "Kind"), (1, 9, "Name"), (2, 3, "Ver"), (3, 3, "Port"), (4, 9, "To"), (5, 62, "Rules"), (6, 63, "Hosts")], 7, 104, [.int .i64 0, .str [], .int .i64 0, .int .i64 0, .str [], .slice true [], .slice true []]⟩
theorem tyOk65 : TyOk Tryz.prog 65 ty65 := .inr ⟨Tryz.t65, infoOf Tryz.type65, rfl, rfl, ⟨_, rfl, rfl, rfl⟩, _, Tryz.underlying65, rfl⟩
theorem tyZ65 : TyZ Tryz.prog 65 ty65 := .inr ⟨Tryz.t65, _, infoOf Tryz.type65, rfl, rfl⟩
def ty66 : TyI := ⟨.struct [(0, 3, "Port"), (1, 9, "Host"), (2, 9, "Path"), (3, 3, "First"), (4, 3, "Other")], 5, 56, [.int .i64 0, .str [], .str [], .int .i64 0, .int .i64 0]⟩
theorem tyOk66 : TyOk Tryz.prog 66 ty66 := .inr ⟨Tryz.t66, infoOf Tryz.type66, rfl, rfl, ⟨_, rfl, rfl, rfl⟩, _, Tryz.underlying66, rfl⟩
theorem tyZ66 : TyZ Tryz.prog 66 ty66 := .inr ⟨Tryz.t66, _, infoOf Tryz.type66, rfl, rfl⟩
def ty67 : TyI := ⟨.struct [(0, 3, "Port"), (1, 9, "Host"), (2, 9, "Path"), (3, 3, "First"), (4, 3, "Other")], 5, 56, [.int .i64 0, .str [], .str [], .int .i64 0, .int .i64 0]⟩
theorem tyOk67 : TyOk Tryz.prog 67 ty67 := .inr ⟨Tryz.t67, infoOf Tryz.type67, rfl, rfl, ⟨_, rfl, rfl, rfl⟩, _, Tryz.underlying67, rfl⟩
theorem tyZ67 : TyZ Tryz.prog 67 ty67 := .inr ⟨Tryz.t67, _, infoOf Tryz.type67, rfl, rfl⟩
def ty69 : TyI := ⟨.func, 1, 8, [.nilf]⟩
theorem tyOk69 : TyOk Tryz.prog 69 ty69 := .inr ⟨Tryz.t69, infoOf Tryz.type69, rfl, rfl, ⟨_, rfl, rfl, rfl⟩, _, Tryz.underlying69, rfl⟩
theorem tyZ69 : TyZ Tryz.prog 69 ty69 := .inr ⟨Tryz.t69, _, infoOf Tryz.type69, rfl, rfl⟩
def ty70 : TyI := ⟨.func, 1, 8, [.nilf]⟩
theorem tyOk70 : TyOk Tryz.prog 70 ty70 := .inr ⟨Tryz.t70, infoOf Tryz.type70, rfl, rfl, ⟨_, rfl, rfl, rfl⟩, _, Tryz.underlying70, rfl⟩
theorem tyZ70 : TyZ Tryz.prog 70 ty70 := .inr ⟨Tryz.t70, _, infoOf Tryz.type70, rfl, rfl⟩
def ty71 : TyI := ⟨.struct [(0, 3, "What"), (1, 9, "Cluster"), (2, 3, "Host")], 3, 32, [.int .i64 0, .str [], .int .i64 0]⟩
theorem tyOk71 : TyOk Tryz.prog 71 ty71 := .inr ⟨Tryz.t71, infoOf Tryz.type71, rfl, rfl, ⟨_, rfl, rfl, rfl⟩, _, Tryz.underlying71, rfl⟩
theorem tyZ71 : TyZ Tryz.prog 71 ty71 := .inr ⟨Tryz.t71, _, infoOf Tryz.type71, rfl, rfl⟩
def ty72 : TyI := ⟨.struct [(0, 3, "What"), (1, 9, "Cluster"), (2, 3, "Host")], 3, 32, [.int .i64 0, .str [], .int .i64 0]⟩
theorem tyOk72 : TyOk Tryz.prog 72 ty72 := .inr ⟨Tryz.t72, infoOf Tryz.type72, rfl, rfl, ⟨_, rfl, rfl, rfl⟩, _, Tryz.underlying72, rfl⟩
theorem tyZ72 : TyZ Tryz.prog 72 ty72 := .inr ⟨Tryz.t72, _, infoOf Tryz.type72, rfl, rfl⟩
def ty73 : TyI := ⟨.func, 1, 8, [.nilf]⟩
theorem tyOk73 : TyOk Tryz.prog 73 ty73 := .inr ⟨Tryz.t73, infoOf Tryz.type73, rfl, rfl, ⟨_, rfl, rfl, rfl⟩, _, Tryz.underlying73, rfl⟩
theorem tyZ73 : TyZ Tryz.prog 73 ty73 := .inr ⟨Tryz.t73, _, infoOf Tryz.type73, rfl, rfl⟩
def ty74 : TyI := ⟨.func, 1, 8, [.nilf]⟩
theorem tyOk74 : TyOk Tryz.prog 74 ty74 := .inr ⟨Tryz.t74, infoOf Tryz.type74, rfl, rfl, ⟨_, rfl, rfl, rfl⟩, _, Tryz.underlying74, rfl⟩
theorem tyZ74 : TyZ Tryz.prog 74 ty74 := .inr ⟨Tryz.t74, _, infoOf Tryz.type74, rfl, rfl⟩
def ty75 : TyI := ⟨.slice 78, 1, 24, [.slice true []]⟩
theorem tyOk75 : TyOk Tryz.prog 75 ty75 := .inr ⟨Tryz.t75, infoOf Tryz.type75, rfl, rfl, ⟨_, rfl, rfl, rfl⟩, _, Tryz.underlying75, rfl⟩
theorem tyZ75 : TyZ Tryz.prog 75 ty75 := .inr ⟨Tryz.t75, _, infoOf Tryz.type75, rfl, rfl⟩
def ty76 : TyI := ⟨.func, 1, 8, [.nilf]⟩
theorem tyOk76 : TyOk Tryz.prog 76 ty76 := .inr ⟨Tryz.t76, infoOf Tryz.type76, rfl, rfl, ⟨_, rfl, rfl, rfl⟩, _, Tryz.underlying76, rfl⟩
theorem tyZ76 : TyZ Tryz.prog 76 ty76 := .inr ⟨Tryz.t76, _, infoOf Tryz.type76, rfl, rfl⟩
def ty77 : TyI := ⟨.struct [(0, 3, "Kind"), (1, 22, "Adds"), (2, 28, "Gone")], 3, 56, [.int .i64 0, .slice true [], .slice true []]⟩
theorem tyOk77 : TyOk Tryz.prog 77 ty77 := .inr ⟨Tryz.t77, infoOf Tryz.type77, rfl, rfl, ⟨_, rfl, rfl, rfl⟩, _, Tryz.underlying77, rfl⟩
theorem tyZ77 : TyZ Tryz.prog 77 ty77 := .inr ⟨Tryz.t77, _, infoOf Tryz.type77, rfl, rfl⟩
def ty78 : TyI := ⟨.struct [(0, 3, "Kind"), (1, 22, "Adds"), (2, 28, "Gone")], 3, 56, [.int .i64 0, .slice true [], .slice true []]⟩
theorem tyOk78 : TyOk Tryz.prog 78 ty78 := .inr ⟨Tryz.t78, infoOf Tryz.type78, rfl, rfl, ⟨_, rfl, rfl, rfl⟩, _, Tryz.underlying78, rfl⟩
theorem tyZ78 : TyZ Tryz.prog 78 ty78 := .inr ⟨Tryz.t78, _, infoOf Tryz.type78, rfl, rfl⟩
def ty79 : TyI := ⟨.func, 1, 8, [.nilf]⟩
theorem tyOk79 : TyOk Tryz.prog 79 ty79 := .inr ⟨Tryz.t79, infoOf Tryz.type79, rfl, rfl, ⟨_, rfl, rfl, rfl⟩, _, Tryz.underlying79, rfl⟩
theorem tyZ79 : TyZ Tryz.prog 79 ty79 := .inr ⟨Tryz.t79, _, infoOf Tryz.type79, rfl, rfl⟩
def ty80 : TyI := ⟨.func, 1, 8, [.nilf]⟩
theorem tyOk80 : TyOk Tryz.prog 80 ty80 := .inr ⟨Tryz.t80, infoOf Tryz.type80, rfl, rfl, ⟨_, rfl, rfl, rfl⟩, _, Tryz.underlying80, rfl⟩
theorem tyZ80 : TyZ Tryz.prog 80 ty80 := .inr ⟨Tryz.t80, _, infoOf Tryz.type80, rfl, rfl⟩
def ty81 : TyI := ⟨.func, 1, 8, [.nilf]⟩
theorem tyOk81 : TyOk Tryz.prog 81 ty81 := .inr ⟨Tryz.t81, infoOf Tryz.type81, rfl, rfl, ⟨_, rfl, rfl, rfl⟩, _, Tryz.underlying81, rfl⟩
theorem tyZ81 : TyZ Tryz.prog 81 ty81 := .inr ⟨Tryz.t81, _, infoOf Tryz.type81, rfl, rfl⟩
def ty82 : TyI := ⟨.map 24 4, 1, 8, [.nilm]⟩
theorem tyOk82 : TyOk Tryz.prog 82 ty82 := .inr ⟨Tryz.t82, infoOf Tryz.type82, rfl, rfl, ⟨_, rfl, rfl, rfl⟩, _, Tryz.underlying82, rfl⟩
theorem tyZ82 : TyZ Tryz.prog 82 ty82 := .inr ⟨Tryz.t82, _, infoOf Tryz.type82, rfl, rfl⟩
def ty83 : TyI := ⟨.map 24 4, 1, 8, [.nilm]⟩
theorem tyOk83 : TyOk Tryz.prog 83 ty83 := .inr ⟨Tryz.t83, infoOf Tryz.type83, rfl, rfl, ⟨_, rfl, rfl, rfl⟩, _, Tryz.underlying83, rfl⟩
theorem tyZ83 : TyZ Tryz.prog 83 ty83 := .inr ⟨Tryz.t83, _, infoOf Tryz.type83, rfl, rfl⟩
def ty84 : TyI := ⟨.func, 1, 8, [.nilf]⟩
theorem tyOk84 : TyOk Tryz.prog 84 ty84 := .inr ⟨Tryz.t84, infoOf Tryz.type84, rfl, rfl, ⟨_, rfl, rfl, rfl⟩, _, Tryz.underlying84, rfl⟩
theorem tyZ84 : TyZ Tryz.prog 84 ty84 := .inr ⟨Tryz.t84, _, infoOf Tryz.type84, rfl, rfl⟩
def ty85 : TyI := ⟨.func, 1, 8, [.nilf]⟩
theorem tyOk85 : TyOk Tryz.prog 85 ty85 := .inr ⟨Tryz.t85, infoOf Tryz.type85, rfl, rfl, ⟨_, rfl, rfl, rfl⟩, _, Tryz.underlying85, rfl⟩
theorem tyZ85 : TyZ Tryz.prog 85 ty85 := .inr ⟨Tryz.t85, _, infoOf Tryz.type85, rfl, rfl⟩
def ty86 : TyI := ⟨.func, 1, 8, [.nilf]⟩
theorem tyOk86 : TyOk Tryz.prog 86 ty86 := .inr ⟨Tryz.t86, infoOf Tryz.type86, rfl, rfl, ⟨_, rfl, rfl, rfl⟩, _, Tryz.underlying86, rfl⟩
theorem tyZ86 : TyZ Tryz.prog 86 ty86 := .inr ⟨Tryz.t86, _, infoOf Tryz.type86, rfl, rfl⟩
def ty87 : TyI := ⟨.func, 1, 8, [.nilf]⟩
theorem tyOk87 : TyOk Tryz.prog 87 ty87 := .inr ⟨Tryz.t87, infoOf Tryz.type87, rfl, rfl, ⟨_, rfl, rfl, rfl⟩, _, Tryz.underlying87, rfl⟩
theorem tyZ87 : TyZ Tryz.prog 87 ty87 := .inr ⟨Tryz.t87, _, infoOf Tryz.type87, rfl, rfl⟩
def ty88 : TyI := ⟨.func, 1, 8, [.nilf]⟩
theorem tyOk88 : TyOk Tryz.prog 88 ty88 := .inr ⟨Tryz.t88, infoOf Tryz.type88, rfl, rfl, ⟨_, rfl, rfl, rfl⟩, _, Tryz.underlying88, rfl⟩
theorem tyZ88 : TyZ Tryz.prog 88 ty88 := .inr ⟨Tryz.t88, _, infoOf Tryz.type88, rfl, rfl⟩
def ty89 : TyI := ⟨.func, 1, 8, [.nilf]⟩
theorem tyOk89 : TyOk Tryz.prog 89 ty89 := .inr ⟨Tryz.t89, infoOf Tryz.type89, rfl, rfl, ⟨_, rfl, rfl, rfl⟩, _, Tryz.underlying89, rfl⟩
theorem tyZ89 : TyZ Tryz.prog 89 ty89 := .inr ⟨Tryz.t89, _, infoOf Tryz.type89, rfl, rfl⟩
def ty90 : TyI := ⟨.func, 1, 8, [.nilf]⟩
theorem tyOk90 : TyOk Tryz.prog 90 ty90 := .inr ⟨Tryz.t90, infoOf Tryz.type90, rfl, rfl, ⟨_, rfl, rfl, rfl⟩, _, Tryz.underlying90, rfl⟩
theorem tyZ90 : TyZ Tryz.prog 90 ty90 := .inr ⟨Tryz.t90, _, infoOf Tryz.type90, rfl, rfl⟩
def ty91 : TyI := ⟨.func, 1, 8, [.nilf]⟩
theorem tyOk91 : TyOk Tryz.prog 91 ty91 := .inr ⟨Tryz.t91, infoOf Tryz.type91, rfl, rfl, ⟨_, rfl, rfl, rfl⟩, _, Tryz.underlying91, rfl⟩
theorem tyZ91 : TyZ Tryz.prog 91 ty91 := .inr ⟨Tryz.t91, _, infoOf Tryz.type91, rfl, rfl⟩
def ty92 : TyI := ⟨.func, 1, 8, [.nilf]⟩
theorem tyOk92 : TyOk Tryz.prog 92 ty92 := .inr ⟨Tryz.t92, infoOf Tryz.type92, rfl, rfl, ⟨_, rfl, rfl, rfl⟩, _, Tryz.underlying92, rfl⟩
theorem tyZ92 : TyZ Tryz.prog 92 ty92 := .inr ⟨Tryz.t92, _, infoOf Tryz.type92, rfl, rfl⟩
def ty93 : TyI := ⟨.func, 1, 8, [.nilf]⟩
theorem tyOk93 : TyOk Tryz.prog 93 ty93 := .inr ⟨Tryz.t93, infoOf Tryz.type93, rfl, rfl, ⟨_, rfl, rfl, rfl⟩, _, Tryz.underlying93, rfl⟩
theorem tyZ93 : TyZ Tryz.prog 93 ty93 := .inr ⟨Tryz.t93, _, infoOf Tryz.type93, rfl, rfl⟩
def ty94 : TyI := ⟨.func, 1, 8, [.nilf]⟩
theorem tyOk94 : TyOk Tryz.prog 94 ty94 := .inr ⟨Tryz.t94, infoOf Tryz.type94, rfl, rfl, ⟨_, rfl, rfl, rfl⟩, _, Tryz.underlying94, rfl⟩
theorem tyZ94 : TyZ Tryz.prog 94 ty94 := .inr ⟨Tryz.t94, _, infoOf Tryz.type94, rfl, rfl⟩
def ty95 : TyI := ⟨.func, 1, 8, [.nilf]⟩
theorem tyOk95 : TyOk Tryz.prog 95 ty95 := .inr ⟨Tryz.t95, infoOf Tryz.type95, rfl, rfl, ⟨_, rfl, rfl, rfl⟩, _, Tryz.underlying95, rfl⟩
theorem tyZ95 : TyZ Tryz.prog 95 ty95 := .inr ⟨Tryz.t95, _, infoOf Tryz.type95, rfl, rfl⟩
def ty96 : TyI := ⟨.func, 1, 8, [.nilf]⟩
theorem tyOk96 : TyOk Tryz.prog 96 ty96 := .inr ⟨Tryz.t96, infoOf Tryz.type96, rfl, rfl, ⟨_, rfl, rfl, rfl⟩, _, Tryz.underlying96, rfl⟩
theorem tyZ96 : TyZ Tryz.prog 96 ty96 := .inr ⟨Tryz.t96, _, infoOf Tryz.type96, rfl, rfl⟩
def ty97 : TyI := ⟨.func, 1, 8, [.nilf]⟩
theorem tyOk97 : TyOk Tryz.prog 97 ty97 := .inr ⟨Tryz.t97, infoOf Tryz.type97, rfl, rfl, ⟨_, rfl, rfl, rfl⟩, _, Tryz.underlying97, rfl⟩
theorem tyZ97 : TyZ Tryz.prog 97 ty97 := .inr ⟨Tryz.t97, _, infoOf Tryz.type97, rfl, rfl⟩
def ty98 : TyI := ⟨.func, 1, 8, [.nilf]⟩
theorem tyOk98 : TyOk Tryz.prog 98 ty98 := .inr ⟨Tryz.t98, infoOf Tryz.type98, rfl, rfl, ⟨_, rfl, rfl, rfl⟩, _, Tryz.underlying98, rfl⟩
theorem tyZ98 : TyZ Tryz.prog 98 ty98 := .inr ⟨Tryz.t98, _, infoOf Tryz.type98, rfl, rfl⟩
def ty99 : TyI := ⟨.struct [(0, 42, "Warm"), (4, 4, "changed")], 5, 72, [.int .i64 0, .slice true [], .bool false, .slice true [], .bool false]⟩
theorem tyOk99 : TyOk Tryz.prog 99 ty99 := .inr ⟨Tryz.t99, infoOf Tryz.type99, rfl, rfl, ⟨_, rfl, rfl, rfl⟩, _, Tryz.underlying99, rfl⟩
theorem tyZ99 : TyZ Tryz.prog 99 ty99 := .inr ⟨Tryz.t99, _, infoOf Tryz.type99, rfl, rfl⟩
def ty100 : TyI := ⟨.struct [(0, 42, "Warm"), (4, 4, "changed")], 5, 72, [.int .i64 0, .slice true [], .bool false, .slice true [], .bool false]⟩
theorem tyOk100 : TyOk Tryz.prog 100 ty100 := .inr ⟨Tryz.t100, infoOf Tryz.type100, rfl, rfl, ⟨_, rfl, rfl, rfl⟩, _, Tryz.underlying100, rfl⟩
theorem tyZ100 : TyZ Tryz.prog 100 ty100 := .inr ⟨Tryz.t100, _, infoOf Tryz.type100, rfl, rfl⟩
def ty102 : TyI := ⟨.func, 1, 8, [.nilf]⟩
theorem tyOk102 : TyOk Tryz.prog 102 ty102 := .inr ⟨Tryz.t102, infoOf Tryz.type102, rfl, rfl, ⟨_, rfl, rfl, rfl⟩, _, Tryz.underlying102, rfl⟩
theorem tyZ102 : TyZ Tryz.prog 102 ty102 := .inr ⟨Tryz.t102, _, infoOf Tryz.type102, rfl, rfl⟩
def ty103 : TyI := ⟨.func, 1, 8, [.nilf]⟩
theorem tyOk103 : TyOk Tryz.prog 103 ty103 := .inr ⟨Tryz.t103, infoOf Tryz.type103, rfl, rfl, ⟨_, rfl, rfl, rfl⟩, _, Tryz.underlying103, rfl⟩
theorem tyZ103 : TyZ Tryz.prog 103 ty103 := .inr ⟨Tryz.t103, _, infoOf Tryz.type103, rfl, rfl⟩
def ty104 : TyI := ⟨.func, 1, 8, [.nilf]⟩
theorem tyOk104 : TyOk Tryz.prog 104 ty104 := .inr ⟨Tryz.t104, infoOf Tryz.type104, rfl, rfl, ⟨_, rfl, rfl, rfl⟩, _, Tryz.underlying104, rfl⟩
theorem tyZ104 : TyZ Tryz.prog 104 ty104 := .inr ⟨Tryz.t104, _, infoOf Tryz.type104, rfl, rfl⟩
def ty105 : TyI := ⟨.func, 1, 8, [.nilf]⟩
theorem tyOk105 : TyOk Tryz.prog 105 ty105 := .inr ⟨Tryz.t105, infoOf Tryz.type105, rfl, rfl, ⟨_, rfl, rfl, rfl⟩, _, Tryz.underlying105, rfl⟩
theorem tyZ105 : TyZ Tryz.prog 105 ty105 := .inr ⟨Tryz.t105, _, infoOf Tryz.type105, rfl, rfl⟩
def ty106 : TyI := ⟨.func, 1, 8, [.nilf]⟩
theorem tyOk106 : TyOk Tryz.prog 106 ty106 := .inr ⟨Tryz.t106, infoOf Tryz.type106, rfl, rfl, ⟨_, rfl, rfl, rfl⟩, _, Tryz.underlying106, rfl⟩
theorem tyZ106 : TyZ Tryz.prog 106 ty106 := .inr ⟨Tryz.t106, _, infoOf Tryz.type106, rfl, rfl⟩
def ty107 : TyI := ⟨.func, 1, 8, [.nilf]⟩
theorem tyOk107 : TyOk Tryz.prog 107 ty107 := .inr ⟨Tryz.t107, infoOf Tryz.type107, rfl, rfl, ⟨_, rfl, rfl, rfl⟩, _, Tryz.underlying107, rfl⟩
theorem tyZ107 : TyZ Tryz.prog 107 ty107 := .inr ⟨Tryz.t107, _, infoOf Tryz.type107, rfl, rfl⟩
def ty108 : TyI := ⟨.func, 1, 8, [.nilf]⟩
theorem tyOk108 : TyOk Tryz.prog 108 ty108 := .inr ⟨Tryz.t108, infoOf Tryz.type108, rfl, rfl, ⟨_, rfl, rfl, rfl⟩, _, Tryz.underlying108, rfl⟩
theorem tyZ108 : TyZ Tryz.prog 108 ty108 := .inr ⟨Tryz.t108, _, infoOf Tryz.type108, rfl, rfl⟩
def ty109 : TyI := ⟨.func, 1, 8, [.nilf]⟩
theorem tyOk109 : TyOk Tryz.prog 109 ty109 := .inr ⟨Tryz.t109, infoOf Tryz.type109, rfl, rfl, ⟨_, rfl, rfl, rfl⟩, _, Tryz.underlying109, rfl⟩
theorem tyZ109 : TyZ Tryz.prog 109 ty109 := .inr ⟨Tryz.t109, _, infoOf Tryz.type109, rfl, rfl⟩
def ty110 : TyI := ⟨.func, 1, 8, [.nilf]⟩
theorem tyOk110 : TyOk Tryz.prog 110 ty110 := .inr ⟨Tryz.t110, infoOf Tryz.type110, rfl, rfl, ⟨_, rfl, rfl, rfl⟩, _, Tryz.underlying110, rfl⟩
theorem tyZ110 : TyZ Tryz.prog 110 ty110 := .inr ⟨Tryz.t110, _, infoOf Tryz.type110, rfl, rfl⟩
def ty111 : TyI := ⟨.func, 1, 8, [.nilf]⟩
theorem tyOk111 : TyOk Tryz.prog 111 ty111 := .inr ⟨Tryz.t111, infoOf Tryz.type111, rfl, rfl, ⟨_, rfl, rfl, rfl⟩, _, Tryz.underlying111, rfl⟩
theorem tyZ111 : TyZ Tryz.prog 111 ty111 := .inr ⟨Tryz.t111, _, infoOf Tryz.type111, rfl, rfl⟩
def ty112 : TyI := ⟨.func, 1, 8, [.nilf]⟩
theorem tyOk112 : TyOk Tryz.prog 112 ty112 := .inr ⟨Tryz.t112, infoOf Tryz.type112, rfl, rfl, ⟨_, rfl, rfl, rfl⟩, _, Tryz.underlying112, rfl⟩
theorem tyZ112 : TyZ Tryz.prog 112 ty112 := .inr ⟨Tryz.t112, _, infoOf Tryz.type112, rfl, rfl⟩
def ty113 : TyI := ⟨.func, 1, 8, [.nilf]⟩
theorem tyOk113 : TyOk Tryz.prog 113 ty113 := .inr ⟨Tryz.t113, infoOf Tryz.type113, rfl, rfl, ⟨_, rfl, rfl, rfl⟩, _, Tryz.underlying113, rfl⟩
theorem tyZ113 : TyZ Tryz.prog 113 ty113 := .inr ⟨Tryz.t113, _, infoOf Tryz.type113, rfl, rfl⟩
def ty114 : TyI := ⟨.func, 1, 8, [.nilf]⟩
theorem tyOk114 : TyOk Tryz.prog 114 ty114 := .inr ⟨Tryz.t114, infoOf Tryz.type114, rfl, rfl, ⟨_, rfl, rfl, rfl⟩, _, Tryz.underlying114, rfl⟩
theorem tyZ114 : TyZ Tryz.prog 114 ty114 := .inr ⟨Tryz.t114, _, infoOf Tryz.type114, rfl, rfl⟩
def ty115 : TyI := ⟨.func, 1, 8, [.nilf]⟩
theorem tyOk115 : TyOk Tryz.prog 115 ty115 := .inr ⟨Tryz.t115, infoOf Tryz.type115, rfl, rfl, ⟨_, rfl, rfl, rfl⟩, _, Tryz.underlying115, rfl⟩
theorem tyZ115 : TyZ Tryz.prog 115 ty115 := .inr ⟨Tryz.t115, _, infoOf Tryz.type115, rfl, rfl⟩
def ty116 : TyI := ⟨.func, 1, 8, [.nilf]⟩
theorem tyOk116 : TyOk Tryz.prog 116 ty116 := .inr ⟨Tryz.t116, infoOf Tryz.type116, rfl, rfl, ⟨_, rfl, rfl, rfl⟩, _, Tryz.underlying116, rfl⟩
theorem tyZ116 : TyZ Tryz.prog 116 ty116 := .inr ⟨Tryz.t116, _, infoOf Tryz.type116, rfl, rfl⟩
def ty117 : TyI := ⟨.func, 1, 8, [.nilf]⟩
theorem tyOk117 : TyOk Tryz.prog 117 ty117 := .inr ⟨Tryz.t117, infoOf Tryz.type117, rfl, rfl, ⟨_, rfl, rfl, rfl⟩, _, Tryz.underlying117, rfl⟩
theorem tyZ117 : TyZ Tryz.prog 117 ty117 := .inr ⟨Tryz.t117, _, infoOf Tryz.type117, rfl, rfl⟩
def ty118 : TyI := ⟨.slice 135, 1, 24, [.slice true []]⟩
theorem tyOk118 : TyOk Tryz.prog 118 ty118 := .inr ⟨Tryz.t118, infoOf Tryz.type118, rfl, rfl, ⟨_, rfl, rfl, rfl⟩, _, Tryz.underlying118, rfl⟩
theorem tyZ118 : TyZ Tryz.prog 118 ty118 := .inr ⟨Tryz.t118, _, infoOf Tryz.type118, rfl, rfl⟩
def ty119 : TyI := ⟨.struct [(0, 9, "Host"), (1, 9, "Prefix"), (2, 118, "Split")], 3, 56, [.str [], .str [], .slice true []]⟩
theorem tyOk119 : TyOk Tryz.prog 119 ty119 := .inr ⟨Tryz.t119, infoOf Tryz.type119, rfl, rfl, ⟨_, rfl, rfl, rfl⟩, _, Tryz.underlying119, rfl⟩
theorem tyZ119 : TyZ Tryz.prog 119 ty119 := .inr ⟨Tryz.t119, _, infoOf Tryz.type119, rfl, rfl⟩
def ty120 : TyI := ⟨.struct [(0, 9, "Host"), (1, 9, "Prefix"), (2, 118, "Split")], 3, 56, [.str [], .str [], .slice true []]⟩
theorem tyOk120 : TyOk Tryz.prog 120 ty120 := .inr ⟨Tryz.t120, infoOf Tryz.type120, rfl, rfl, ⟨_, rfl, rfl, rfl⟩, _, Tryz.underlying120, rfl⟩
theorem tyZ120 : TyZ Tryz.prog 120 ty120 := .inr ⟨Tryz.t120, _, infoOf Tryz.type120, rfl, rfl⟩
def ty122 : TyI := ⟨.func, 1, 8, [.nilf]⟩
theorem tyOk122 : TyOk Tryz.prog 122 ty122 := .inr ⟨Tryz.t122, infoOf Tryz.type122, rfl, rfl, ⟨_, rfl, rfl, rfl⟩, _, Tryz.underlying122, rfl⟩
theorem tyZ122 : TyZ Tryz.prog 122 ty122 := .inr ⟨Tryz.t122, _, infoOf Tryz.type122, rfl, rfl⟩
def ty124 : TyI := ⟨.func, 1, 8, [.nilf]⟩
theorem tyOk124 : TyOk Tryz.prog 124 ty124 := .inr ⟨Tryz.t124, infoOf Tryz.type124, rfl, rfl, ⟨_, rfl, rfl, rfl⟩, _, Tryz.underlying124, rfl⟩
theorem tyZ124 : TyZ Tryz.prog 124 ty124 := .inr ⟨Tryz.t124, _, infoOf Tryz.type124, rfl, rfl⟩
def ty126 : TyI := ⟨.func, 1, 8, [.nilf]⟩
theorem tyOk126 : TyOk Tryz.prog 126 ty126 := .inr ⟨Tryz.t126, infoOf Tryz.type126, rfl, rfl, ⟨_, rfl, rfl, rfl⟩, _, Tryz.underlying126, rfl⟩
theorem tyZ126 : TyZ Tryz.prog 126 ty126 := .inr ⟨Tryz.t126, _, infoOf Tryz.type126, rfl, rfl⟩
def ty128 : TyI := ⟨.func, 1, 8, [.nilf]⟩
theorem tyOk128 : TyOk Tryz.prog 128 ty128 := .inr ⟨Tryz.t128, infoOf Tryz.type128, rfl, rfl, ⟨_, rfl, rfl, rfl⟩, _, Tryz.underlying128, rfl⟩
theorem tyZ128 : TyZ Tryz.prog 128 ty128 := .inr ⟨Tryz.t128, _, infoOf Tryz.type128, rfl, rfl⟩
def ty130 : TyI := ⟨.func, 1, 8, [.nilf]⟩
theorem tyOk130 : TyOk Tryz.prog 130 ty130 := .inr ⟨Tryz.t130, infoOf Tryz.type130, rfl, rfl, ⟨_, rfl, rfl, rfl⟩, _, Tryz.underlying130, rfl⟩
theorem tyZ130 : TyZ Tryz.prog 130 ty130 := .inr ⟨Tryz.t130, _, infoOf Tryz.type130, rfl, rfl⟩
def ty131 : TyI := ⟨.func, 1, 8, [.nilf]⟩
theorem tyOk131 : TyOk Tryz.prog 131 ty131 := .inr ⟨Tryz.t131, infoOf Tryz.type131, rfl, rfl, ⟨_, rfl, rfl, rfl⟩, _, Tryz.underlying131, rfl⟩
theorem tyZ131 : TyZ Tryz.prog 131 ty131 := .inr ⟨Tryz.t131, _, infoOf Tryz.type131, rfl, rfl⟩
def ty132 : TyI := ⟨.func, 1, 8, [.nilf]⟩
theorem tyOk132 : TyOk Tryz.prog 132 ty132 := .inr ⟨Tryz.t132, infoOf Tryz.type132, rfl, rfl, ⟨_, rfl, rfl, rfl⟩, _, Tryz.underlying132, rfl⟩
theorem tyZ132 : TyZ Tryz.prog 132 ty132 := .inr ⟨Tryz.t132, _, infoOf Tryz.type132, rfl, rfl⟩
def ty133 : TyI := ⟨.func, 1, 8, [.nilf]⟩
theorem tyOk133 : TyOk Tryz.prog 133 ty133 := .inr ⟨Tryz.t133, infoOf Tryz.type133, rfl, rfl, ⟨_, rfl, rfl, rfl⟩, _, Tryz.underlying133, rfl⟩
theorem tyZ133 : TyZ Tryz.prog 133 ty133 := .inr ⟨Tryz.t133, _, infoOf Tryz.type133, rfl, rfl⟩
def ty134 : TyI := ⟨.struct [(0, 9, "Cluster"), (1, 3, "W")], 2, 24, [.str [], .int .i64 0]⟩
theorem tyOk134 : TyOk Tryz.prog 134 ty134 := .inr ⟨Tryz.t134, infoOf Tryz.type134, rfl, rfl, ⟨_, rfl, rfl, rfl⟩, _, Tryz.underlying134, rfl⟩
theorem tyZ134 : TyZ Tryz.prog 134 ty134 := .inr ⟨Tryz.t134, _, infoOf Tryz.type134, rfl, rfl⟩
def ty135 : TyI := ⟨.struct [(0, 9, "Cluster"), (1, 3, "W")], 2, 24, [.str [], .int .i64 0]⟩
theorem tyOk135 : TyOk Tryz.prog 135 ty135 := .inr ⟨Tryz.t135, infoOf Tryz.type135, rfl, rfl, ⟨_, rfl, rfl, rfl⟩, _, Tryz.underlying135, rfl⟩
theorem tyZ135 : TyZ Tryz.prog 135 ty135 := .inr ⟨Tryz.t135, _, infoOf Tryz.type135, rfl, rfl⟩
def ty136 : TyI := ⟨.func, 1, 8, [.nilf]⟩
theorem tyOk136 : TyOk Tryz.prog 136 ty136 := .inr ⟨Tryz.t136, infoOf Tryz.type136, rfl, rfl, ⟨_, rfl, rfl, rfl⟩, _, Tryz.underlying136, rfl⟩
theorem tyZ136 : TyZ Tryz.prog 136 ty136 := .inr ⟨Tryz.t136, _, infoOf Tryz.type136, rfl, rfl⟩
def ty137 : TyI := ⟨.func, 1, 8, [.nilf]⟩
theorem tyOk137 : TyOk Tryz.prog 137 ty137 := .inr ⟨Tryz.t137, infoOf Tryz.type137, rfl, rfl, ⟨_, rfl, rfl, rfl⟩, _, Tryz.underlying137, rfl⟩
theorem tyZ137 : TyZ Tryz.prog 137 ty137 := .inr ⟨Tryz.t137, _, infoOf Tryz.type137, rfl, rfl⟩
def ty138 : TyI := ⟨.int .u64, 1, 8, [.int .u64 0]⟩
theorem tyOk138 : TyOk Tryz.prog 138 ty138 := .inr ⟨Tryz.t138, infoOf Tryz.type138, rfl, rfl, ⟨_, rfl, rfl, rfl⟩, _, Tryz.underlying138, rfl⟩
theorem tyZ138 : TyZ Tryz.prog 138 ty138 := .inr ⟨Tryz.t138, _, infoOf Tryz.type138, rfl, rfl⟩
def ty139 : TyI := ⟨.func, 1, 8, [.nilf]⟩
theorem tyOk139 : TyOk Tryz.prog 139 ty139 := .inr ⟨Tryz.t139, infoOf Tryz.type139, rfl, rfl, ⟨_, rfl, rfl, rfl⟩, _, Tryz.underlying139, rfl⟩
theorem tyZ139 : TyZ Tryz.prog 139 ty139 := .inr ⟨Tryz.t139, _, infoOf Tryz.type139, rfl, rfl⟩
def ty140 : TyI := ⟨.func, 1, 8, [.nilf]⟩
theorem tyOk140 : TyOk Tryz.prog 140 ty140 := .inr ⟨Tryz.t140, infoOf Tryz.type140, rfl, rfl, ⟨_, rfl, rfl, rfl⟩, _, Tryz.underlying140, rfl⟩
theorem tyZ140 : TyZ Tryz.prog 140 ty140 := .inr ⟨Tryz.t140, _, infoOf Tryz.type140, rfl, rfl⟩
def ty141 : TyI := ⟨.func, 1, 8, [.nilf]⟩
theorem tyOk141 : TyOk Tryz.prog 141 ty141 := .inr ⟨Tryz.t141, infoOf Tryz.type141, rfl, rfl, ⟨_, rfl, rfl, rfl⟩, _, Tryz.underlying141, rfl⟩
theorem tyZ141 : TyZ Tryz.prog 141 ty141 := .inr ⟨Tryz.t141, _, infoOf Tryz.type141, rfl, rfl⟩
def ty142 : TyI := ⟨.func, 1, 8, [.nilf]⟩
theorem tyOk142 : TyOk Tryz.prog 142 ty142 := .inr ⟨Tryz.t142, infoOf Tryz.type142, rfl, rfl, ⟨_, rfl, rfl, rfl⟩, _, Tryz.underlying142, rfl⟩
theorem tyZ142 : TyZ Tryz.prog 142 ty142 := .inr ⟨Tryz.t142, _, infoOf Tryz.type142, rfl, rfl⟩
def ty143 : TyI := ⟨.map 24 28, 1, 8, [.nilm]⟩
theorem tyOk143 : TyOk Tryz.prog 143 ty143 := .inr ⟨Tryz.t143, infoOf Tryz.type143, rfl, rfl, ⟨_, rfl, rfl, rfl⟩, _, Tryz.underlying143, rfl⟩
theorem tyZ143 : TyZ Tryz.prog 143 ty143 := .inr ⟨Tryz.t143, _, infoOf Tryz.type143, rfl, rfl⟩
def ty144 : TyI := ⟨.func, 1, 8, [.nilf]⟩
theorem tyOk144 : TyOk Tryz.prog 144 ty144 := .inr ⟨Tryz.t144, infoOf Tryz.type144, rfl, rfl, ⟨_, rfl, rfl, rfl⟩, _, Tryz.underlying144, rfl⟩
theorem tyZ144 : TyZ Tryz.prog 144 ty144 := .inr ⟨Tryz.t144, _, infoOf Tryz.type144, rfl, rfl⟩
def ty145 : TyI := ⟨.func, 1, 8, [.nilf]⟩
theorem tyOk145 : TyOk Tryz.prog 145 ty145 := .inr ⟨Tryz.t145, infoOf Tryz.type145, rfl, rfl, ⟨_, rfl, rfl, rfl⟩, _, Tryz.underlying145, rfl⟩
theorem tyZ145 : TyZ Tryz.prog 145 ty145 := .inr ⟨Tryz.t145, _, infoOf Tryz.type145, rfl, rfl⟩
def ty146 : TyI := ⟨.func, 1, 8, [.nilf]⟩
theorem tyOk146 : TyOk Tryz.prog 146 ty146 := .inr ⟨Tryz.t146, infoOf Tryz.type146, rfl, rfl, ⟨_, rfl, rfl, rfl⟩, _, Tryz.underlying146, rfl⟩
theorem tyZ146 : TyZ Tryz.prog 146 ty146 := .inr ⟨Tryz.t146, _, infoOf Tryz.type146, rfl, rfl⟩
def ty147 : TyI := ⟨.func, 1, 8, [.nilf]⟩
theorem tyOk147 : TyOk Tryz.prog 147 ty147 := .inr ⟨Tryz.t147, infoOf Tryz.type147, rfl, rfl, ⟨_, rfl, rfl, rfl⟩, _, Tryz.underlying147, rfl⟩
theorem tyZ147 : TyZ Tryz.prog 147 ty147 := .inr ⟨Tryz.t147, _, infoOf Tryz.type147, rfl, rfl⟩
def ty148 : TyI := ⟨.func, 1, 8, [.nilf]⟩
theorem tyOk148 : TyOk Tryz.prog 148 ty148 := .inr ⟨Tryz.t148, infoOf Tryz.type148, rfl, rfl, ⟨_, rfl, rfl, rfl⟩, _, Tryz.underlying148, rfl⟩
theorem tyZ148 : TyZ Tryz.prog 148 ty148 := .inr ⟨Tryz.t148, _, infoOf Tryz.type148, rfl, rfl⟩
def ty149 : TyI := ⟨.func, 1, 8, [.nilf]⟩
theorem tyOk149 : TyOk Tryz.prog 149 ty149 := .inr ⟨Tryz.t149, infoOf Tryz.type149, rfl, rfl, ⟨_, rfl, rfl, rfl⟩, _, Tryz.underlying149, rfl⟩
theorem tyZ149 : TyZ Tryz.prog 149 ty149 := .inr ⟨Tryz.t149, _, infoOf Tryz.type149, rfl, rfl⟩
def ty150 : TyI := ⟨.ptr 100, 1, 8, [.nilp]⟩
theorem tyOk150 : TyOk Tryz.prog 150 ty150 := .inr ⟨Tryz.t150, infoOf Tryz.type150, rfl, rfl, ⟨_, rfl, rfl, rfl⟩, _, Tryz.underlying150, rfl⟩
theorem tyZ150 : TyZ Tryz.prog 150 ty150 := .inr ⟨Tryz.t150, _, infoOf Tryz.type150, rfl, rfl⟩
def ty152 : TyI := ⟨.func, 1, 8, [.nilf]⟩
theorem tyOk152 : TyOk Tryz.prog 152 ty152 := .inr ⟨Tryz.t152, infoOf Tryz.type152, rfl, rfl, ⟨_, rfl, rfl, rfl⟩, _, Tryz.underlying152, rfl⟩
theorem tyZ152 : TyZ Tryz.prog 152 ty152 := .inr ⟨Tryz.t152, _, infoOf Tryz.type152, rfl, rfl⟩
def ty153 : TyI := ⟨.func, 1, 8, [.nilf]⟩
theorem tyOk153 : TyOk Tryz.prog 153 ty153 := .inr ⟨Tryz.t153, infoOf Tryz.type153, rfl, rfl, ⟨_, rfl, rfl, rfl⟩, _, Tryz.underlying153, rfl⟩
theorem tyZ153 : TyZ Tryz.prog 153 ty153 := .inr ⟨Tryz.t153, _, infoOf Tryz.type153, rfl, rfl⟩
def ty154 : TyI := ⟨.func, 1, 8, [.nilf]⟩
theorem tyOk154 : TyOk Tryz.prog 154 ty154 := .inr ⟨Tryz.t154, infoOf Tryz.type154, rfl, rfl, ⟨_, rfl, rfl, rfl⟩, _, Tryz.underlying154, rfl⟩
theorem tyZ154 : TyZ Tryz.prog 154 ty154 := .inr ⟨Tryz.t154, _, infoOf Tryz.type154, rfl, rfl⟩
def ty155 : TyI := ⟨.map 3 4, 1, 8, [.nilm]⟩
theorem tyOk155 : TyOk Tryz.prog 155 ty155 := .inr ⟨Tryz.t155, infoOf Tryz.type155, rfl, rfl, ⟨_, rfl, rfl, rfl⟩, _, Tryz.underlying155, rfl⟩
theorem tyZ155 : TyZ Tryz.prog 155 ty155 := .inr ⟨Tryz.t155, _, infoOf Tryz.type155, rfl, rfl⟩
def ty156 : TyI := ⟨.func, 1, 8, [.nilf]⟩
theorem tyOk156 : TyOk Tryz.prog 156 ty156 := .inr ⟨Tryz.t156, infoOf Tryz.type156, rfl, rfl, ⟨_, rfl, rfl, rfl⟩, _, Tryz.underlying156, rfl⟩
theorem tyZ156 : TyZ Tryz.prog 156 ty156 := .inr ⟨Tryz.t156, _, infoOf Tryz.type156, rfl, rfl⟩
def ty157 : TyI := ⟨.slice 22, 1, 24, [.slice true []]⟩
theorem tyOk157 : TyOk Tryz.prog 157 ty157 := .inr ⟨Tryz.t157, infoOf Tryz.type157, rfl, rfl, ⟨_, rfl, rfl, rfl⟩, _, Tryz.underlying157, rfl⟩
theorem tyZ157 : TyZ Tryz.prog 157 ty157 := .inr ⟨Tryz.t157, _, infoOf Tryz.type157, rfl, rfl⟩
def ty158 : TyI := ⟨.func, 1, 8, [.nilf]⟩
theorem tyOk158 : TyOk Tryz.prog 158 ty158 := .inr ⟨Tryz.t158, infoOf Tryz.type158, rfl, rfl, ⟨_, rfl, rfl, rfl⟩, _, Tryz.underlying158, rfl⟩
theorem tyZ158 : TyZ Tryz.prog 158 ty158 := .inr ⟨Tryz.t158, _, infoOf Tryz.type158, rfl, rfl⟩
def ty159 : TyI := ⟨.func, 1, 8, [.nilf]⟩
theorem tyOk159 : TyOk Tryz.prog 159 ty159 := .inr ⟨Tryz.t159, infoOf Tryz.type159, rfl, rfl, ⟨_, rfl, rfl, rfl⟩, _, Tryz.underlying159, rfl⟩
theorem tyZ159 : TyZ Tryz.prog 159 ty159 := .inr ⟨Tryz.t159, _, infoOf Tryz.type159, rfl, rfl⟩
def ty160 : TyI := ⟨.func, 1, 8, [.nilf]⟩
theorem tyOk160 : TyOk Tryz.prog 160 ty160 := .inr ⟨Tryz.t160, infoOf Tryz.type160, rfl, rfl, ⟨_, rfl, rfl, rfl⟩, _, Tryz.underlying160, rfl⟩
theorem tyZ160 : TyZ Tryz.prog 160 ty160 := .inr ⟨Tryz.t160, _, infoOf Tryz.type160, rfl, rfl⟩
def ty161 : TyI := ⟨.func, 1, 8, [.nilf]⟩
theorem tyOk161 : TyOk Tryz.prog 161 ty161 := .inr ⟨Tryz.t161, infoOf Tryz.type161, rfl, rfl, ⟨_, rfl, rfl, rfl⟩, _, Tryz.underlying161, rfl⟩
theorem tyZ161 : TyZ Tryz.prog 161 ty161 := .inr ⟨Tryz.t161, _, infoOf Tryz.type161, rfl, rfl⟩
def ty162 : TyI := ⟨.func, 1, 8, [.nilf]⟩
theorem tyOk162 : TyOk Tryz.prog 162 ty162 := .inr ⟨Tryz.t162, infoOf Tryz.type162, rfl, rfl, ⟨_, rfl, rfl, rfl⟩, _, Tryz.underlying162, rfl⟩
theorem tyZ162 : TyZ Tryz.prog 162 ty162 := .inr ⟨Tryz.t162, _, infoOf Tryz.type162, rfl, rfl⟩
def ty163 : TyI := ⟨.slice 169, 1, 24, [.slice true []]⟩
theorem tyOk163 : TyOk Tryz.prog 163 ty163 := .inr ⟨Tryz.t163, infoOf Tryz.type163, rfl, rfl, ⟨_, rfl, rfl, rfl⟩, _, Tryz.underlying163, rfl⟩
theorem tyZ163 : TyZ Tryz.prog 163 ty163 := .inr ⟨Tryz.t163, _, infoOf Tryz.type163, rfl, rfl⟩
def ty164 : TyI := ⟨.ptr 199, 1, 8, [.nilp]⟩
theorem tyOk164 : TyOk Tryz.prog 164 ty164 := .inr ⟨Tryz.t164, infoOf Tryz.type164, rfl, rfl, ⟨_, rfl, rfl, rfl⟩, _, Tryz.underlying164, rfl⟩
theorem tyZ164 : TyZ Tryz.prog 164 ty164 := .inr ⟨Tryz.t164, _, infoOf Tryz.type164, rfl, rfl⟩
def ty165 : TyI := ⟨.func, 1, 8, [.nilf]⟩
theorem tyOk165 : TyOk Tryz.prog 165 ty165 := .inr ⟨Tryz.t165, infoOf Tryz.type165, rfl, rfl, ⟨_, rfl, rfl, rfl⟩, _, Tryz.underlying165, rfl⟩
theorem tyZ165 : TyZ Tryz.prog 165 ty165 := .inr ⟨Tryz.t165, _, infoOf Tryz.type165, rfl, rfl⟩
def ty166 : TyI := ⟨.func, 1, 8, [.nilf]⟩
theorem tyOk166 : TyOk Tryz.prog 166 ty166 := .inr ⟨Tryz.t166, infoOf Tryz.type166, rfl, rfl, ⟨_, rfl, rfl, rfl⟩, _, Tryz.underlying166, rfl⟩
theorem tyZ166 : TyZ Tryz.prog 166 ty166 := .inr ⟨Tryz.t166, _, infoOf Tryz.type166, rfl, rfl⟩
def ty167 : TyI := ⟨.func, 1, 8, [.nilf]⟩
theorem tyOk167 : TyOk Tryz.prog 167 ty167 := .inr ⟨Tryz.t167, infoOf Tryz.type167, rfl, rfl, ⟨_, rfl, rfl, rfl⟩, _, Tryz.underlying167, rfl⟩
theorem tyZ167 : TyZ Tryz.prog 167 ty167 := .inr ⟨Tryz.t167, _, infoOf Tryz.type167, rfl, rfl⟩
def ty168 : TyI := ⟨.struct [(0, 63, "kinds"), (1, 167, "step")], 2, 32, [.slice true [], .nilf]⟩
theorem tyOk168 : TyOk Tryz.prog 168 ty168 := .inr ⟨Tryz.t168, infoOf Tryz.type168, rfl, rfl, ⟨_, rfl, rfl, rfl⟩, _, Tryz.underlying168, rfl⟩
theorem tyZ168 : TyZ Tryz.prog 168 ty168 := .inr ⟨Tryz.t168, _, infoOf Tryz.type168, rfl, rfl⟩
def ty169 : TyI := ⟨.struct [(0, 63, "kinds"), (1, 167, "step")], 2, 32, [.slice true [], .nilf]⟩
theorem tyOk169 : TyOk Tryz.prog 169 ty169 := .inr ⟨Tryz.t169, infoOf Tryz.type169, rfl, rfl, ⟨_, rfl, rfl, rfl⟩, _, Tryz.underlying169, rfl⟩
theorem tyZ169 : TyZ Tryz.prog 169 ty169 := .inr ⟨Tryz.t169, _, infoOf Tryz.type169, rfl, rfl⟩
def ty170 : TyI := ⟨.func, 1, 8, [.nilf]⟩
theorem tyOk170 : TyOk Tryz.prog 170 ty170 := .inr ⟨Tryz.t170, infoOf Tryz.type170, rfl, rfl, ⟨_, rfl, rfl, rfl⟩, _, Tryz.underlying170, rfl⟩
theorem tyZ170 : TyZ Tryz.prog 170 ty170 := .inr ⟨Tryz.t170, _, infoOf Tryz.type170, rfl, rfl⟩
def ty171 : TyI := ⟨.func, 1, 8, [.nilf]⟩
theorem tyOk171 : TyOk Tryz.prog 171 ty171 := .inr ⟨Tryz.t171, infoOf Tryz.type171, rfl, rfl, ⟨_, rfl, rfl, rfl⟩, _, Tryz.underlying171, rfl⟩
theorem tyZ171 : TyZ Tryz.prog 171 ty171 := .inr ⟨Tryz.t171, _, infoOf Tryz.type171, rfl, rfl⟩
def ty172 : TyI := ⟨.func, 1, 8, [.nilf]⟩
theorem tyOk172 : TyOk Tryz.prog 172 ty172 := .inr ⟨Tryz.t172, infoOf Tryz.type172, rfl, rfl, ⟨_, rfl, rfl, rfl⟩, _, Tryz.underlying172, rfl⟩
theorem tyZ172 : TyZ Tryz.prog 172 ty172 := .inr ⟨Tryz.t172, _, infoOf Tryz.type172, rfl, rfl⟩
def ty173 : TyI := ⟨.int .i64, 1, 8, [.int .i64 0]⟩
theorem tyOk173 : TyOk Tryz.prog 173 ty173 := .inr ⟨Tryz.t173, infoOf Tryz.type173, rfl, rfl, ⟨_, rfl, rfl, rfl⟩, _, Tryz.underlying173, rfl⟩
theorem tyZ173 : TyZ Tryz.prog 173 ty173 := .inr ⟨Tryz.t173, _, infoOf Tryz.type173, rfl, rfl⟩
def ty175 : TyI := ⟨.func, 1, 8, [.nilf]⟩
theorem tyOk175 : TyOk Tryz.prog 175 ty175 := .inr ⟨Tryz.t175, infoOf Tryz.type175, rfl, rfl, ⟨_, rfl, rfl, rfl⟩, _, Tryz.underlying175, rfl⟩
theorem tyZ175 : TyZ Tryz.prog 175 ty175 := .inr ⟨Tryz.t175, _, infoOf Tryz.type175, rfl, rfl⟩
def ty176 : TyI := ⟨.func, 1, 8, [.nilf]⟩
theorem tyOk176 : TyOk Tryz.prog 176 ty176 := .inr ⟨Tryz.t176, infoOf Tryz.type176, rfl, rfl, ⟨_, rfl, rfl, rfl⟩, _, Tryz.underlying176, rfl⟩
theorem tyZ176 : TyZ Tryz.prog 176 ty176 := .inr ⟨Tryz.t176, _, infoOf Tryz.type176, rfl, rfl⟩
def ty177 : TyI := ⟨.func, 1, 8, [.nilf]⟩
theorem tyOk177 : TyOk Tryz.prog 177 ty177 := .inr ⟨Tryz.t177, infoOf Tryz.type177, rfl, rfl, ⟨_, rfl, rfl, rfl⟩, _, Tryz.underlying177, rfl⟩
theorem tyZ177 : TyZ Tryz.prog 177 ty177 := .inr ⟨Tryz.t177, _, infoOf Tryz.type177, rfl, rfl⟩
def ty178 : TyI := ⟨.func, 1, 8, [.nilf]⟩
theorem tyOk178 : TyOk Tryz.prog 178 ty178 := .inr ⟨Tryz.t178, infoOf Tryz.type178, rfl, rfl, ⟨_, rfl, rfl, rfl⟩, _, Tryz.underlying178, rfl⟩
theorem tyZ178 : TyZ Tryz.prog 178 ty178 := .inr ⟨Tryz.t178, _, infoOf Tryz.type178, rfl, rfl⟩
def ty180 : TyI := ⟨.int .u32, 1, 4, [.int .u32 0]⟩
theorem tyOk180 : TyOk Tryz.prog 180 ty180 := .inr ⟨Tryz.t180, infoOf Tryz.type180, rfl, rfl, ⟨_, rfl, rfl, rfl⟩, _, Tryz.underlying180, rfl⟩
theorem tyZ180 : TyZ Tryz.prog 180 ty180 := .inr ⟨Tryz.t180, _, infoOf Tryz.type180, rfl, rfl⟩
def ty182 : TyI := ⟨.int .u64, 1, 8, [.int .u64 0]⟩
theorem tyOk182 : TyOk Tryz.prog 182 ty182 := .inr ⟨Tryz.t182, infoOf Tryz.type182, rfl, rfl, ⟨_, rfl, rfl, rfl⟩, _, Tryz.underlying182, rfl⟩
theorem tyZ182 : TyZ Tryz.prog 182 ty182 := .inr ⟨Tryz.t182, _, infoOf Tryz.type182, rfl, rfl⟩
def ty184 : TyI := ⟨.func, 1, 8, [.nilf]⟩
theorem tyOk184 : TyOk Tryz.prog 184 ty184 := .inr ⟨Tryz.t184, infoOf Tryz.type184, rfl, rfl, ⟨_, rfl, rfl, rfl⟩, _, Tryz.underlying184, rfl⟩
theorem tyZ184 : TyZ Tryz.prog 184 ty184 := .inr ⟨Tryz.t184, _, infoOf Tryz.type184, rfl, rfl⟩
def ty185 : TyI := ⟨.struct [(0, 33, "e")], 1, 8, [.int .i64 0]⟩
theorem tyOk185 : TyOk Tryz.prog 185 ty185 := .inr ⟨Tryz.t185, infoOf Tryz.type185, rfl, rfl, ⟨_, rfl, rfl, rfl⟩, _, Tryz.underlying185, rfl⟩
theorem tyZ185 : TyZ Tryz.prog 185 ty185 := .inr ⟨Tryz.t185, _, infoOf Tryz.type185, rfl, rfl⟩
def ty186 : TyI := ⟨.struct [(0, 33, "e")], 1, 8, [.int .i64 0]⟩
theorem tyOk186 : TyOk Tryz.prog 186 ty186 := .inr ⟨Tryz.t186, infoOf Tryz.type186, rfl, rfl, ⟨_, rfl, rfl, rfl⟩, _, Tryz.underlying186, rfl⟩
theorem tyZ186 : TyZ Tryz.prog 186 ty186 := .inr ⟨Tryz.t186, _, infoOf Tryz.type186, rfl, rfl⟩
def ty187 : TyI := ⟨.func, 1, 8, [.nilf]⟩
theorem tyOk187 : TyOk Tryz.prog 187 ty187 := .inr ⟨Tryz.t187, infoOf Tryz.type187, rfl, rfl, ⟨_, rfl, rfl, rfl⟩, _, Tryz.underlying187, rfl⟩
theorem tyZ187 : TyZ Tryz.prog 187 ty187 := .inr ⟨Tryz.t187, _, infoOf Tryz.type187, rfl, rfl⟩
def ty188 : TyI := ⟨.func, 1, 8, [.nilf]⟩
theorem tyOk188 : TyOk Tryz.prog 188 ty188 := .inr ⟨Tryz.t188, infoOf Tryz.type188, rfl, rfl, ⟨_, rfl, rfl, rfl⟩, _, Tryz.underlying188, rfl⟩
theorem tyZ188 : TyZ Tryz.prog 188 ty188 := .inr ⟨Tryz.t188, _, infoOf Tryz.type188, rfl, rfl⟩
def ty189 : TyI := ⟨.func, 1, 8, [.nilf]⟩
theorem tyOk189 : TyOk Tryz.prog 189 ty189 := .inr ⟨Tryz.t189, infoOf Tryz.type189, rfl, rfl, ⟨_, rfl, rfl, rfl⟩, _, Tryz.underlying189, rfl⟩
theorem tyZ189 : TyZ Tryz.prog 189 ty189 := .inr ⟨Tryz.t189, _, infoOf Tryz.type189, rfl, rfl⟩
def ty190 : TyI := ⟨.func, 1, 8, [.nilf]⟩
theorem tyOk190 : TyOk Tryz.prog 190 ty190 := .inr ⟨Tryz.t190, infoOf Tryz.type190, rfl, rfl, ⟨_, rfl, rfl, rfl⟩, _, Tryz.underlying190, rfl⟩
theorem tyZ190 : TyZ Tryz.prog 190 ty190 := .inr ⟨Tryz.t190, _, infoOf Tryz.type190, rfl, rfl⟩
def ty191 : TyI := ⟨.func, 1, 8, [.nilf]⟩
theorem tyOk191 : TyOk Tryz.prog 191 ty191 := .inr ⟨Tryz.t191, infoOf Tryz.type191, rfl, rfl, ⟨_, rfl, rfl, rfl⟩, _, Tryz.underlying191, rfl⟩
theorem tyZ191 : TyZ Tryz.prog 191 ty191 := .inr ⟨Tryz.t191, _, infoOf Tryz.type191, rfl, rfl⟩
def ty192 : TyI := ⟨.func, 1, 8, [.nilf]⟩
theorem tyOk192 : TyOk Tryz.prog 192 ty192 := .inr ⟨Tryz.t192, infoOf Tryz.type192, rfl, rfl, ⟨_, rfl, rfl, rfl⟩, _, Tryz.underlying192, rfl⟩
theorem tyZ192 : TyZ Tryz.prog 192 ty192 := .inr ⟨Tryz.t192, _, infoOf Tryz.type192, rfl, rfl⟩
def ty193 : TyI := ⟨.func, 1, 8, [.nilf]⟩
theorem tyOk193 : TyOk Tryz.prog 193 ty193 := .inr ⟨Tryz.t193, infoOf Tryz.type193, rfl, rfl, ⟨_, rfl, rfl, rfl⟩, _, Tryz.underlying193, rfl⟩
theorem tyZ193 : TyZ Tryz.prog 193 ty193 := .inr ⟨Tryz.t193, _, infoOf Tryz.type193, rfl, rfl⟩
def ty194 : TyI := ⟨.func, 1, 8, [.nilf]⟩
theorem tyOk194 : TyOk Tryz.prog 194 ty194 := .inr ⟨Tryz.t194, infoOf Tryz.type194, rfl, rfl, ⟨_, rfl, rfl, rfl⟩, _, Tryz.underlying194, rfl⟩
theorem tyZ194 : TyZ Tryz.prog 194 ty194 := .inr ⟨Tryz.t194, _, infoOf Tryz.type194, rfl, rfl⟩
def ty195 : TyI := ⟨.func, 1, 8, [.nilf]⟩
theorem tyOk195 : TyOk Tryz.prog 195 ty195 := .inr ⟨Tryz.t195, infoOf Tryz.type195, rfl, rfl, ⟨_, rfl, rfl, rfl⟩, _, Tryz.underlying195, rfl⟩
theorem tyZ195 : TyZ Tryz.prog 195 ty195 := .inr ⟨Tryz.t195, _, infoOf Tryz.type195, rfl, rfl⟩
def ty196 : TyI := ⟨.func, 1, 8, [.nilf]⟩
theorem tyOk196 : TyOk Tryz.prog 196 ty196 := .inr ⟨Tryz.t196, infoOf Tryz.type196, rfl, rfl, ⟨_, rfl, rfl, rfl⟩, _, Tryz.underlying196, rfl⟩
theorem tyZ196 : TyZ Tryz.prog 196 ty196 := .inr ⟨Tryz.t196, _, infoOf Tryz.type196, rfl, rfl⟩
def ty197 : TyI := ⟨.func, 1, 8, [.nilf]⟩
theorem tyOk197 : TyOk Tryz.prog 197 ty197 := .inr ⟨Tryz.t197, infoOf Tryz.type197, rfl, rfl, ⟨_, rfl, rfl, rfl⟩, _, Tryz.underlying197, rfl⟩
theorem tyZ197 : TyZ Tryz.prog 197 ty197 := .inr ⟨Tryz.t197, _, infoOf Tryz.type197, rfl, rfl⟩
def ty198 : TyI := ⟨.struct [(0, 22, "adds"), (1, 28, "gone"), (2, 82, "reach"), (3, 22, "have"), (4, 28, "held")], 5, 104, [.slice true [], .slice true [], .nilm, .slice true [], .slice true []]⟩
theorem tyOk198 : TyOk Tryz.prog 198 ty198 := .inr ⟨Tryz.t198, infoOf Tryz.type198, rfl, rfl, ⟨_, rfl, rfl, rfl⟩, _, Tryz.underlying198, rfl⟩
theorem tyZ198 : TyZ Tryz.prog 198 ty198 := .inr ⟨Tryz.t198, _, infoOf Tryz.type198, rfl, rfl⟩
def ty199 : TyI := ⟨.struct [(0, 22, "adds"), (1, 28, "gone"), (2, 82, "reach"), (3, 22, "have"), (4, 28, "held")], 5, 104, [.slice true [], .slice true [], .nilm, .slice true [], .slice true []]⟩
theorem tyOk199 : TyOk Tryz.prog 199 ty199 := .inr ⟨Tryz.t199, infoOf Tryz.type199, rfl, rfl, ⟨_, rfl, rfl, rfl⟩, _, Tryz.underlying199, rfl⟩
theorem tyZ199 : TyZ Tryz.prog 199 ty199 := .inr ⟨Tryz.t199, _, infoOf Tryz.type199, rfl, rfl⟩
def ty204 : TyI := ⟨.func, 1, 8, [.nilf]⟩
theorem tyOk204 : TyOk Tryz.prog 204 ty204 := .inr ⟨Tryz.t204, infoOf Tryz.type204, rfl, rfl, ⟨_, rfl, rfl, rfl⟩, _, Tryz.underlying204, rfl⟩
theorem tyZ204 : TyZ Tryz.prog 204 ty204 := .inr ⟨Tryz.t204, _, infoOf Tryz.type204, rfl, rfl⟩
def ty206 : TyI := ⟨.struct [(0, 4, "port"), (1, 4, "to"), (2, 4, "rules"), (3, 4, "hosts")], 4, 4, [.bool false, .bool false, .bool false, .bool false]⟩
theorem tyOk206 : TyOk Tryz.prog 206 ty206 := .inr ⟨Tryz.t206, infoOf Tryz.type206, rfl, rfl, ⟨_, rfl, rfl, rfl⟩, _, Tryz.underlying206, rfl⟩
theorem tyZ206 : TyZ Tryz.prog 206 ty206 := .inr ⟨Tryz.t206, _, infoOf Tryz.type206, rfl, rfl⟩
def ty207 : TyI := ⟨.func, 1, 8, [.nilf]⟩
theorem tyOk207 : TyOk Tryz.prog 207 ty207 := .inr ⟨Tryz.t207, infoOf Tryz.type207, rfl, rfl, ⟨_, rfl, rfl, rfl⟩, _, Tryz.underlying207, rfl⟩
theorem tyZ207 : TyZ Tryz.prog 207 ty207 := .inr ⟨Tryz.t207, _, infoOf Tryz.type207, rfl, rfl⟩
def ty208 : TyI := ⟨.func, 1, 8, [.nilf]⟩
theorem tyOk208 : TyOk Tryz.prog 208 ty208 := .inr ⟨Tryz.t208, infoOf Tryz.type208, rfl, rfl, ⟨_, rfl, rfl, rfl⟩, _, Tryz.underlying208, rfl⟩
theorem tyZ208 : TyZ Tryz.prog 208 ty208 := .inr ⟨Tryz.t208, _, infoOf Tryz.type208, rfl, rfl⟩
def ty209 : TyI := ⟨.func, 1, 8, [.nilf]⟩
theorem tyOk209 : TyOk Tryz.prog 209 ty209 := .inr ⟨Tryz.t209, infoOf Tryz.type209, rfl, rfl, ⟨_, rfl, rfl, rfl⟩, _, Tryz.underlying209, rfl⟩
theorem tyZ209 : TyZ Tryz.prog 209 ty209 := .inr ⟨Tryz.t209, _, infoOf Tryz.type209, rfl, rfl⟩
def ty210 : TyI := ⟨.int .u64, 1, 8, [.int .u64 0]⟩
theorem tyOk210 : TyOk Tryz.prog 210 ty210 := .inr ⟨Tryz.t210, infoOf Tryz.type210, rfl, rfl, ⟨_, rfl, rfl, rfl⟩, _, Tryz.underlying210, rfl⟩
theorem tyZ210 : TyZ Tryz.prog 210 ty210 := .inr ⟨Tryz.t210, _, infoOf Tryz.type210, rfl, rfl⟩
def ty211 : TyI := ⟨.func, 1, 8, [.nilf]⟩
theorem tyOk211 : TyOk Tryz.prog 211 ty211 := .inr ⟨Tryz.t211, infoOf Tryz.type211, rfl, rfl, ⟨_, rfl, rfl, rfl⟩, _, Tryz.underlying211, rfl⟩
theorem tyZ211 : TyZ Tryz.prog 211 ty211 := .inr ⟨Tryz.t211, _, infoOf Tryz.type211, rfl, rfl⟩
def ty212 : TyI := ⟨.func, 1, 8, [.nilf]⟩
theorem tyOk212 : TyOk Tryz.prog 212 ty212 := .inr ⟨Tryz.t212, infoOf Tryz.type212, rfl, rfl, ⟨_, rfl, rfl, rfl⟩, _, Tryz.underlying212, rfl⟩
theorem tyZ212 : TyZ Tryz.prog 212 ty212 := .inr ⟨Tryz.t212, _, infoOf Tryz.type212, rfl, rfl⟩
def ty214 : TyI := ⟨.ptr 3, 1, 8, [.nilp]⟩
theorem tyOk214 : TyOk Tryz.prog 214 ty214 := .inr ⟨Tryz.t214, infoOf Tryz.type214, rfl, rfl, ⟨_, rfl, rfl, rfl⟩, _, Tryz.underlying214, rfl⟩
theorem tyZ214 : TyZ Tryz.prog 214 ty214 := .inr ⟨Tryz.t214, _, infoOf Tryz.type214, rfl, rfl⟩
def ty217 : TyI := ⟨.func, 1, 8, [.nilf]⟩
theorem tyOk217 : TyOk Tryz.prog 217 ty217 := .inr ⟨Tryz.t217, infoOf Tryz.type217, rfl, rfl, ⟨_, rfl, rfl, rfl⟩, _, Tryz.underlying217, rfl⟩
theorem tyZ217 : TyZ Tryz.prog 217 ty217 := .inr ⟨Tryz.t217, _, infoOf Tryz.type217, rfl, rfl⟩
def ty219 : TyI := ⟨.func, 1, 8, [.nilf]⟩
theorem tyOk219 : TyOk Tryz.prog 219 ty219 := .inr ⟨Tryz.t219, infoOf Tryz.type219, rfl, rfl, ⟨_, rfl, rfl, rfl⟩, _, Tryz.underlying219, rfl⟩
theorem tyZ219 : TyZ Tryz.prog 219 ty219 := .inr ⟨Tryz.t219, _, infoOf Tryz.type219, rfl, rfl⟩
def ty220 : TyI := ⟨.func, 1, 8, [.nilf]⟩
theorem tyOk220 : TyOk Tryz.prog 220 ty220 := .inr ⟨Tryz.t220, infoOf Tryz.type220, rfl, rfl, ⟨_, rfl, rfl, rfl⟩, _, Tryz.underlying220, rfl⟩
theorem tyZ220 : TyZ Tryz.prog 220 ty220 := .inr ⟨Tryz.t220, _, infoOf Tryz.type220, rfl, rfl⟩
def ty221 : TyI := ⟨.func, 1, 8, [.nilf]⟩
theorem tyOk221 : TyOk Tryz.prog 221 ty221 := .inr ⟨Tryz.t221, infoOf Tryz.type221, rfl, rfl, ⟨_, rfl, rfl, rfl⟩, _, Tryz.underlying221, rfl⟩
theorem tyZ221 : TyZ Tryz.prog 221 ty221 := .inr ⟨Tryz.t221, _, infoOf Tryz.type221, rfl, rfl⟩
def ty222 : TyI := ⟨.ptr 210, 1, 8, [.nilp]⟩
theorem tyOk222 : TyOk Tryz.prog 222 ty222 := .inr ⟨Tryz.t222, infoOf Tryz.type222, rfl, rfl, ⟨_, rfl, rfl, rfl⟩, _, Tryz.underlying222, rfl⟩
theorem tyZ222 : TyZ Tryz.prog 222 ty222 := .inr ⟨Tryz.t222, _, infoOf Tryz.type222, rfl, rfl⟩
def ty224 : TyI := ⟨.func, 1, 8, [.nilf]⟩
theorem tyOk224 : TyOk Tryz.prog 224 ty224 := .inr ⟨Tryz.t224, infoOf Tryz.type224, rfl, rfl, ⟨_, rfl, rfl, rfl⟩, _, Tryz.underlying224, rfl⟩
theorem tyZ224 : TyZ Tryz.prog 224 ty224 := .inr ⟨Tryz.t224, _, infoOf Tryz.type224, rfl, rfl⟩
def ty228 : TyI := ⟨.func, 1, 8, [.nilf]⟩
theorem tyOk228 : TyOk Tryz.prog 228 ty228 := .inr ⟨Tryz.t228, infoOf Tryz.type228, rfl, rfl, ⟨_, rfl, rfl, rfl⟩, _, Tryz.underlying228, rfl⟩
theorem tyZ228 : TyZ Tryz.prog 228 ty228 := .inr ⟨Tryz.t228, _, infoOf Tryz.type228, rfl, rfl⟩
def ty229 : TyI := ⟨.func, 1, 8, [.nilf]⟩
theorem tyOk229 : TyOk Tryz.prog 229 ty229 := .inr ⟨Tryz.t229, infoOf Tryz.type229, rfl, rfl, ⟨_, rfl, rfl, rfl⟩, _, Tryz.underlying229, rfl⟩
theorem tyZ229 : TyZ Tryz.prog 229 ty229 := .inr ⟨Tryz.t229, _, infoOf Tryz.type229, rfl, rfl⟩
def ty230 : TyI := ⟨.func, 1, 8, [.nilf]⟩
theorem tyOk230 : TyOk Tryz.prog 230 ty230 := .inr ⟨Tryz.t230, infoOf Tryz.type230, rfl, rfl, ⟨_, rfl, rfl, rfl⟩, _, Tryz.underlying230, rfl⟩
theorem tyZ230 : TyZ Tryz.prog 230 ty230 := .inr ⟨Tryz.t230, _, infoOf Tryz.type230, rfl, rfl⟩
def ty231 : TyI := ⟨.func, 1, 8, [.nilf]⟩
theorem tyOk231 : TyOk Tryz.prog 231 ty231 := .inr ⟨Tryz.t231, infoOf Tryz.type231, rfl, rfl, ⟨_, rfl, rfl, rfl⟩, _, Tryz.underlying231, rfl⟩
theorem tyZ231 : TyZ Tryz.prog 231 ty231 := .inr ⟨Tryz.t231, _, infoOf Tryz.type231, rfl, rfl⟩
def ty232 : TyI := ⟨.func, 1, 8, [.nilf]⟩
theorem tyOk232 : TyOk Tryz.prog 232 ty232 := .inr ⟨Tryz.t232, infoOf Tryz.type232, rfl, rfl, ⟨_, rfl, rfl, rfl⟩, _, Tryz.underlying232, rfl⟩
theorem tyZ232 : TyZ Tryz.prog 232 ty232 := .inr ⟨Tryz.t232, _, infoOf Tryz.type232, rfl, rfl⟩
def ty233 : TyI := ⟨.func, 1, 8, [.nilf]⟩
theorem tyOk233 : TyOk Tryz.prog 233 ty233 := .inr ⟨Tryz.t233, infoOf Tryz.type233, rfl, rfl, ⟨_, rfl, rfl, rfl⟩, _, Tryz.underlying233, rfl⟩
theorem tyZ233 : TyZ Tryz.prog 233 ty233 := .inr ⟨Tryz.t233, _, infoOf Tryz.type233, rfl, rfl⟩
def ty237 : TyI := ⟨.func, 1, 8, [.nilf]⟩
theorem tyOk237 : TyOk Tryz.prog 237 ty237 := .inr ⟨Tryz.t237, infoOf Tryz.type237, rfl, rfl, ⟨_, rfl, rfl, rfl⟩, _, Tryz.underlying237, rfl⟩
theorem tyZ237 : TyZ Tryz.prog 237 ty237 := .inr ⟨Tryz.t237, _, infoOf Tryz.type237, rfl, rfl⟩
def ty240 : TyI := ⟨.struct [(0, 5, "lo"), (1, 5, "hi")], 2, 2, [.int .u8 0, .int .u8 0]⟩
theorem tyOk240 : TyOk Tryz.prog 240 ty240 := .inr ⟨Tryz.t240, infoOf Tryz.type240, rfl, rfl, ⟨_, rfl, rfl, rfl⟩, _, Tryz.underlying240, rfl⟩
theorem tyZ240 : TyZ Tryz.prog 240 ty240 := .inr ⟨Tryz.t240, _, infoOf Tryz.type240, rfl, rfl⟩
def ty241 : TyI := ⟨.array 16 240, 32, 32, [.int .u8 0, .int .u8 0, .int .u8 0, .int .u8 0, .int .u8 0, .int .u8 0, .int .u8 0, .int .u8 0, .int .u8 0, .int .u8 0, .int .u8 0, .int .u8 0, .int .u8 0, .int .u8 0, .int .u8 0, .int .u8 0, .int .u8 0, .int .u8 0, .int .u8 0, .int .u8 0, .int .u8 0, .int .u8 0, .int .u8 0, .int .u8 0, .int .u8 0, .int .u8 0, .int .u8 0, .int .u8 0, .int .u8 0, .int .u8 0, .int .u8 0, .int .u8 0]⟩
theorem tyOk241 : TyOk Tryz.prog 241 ty241 := .inr ⟨Tryz.t241, infoOf Tryz.type241, rfl, rfl, ⟨_, rfl, rfl, rfl⟩, _, Tryz.underlying241, rfl⟩
theorem tyZ241 : TyZ Tryz.prog 241 ty241 := .inr ⟨Tryz.t241, _, infoOf Tryz.type241, rfl, rfl⟩
def ty242 : TyI := ⟨.func, 1, 8, [.nilf]⟩
theorem tyOk242 : TyOk Tryz.prog 242 ty242 := .inr ⟨Tryz.t242, infoOf Tryz.type242, rfl, rfl, ⟨_, rfl, rfl, rfl⟩, _, Tryz.underlying242, rfl⟩
theorem tyZ242 : TyZ Tryz.prog 242 ty242 := .inr ⟨Tryz.t242, _, infoOf Tryz.type242, rfl, rfl⟩
def ty245 : TyI := ⟨.func, 1, 8, [.nilf]⟩
theorem tyOk245 : TyOk Tryz.prog 245 ty245 := .inr ⟨Tryz.t245, infoOf Tryz.type245, rfl, rfl, ⟨_, rfl, rfl, rfl⟩, _, Tryz.underlying245, rfl⟩
theorem tyZ245 : TyZ Tryz.prog 245 ty245 := .inr ⟨Tryz.t245, _, infoOf Tryz.type245, rfl, rfl⟩
def ty246 : TyI := ⟨.struct [(0, 17, "_interface"), (1, 17, "concrete"), (2, 17, "asserted"), (3, 9, "missingMethod")], 4, 40, [.nilp, .nilp, .nilp, .str []]⟩
theorem tyOk246 : TyOk Tryz.prog 246 ty246 := .inr ⟨Tryz.t246, infoOf Tryz.type246, rfl, rfl, ⟨_, rfl, rfl, rfl⟩, _, Tryz.underlying246, rfl⟩
theorem tyZ246 : TyZ Tryz.prog 246 ty246 := .inr ⟨Tryz.t246, _, infoOf Tryz.type246, rfl, rfl⟩
def ty247 : TyI := ⟨.struct [(0, 17, "_interface"), (1, 17, "concrete"), (2, 17, "asserted"), (3, 9, "missingMethod")], 4, 40, [.nilp, .nilp, .nilp, .str []]⟩
theorem tyOk247 : TyOk Tryz.prog 247 ty247 := .inr ⟨Tryz.t247, infoOf Tryz.type247, rfl, rfl, ⟨_, rfl, rfl, rfl⟩, _, Tryz.underlying247, rfl⟩
theorem tyZ247 : TyZ Tryz.prog 247 ty247 := .inr ⟨Tryz.t247, _, infoOf Tryz.type247, rfl, rfl⟩
def ty248 : TyI := ⟨.array 0 16, 0, 0, []⟩
theorem tyOk248 : TyOk Tryz.prog 248 ty248 := .inr ⟨Tryz.t248, infoOf Tryz.type248, rfl, rfl, ⟨_, rfl, rfl, rfl⟩, _, Tryz.underlying248, rfl⟩
theorem tyZ248 : TyZ Tryz.prog 248 ty248 := .inr ⟨Tryz.t248, _, infoOf Tryz.type248, rfl, rfl⟩
def ty249 : TyI := ⟨.struct [(0, 248, "_")], 0, 0, []⟩
theorem tyOk249 : TyOk Tryz.prog 249 ty249 := .inr ⟨Tryz.t249, infoOf Tryz.type249, rfl, rfl, ⟨_, rfl, rfl, rfl⟩, _, Tryz.underlying249, rfl⟩
theorem tyZ249 : TyZ Tryz.prog 249 ty249 := .inr ⟨Tryz.t249, _, infoOf Tryz.type249, rfl, rfl⟩
def ty250 : TyI := ⟨.struct [(0, 248, "_")], 0, 0, []⟩
theorem tyOk250 : TyOk Tryz.prog 250 ty250 := .inr ⟨Tryz.t250, infoOf Tryz.type250, rfl, rfl, ⟨_, rfl, rfl, rfl⟩, _, Tryz.underlying250, rfl⟩
theorem tyZ250 : TyZ Tryz.prog 250 ty250 := .inr ⟨Tryz.t250, _, infoOf Tryz.type250, rfl, rfl⟩
def ty252 : TyI := ⟨.int .u8, 1, 1, [.int .u8 0]⟩
theorem tyOk252 : TyOk Tryz.prog 252 ty252 := .inr ⟨Tryz.t252, infoOf Tryz.type252, rfl, rfl, ⟨_, rfl, rfl, rfl⟩, _, Tryz.underlying252, rfl⟩
theorem tyZ252 : TyZ Tryz.prog 252 ty252 := .inr ⟨Tryz.t252, _, infoOf Tryz.type252, rfl, rfl⟩
def ty253 : TyI := ⟨.int .u8, 1, 1, [.int .u8 0]⟩
theorem tyOk253 : TyOk Tryz.prog 253 ty253 := .inr ⟨Tryz.t253, infoOf Tryz.type253, rfl, rfl, ⟨_, rfl, rfl, rfl⟩, _, Tryz.underlying253, rfl⟩
theorem tyZ253 : TyZ Tryz.prog 253 ty253 := .inr ⟨Tryz.t253, _, infoOf Tryz.type253, rfl, rfl⟩
def ty254 : TyI := ⟨.func, 1, 8, [.nilf]⟩
theorem tyOk254 : TyOk Tryz.prog 254 ty254 := .inr ⟨Tryz.t254, infoOf Tryz.type254, rfl, rfl, ⟨_, rfl, rfl, rfl⟩, _, Tryz.underlying254, rfl⟩
theorem tyZ254 : TyZ Tryz.prog 254 ty254 := .inr ⟨Tryz.t254, _, infoOf Tryz.type254, rfl, rfl⟩
def ty255 : TyI := ⟨.ptr 5, 1, 8, [.nilp]⟩
theorem tyOk255 : TyOk Tryz.prog 255 ty255 := .inr ⟨Tryz.t255, infoOf Tryz.type255, rfl, rfl, ⟨_, rfl, rfl, rfl⟩, _, Tryz.underlying255, rfl⟩
theorem tyZ255 : TyZ Tryz.prog 255 ty255 := .inr ⟨Tryz.t255, _, infoOf Tryz.type255, rfl, rfl⟩
def ty256 : TyI := ⟨.int .i32, 1, 4, [.int .i32 0]⟩
theorem tyOk256 : TyOk Tryz.prog 256 ty256 := .inr ⟨Tryz.t256, infoOf Tryz.type256, rfl, rfl, ⟨_, rfl, rfl, rfl⟩, _, Tryz.underlying256, rfl⟩
theorem tyZ256 : TyZ Tryz.prog 256 ty256 := .inr ⟨Tryz.t256, _, infoOf Tryz.type256, rfl, rfl⟩
def ty257 : TyI := ⟨.int .i32, 1, 4, [.int .i32 0]⟩
theorem tyOk257 : TyOk Tryz.prog 257 ty257 := .inr ⟨Tryz.t257, infoOf Tryz.type257, rfl, rfl, ⟨_, rfl, rfl, rfl⟩, _, Tryz.underlying257, rfl⟩
theorem tyZ257 : TyZ Tryz.prog 257 ty257 := .inr ⟨Tryz.t257, _, infoOf Tryz.type257, rfl, rfl⟩
def ty259 : TyI := ⟨.struct [(0, 12, "Size_"), (1, 12, "PtrBytes"), (2, 180, "Hash"), (3, 252, "TFlag"), (4, 5, "Align_"), (5, 5, "FieldAlign_"), (6, 253, "Kind_"), (7, 254, "Equal"), (8, 255, "GCData"), (9, 256, "Str"), (10, 257, "PtrToThis")], 11, 48, [.int .u64 0, .int .u64 0, .int .u32 0, .int .u8 0, .int .u8 0, .int .u8 0, .int .u8 0, .nilf, .nilp, .int .i32 0, .int .i32 0]⟩
theorem tyOk259 : TyOk Tryz.prog 259 ty259 := .inr ⟨Tryz.t259, infoOf Tryz.type259, rfl, rfl, ⟨_, rfl, rfl, rfl⟩, _, Tryz.underlying259, rfl⟩
theorem tyZ259 : TyZ Tryz.prog 259 ty259 := .inr ⟨Tryz.t259, _, infoOf Tryz.type259, rfl, rfl⟩
def tyL : List (Nat × TyI) := [(1, ty1), (2, ty2), (3, ty3), (4, ty4), (5, ty5), (6, ty6), (7, ty7), (8, ty8), (9, ty9), (10, ty10), (11, ty11), (12, ty12), (13, ty13), (14, ty14), (15, ty15), (16, ty16), (17, ty17), (18, ty18), (19, ty19), (21, ty21), (22, ty22), (23, ty23), (24, ty24), (25, ty25), (26, ty26), (27, ty27), (28, ty28), (29, ty29), (30, ty30), (31, ty31), (32, ty32), (33, ty33), (34, ty34), (35, ty35), (36, ty36), (37, ty37), (38, ty38), (39, ty39), (40, ty40), (41, ty41), (42, ty42), (44, ty44), (45, ty45), (47, ty47), (48, ty48), (49, ty49), (50, ty50), (51, ty51), (52, ty52), (53, ty53), (54, ty54), (55, ty55), (56, ty56), (57, ty57), (58, ty58), (59, ty59), (60, ty60), (61, ty61), (62, ty62), (63, ty63), (64, ty64), (65, ty65), (66, ty66), (67, ty67), (69, ty69), (70, ty70), (71, ty71), (72, ty72), (73, ty73), (74, ty74), (75, ty75), (76, ty76), (77, ty77), (78, ty78), (79, ty79), (80, ty80), (81, ty81), (82, ty82), (83, ty83), (84, ty84), (85, ty85), (86, ty86), (87, ty87), (88, ty88), (89, ty89), (90, ty90), (91, ty91), (92, ty92), (93, ty93), (94, ty94), (95, ty95), (96, ty96), (97, ty97), (98, ty98), (99, ty99), (100, ty100), (102, ty102), (103, ty103), (104, ty104), (105, ty105), (106, ty106), (107, ty107), (108, ty108), (109, ty109), (110, ty110), (111, ty111), (112, ty112), (113, ty113), (114, ty114), (115, ty115), (116, ty116), (117, ty117), (118, ty118), (119, ty119), (120, ty120), (122, ty122), (124, ty124), (126, ty126), (128, ty128), (130, ty130), (131, ty131), (132, ty132), (133, ty133), (134, ty134), (135, ty135), (136, ty136), (137, ty137), (138, ty138), (139, ty139), (140, ty140), (141, ty141), (142, ty142), (143, ty143), (144, ty144), (145, ty145), (146, ty146), (147, ty147), (148, ty148), (149, ty149), (150, ty150), (152, ty152), (153, ty153), (154, ty154), (155, ty155), (156, ty156), (157, ty157), (158, ty158), (159, ty159), (160, ty160), (161, ty161), (162, ty162), (163, ty163), (164, ty164), (165, ty165), (166, ty166), (167, ty167), (168, ty168), (169, ty169), (170, ty170), (171, ty171), (172, ty172), (173, ty173), (175, ty175), (176, ty176), (177, ty177), (178, ty178), (180, ty180), (182, ty182), (184, ty184), (185, ty185), (186, ty186), (187, ty187), (188, ty188), (189, ty189), (190, ty190), (191, ty191), (192, ty192), (193, ty193), (194, ty194), (195, ty195), (196, ty196), (197, ty197), (198, ty198), (199, ty199), (204, ty204), (206, ty206), (207, ty207), (208, ty208), (209, ty209), (210, ty210), (211, ty211), (212, ty212), (214, ty214), (217, ty217), (219, ty219), (220, ty220), (221, ty221), (222, ty222), (224, ty224), (228, ty228), (229, ty229), (230, ty230), (231, ty231), (232, ty232), (233, ty233), (237, ty237), (240, ty240), (241, ty241), (242, ty242), (245, ty245), (246, ty246), (247, ty247), (248, ty248), (249, ty249), (250, ty250), (252, ty252), (253, ty253), (254, ty254), (255, ty255), (256, ty256), (257, ty257), (259, ty259)]
def AllZ (P : Program) : List (Nat × TyI) → Prop
  | [] => True
  | p :: r => TyZ P p.1 p.2 ∧ AllZ P r
def AllOk (P : Program) : List (Nat × TyI) → Prop
  | [] => True
  | p :: r => TyOk P p.1 p.2 ∧ AllOk P r
def tyOf (l : List (Nat × TyI)) (t : Nat) : TyI := (l.lookup t).getD ⟨.unk, 0, 0, []⟩
theorem allOk_ok {P : Program} : ∀ (l : List (Nat × TyI)), AllOk P l → ∀ t, TyOk P t (tyOf l t)
  | [], _, t => .inl rfl
  | (i, x) :: r, h, t => by
    unfold tyOf
    by_cases e : t = i
    · subst e; simpa [List.lookup] using h.1
    · have e' : (t == i) = false := by simpa using e
      have : ((i, x) :: r).lookup t = r.lookup t := by simp [List.lookup, e']
      rw [this]; exact allOk_ok r h.2 t
theorem allZ_ok {P : Program} : ∀ (l : List (Nat × TyI)), AllZ P l → ∀ t, TyZ P t (tyOf l t)
  | [], _, t => .inl rfl
  | (i, x) :: r, h, t => by
    unfold tyOf
    by_cases e : t = i
    · subst e; simpa [List.lookup] using h.1
    · have e' : (t == i) = false := by simpa using e
      have : ((i, x) :: r).lookup t = r.lookup t := by simp [List.lookup, e']
      rw [this]; exact allZ_ok r h.2 t
theorem tyL_z : AllZ Tryz.prog tyL := ⟨tyZ1, tyZ2, tyZ3, tyZ4, tyZ5, tyZ6, tyZ7, tyZ8, tyZ9, tyZ10, tyZ11, tyZ12, tyZ13, tyZ14, tyZ15, tyZ16, tyZ17, tyZ18, tyZ19, tyZ21, tyZ22, tyZ23, tyZ24, tyZ25, tyZ26, tyZ27, tyZ28, tyZ29, tyZ30, tyZ31, tyZ32, tyZ33, tyZ34, tyZ35, tyZ36, tyZ37, tyZ38, tyZ39, tyZ40, tyZ41, tyZ42, tyZ44, tyZ45, tyZ47, tyZ48, tyZ49, tyZ50, tyZ51, tyZ52, tyZ53, tyZ54, tyZ55, tyZ56, tyZ57, tyZ58, tyZ59, tyZ60, tyZ61, tyZ62, tyZ63, tyZ64, tyZ65, tyZ66, tyZ67, tyZ69, tyZ70, tyZ71, tyZ72, tyZ73, tyZ74, tyZ75, tyZ76, tyZ77, tyZ78, tyZ79, tyZ80, tyZ81, tyZ82, tyZ83, tyZ84, tyZ85, tyZ86, tyZ87, tyZ88, tyZ89, tyZ90, tyZ91, tyZ92, tyZ93, tyZ94, tyZ95, tyZ96, tyZ97, tyZ98, tyZ99, tyZ100, tyZ102, tyZ103, tyZ104, tyZ105, tyZ106, tyZ107, tyZ108, tyZ109, tyZ110, tyZ111, tyZ112, tyZ113, tyZ114, tyZ115, tyZ116, tyZ117, tyZ118, tyZ119, tyZ120, tyZ122, tyZ124, tyZ126, tyZ128, tyZ130, tyZ131, tyZ132, tyZ133, tyZ134, tyZ135, tyZ136, tyZ137, tyZ138, tyZ139, tyZ140, tyZ141, tyZ142, tyZ143, tyZ144, tyZ145, tyZ146, tyZ147, tyZ148, tyZ149, tyZ150, tyZ152, tyZ153, tyZ154, tyZ155, tyZ156, tyZ157, tyZ158, tyZ159, tyZ160, tyZ161, tyZ162, tyZ163, tyZ164, tyZ165, tyZ166, tyZ167, tyZ168, tyZ169, tyZ170, tyZ171, tyZ172, tyZ173, tyZ175, tyZ176, tyZ177, tyZ178, tyZ180, tyZ182, tyZ184, tyZ185, tyZ186, tyZ187, tyZ188, tyZ189, tyZ190, tyZ191, tyZ192, tyZ193, tyZ194, tyZ195, tyZ196, tyZ197, tyZ198, tyZ199, tyZ204, tyZ206, tyZ207, tyZ208, tyZ209, tyZ210, tyZ211, tyZ212, tyZ214, tyZ217, tyZ219, tyZ220, tyZ221, tyZ222, tyZ224, tyZ228, tyZ229, tyZ230, tyZ231, tyZ232, tyZ233, tyZ237, tyZ240, tyZ241, tyZ242, tyZ245, tyZ246, tyZ247, tyZ248, tyZ249, tyZ250, tyZ252, tyZ253, tyZ254, tyZ255, tyZ256, tyZ257, tyZ259, trivial⟩
theorem tyL_ok : AllOk Tryz.prog tyL := ⟨tyOk1, tyOk2, tyOk3, tyOk4, tyOk5, tyOk6, tyOk7, tyOk8, tyOk9, tyOk10, tyOk11, tyOk12, tyOk13, tyOk14, tyOk15, tyOk16, tyOk17, tyOk18, tyOk19, tyOk21, tyOk22, tyOk23, tyOk24, tyOk25, tyOk26, tyOk27, tyOk28, tyOk29, tyOk30, tyOk31, tyOk32, tyOk33, tyOk34, tyOk35, tyOk36, tyOk37, tyOk38, tyOk39, tyOk40, tyOk41, tyOk42, tyOk44, tyOk45, tyOk47, tyOk48, tyOk49, tyOk50, tyOk51, tyOk52, tyOk53, tyOk54, tyOk55, tyOk56, tyOk57, tyOk58, tyOk59, tyOk60, tyOk61, tyOk62, tyOk63, tyOk64, tyOk65, tyOk66, tyOk67, tyOk69, tyOk70, tyOk71, tyOk72, tyOk73, tyOk74, tyOk75, tyOk76, tyOk77, tyOk78, tyOk79, tyOk80, tyOk81, tyOk82, tyOk83, tyOk84, tyOk85, tyOk86, tyOk87, tyOk88, tyOk89, tyOk90, tyOk91, tyOk92, tyOk93, tyOk94, tyOk95, tyOk96, tyOk97, tyOk98, tyOk99, tyOk100, tyOk102, tyOk103, tyOk104, tyOk105, tyOk106, tyOk107, tyOk108, tyOk109, tyOk110, tyOk111, tyOk112, tyOk113, tyOk114, tyOk115, tyOk116, tyOk117, tyOk118, tyOk119, tyOk120, tyOk122, tyOk124, tyOk126, tyOk128, tyOk130, tyOk131, tyOk132, tyOk133, tyOk134, tyOk135, tyOk136, tyOk137, tyOk138, tyOk139, tyOk140, tyOk141, tyOk142, tyOk143, tyOk144, tyOk145, tyOk146, tyOk147, tyOk148, tyOk149, tyOk150, tyOk152, tyOk153, tyOk154, tyOk155, tyOk156, tyOk157, tyOk158, tyOk159, tyOk160, tyOk161, tyOk162, tyOk163, tyOk164, tyOk165, tyOk166, tyOk167, tyOk168, tyOk169, tyOk170, tyOk171, tyOk172, tyOk173, tyOk175, tyOk176, tyOk177, tyOk178, tyOk180, tyOk182, tyOk184, tyOk185, tyOk186, tyOk187, tyOk188, tyOk189, tyOk190, tyOk191, tyOk192, tyOk193, tyOk194, tyOk195, tyOk196, tyOk197, tyOk198, tyOk199, tyOk204, tyOk206, tyOk207, tyOk208, tyOk209, tyOk210, tyOk211, tyOk212, tyOk214, tyOk217, tyOk219, tyOk220, tyOk221, tyOk222, tyOk224, tyOk228, tyOk229, tyOk230, tyOk231, tyOk232, tyOk233, tyOk237, tyOk240, tyOk241, tyOk242, tyOk245, tyOk246, tyOk247, tyOk248, tyOk249, tyOk250, tyOk252, tyOk253, tyOk254, tyOk255, tyOk256, tyOk257, tyOk259, trivial⟩
def T : Tys Tryz.prog := ⟨tyOf tyL, allOk_ok tyL tyL_ok, allZ_ok tyL tyL_z, fun _ => false⟩
@[go_sem] theorem fz_T (d : Nat) : T.fz d = false := rfl
@[go_sem] theorem T_1 : T.ty 1 = ty1 := rfl
@[go_sem] theorem k_1 : ty1.k = .func := rfl
@[go_sem] theorem sz_1 : ty1.sz = 1 := rfl
@[go_sem] theorem by_1 : ty1.bytes = 8 := rfl
@[go_sem] theorem zero_1 : ty1.zero = [.nilf] := rfl
@[go_sem] theorem T_2 : T.ty 2 = ty2 := rfl
@[go_sem] theorem k_2 : ty2.k = .int .i64 := rfl
@[go_sem] theorem sz_2 : ty2.sz = 1 := rfl
@[go_sem] theorem by_2 : ty2.bytes = 8 := rfl
@[go_sem] theorem zero_2 : ty2.zero = [.int .i64 0] := rfl
@[go_sem] theorem T_3 : T.ty 3 = ty3 := rfl
@[go_sem] theorem k_3 : ty3.k = .int .i64 := rfl
@[go_sem] theorem sz_3 : ty3.sz = 1 := rfl
@[go_sem] theorem by_3 : ty3.bytes = 8 := rfl
@[go_sem] theorem zero_3 : ty3.zero = [.int .i64 0] := rfl
@[go_sem] theorem T_4 : T.ty 4 = ty4 := rfl
@[go_sem] theorem k_4 : ty4.k = .bool := rfl
@[go_sem] theorem sz_4 : ty4.sz = 1 := rfl
@[go_sem] theorem by_4 : ty4.bytes = 1 := rfl
@[go_sem] theorem zero_4 : ty4.zero = [.bool false] := rfl
@[go_sem] theorem T_5 : T.ty 5 = ty5 := rfl
@[go_sem] theorem k_5 : ty5.k = .int .u8 := rfl
@[go_sem] theorem sz_5 : ty5.sz = 1 := rfl
@[go_sem] theorem by_5 : ty5.bytes = 1 := rfl
@[go_sem] theorem zero_5 : ty5.zero = [.int .u8 0] := rfl
@[go_sem] theorem T_6 : T.ty 6 = ty6 := rfl
@[go_sem] theorem k_6 : ty6.k = .int .u8 := rfl
@[go_sem] theorem sz_6 : ty6.sz = 1 := rfl
@[go_sem] theorem by_6 : ty6.bytes = 1 := rfl
@[go_sem] theorem zero_6 : ty6.zero = [.int .u8 0] := rfl
@[go_sem] theorem T_7 : T.ty 7 = ty7 := rfl
@[go_sem] theorem k_7 : ty7.k = .struct [(0, 2, "x"), (1, 3, "y"), (2, 4, "signed"), (3, 6, "code")] := rfl
@[go_sem] theorem sz_7 : ty7.sz = 4 := rfl
@[go_sem] theorem by_7 : ty7.bytes = 24 := rfl
@[go_sem] theorem zero_7 : ty7.zero = [.int .i64 0, .int .i64 0, .bool false, .int .u8 0] := rfl
@[go_sem] theorem T_8 : T.ty 8 = ty8 := rfl
@[go_sem] theorem k_8 : ty8.k = .struct [(0, 2, "x"), (1, 3, "y"), (2, 4, "signed"), (3, 6, "code")] := rfl
@[go_sem] theorem sz_8 : ty8.sz = 4 := rfl
@[go_sem] theorem by_8 : ty8.bytes = 24 := rfl
@[go_sem] theorem zero_8 : ty8.zero = [.int .i64 0, .int .i64 0, .bool false, .int .u8 0] := rfl
@[go_sem] theorem T_9 : T.ty 9 = ty9 := rfl
@[go_sem] theorem k_9 : ty9.k = .str := rfl
@[go_sem] theorem sz_9 : ty9.sz = 1 := rfl
@[go_sem] theorem by_9 : ty9.bytes = 16 := rfl
@[go_sem] theorem zero_9 : ty9.zero = [.str []] := rfl
@[go_sem] theorem T_10 : T.ty 10 = ty10 := rfl
@[go_sem] theorem k_10 : ty10.k = .str := rfl
@[go_sem] theorem sz_10 : ty10.sz = 1 := rfl
@[go_sem] theorem by_10 : ty10.bytes = 16 := rfl
@[go_sem] theorem zero_10 : ty10.zero = [.str []] := rfl
@[go_sem] theorem T_11 : T.ty 11 = ty11 := rfl
@[go_sem] theorem k_11 : ty11.k = .str := rfl
@[go_sem] theorem sz_11 : ty11.sz = 1 := rfl
@[go_sem] theorem by_11 : ty11.bytes = 16 := rfl
@[go_sem] theorem zero_11 : ty11.zero = [.str []] := rfl
@[go_sem] theorem T_12 : T.ty 12 = ty12 := rfl
@[go_sem] theorem k_12 : ty12.k = .int .u64 := rfl
@[go_sem] theorem sz_12 : ty12.sz = 1 := rfl
@[go_sem] theorem by_12 : ty12.bytes = 8 := rfl
@[go_sem] theorem zero_12 : ty12.zero = [.int .u64 0] := rfl
@[go_sem] theorem T_13 : T.ty 13 = ty13 := rfl
@[go_sem] theorem k_13 : ty13.k = .struct [(0, 9, "msg"), (1, 12, "addr")] := rfl
@[go_sem] theorem sz_13 : ty13.sz = 2 := rfl
@[go_sem] theorem by_13 : ty13.bytes = 24 := rfl
@[go_sem] theorem zero_13 : ty13.zero = [.str [], .int .u64 0] := rfl
@[go_sem] theorem T_14 : T.ty 14 = ty14 := rfl
@[go_sem] theorem k_14 : ty14.k = .struct [(0, 9, "msg"), (1, 12, "addr")] := rfl
@[go_sem] theorem sz_14 : ty14.sz = 2 := rfl
@[go_sem] theorem by_14 : ty14.bytes = 24 := rfl
@[go_sem] theorem zero_14 : ty14.zero = [.str [], .int .u64 0] := rfl
@[go_sem] theorem T_15 : T.ty 15 = ty15 := rfl
@[go_sem] theorem k_15 : ty15.k = .ptr 247 := rfl
@[go_sem] theorem sz_15 : ty15.sz = 1 := rfl
@[go_sem] theorem by_15 : ty15.bytes = 8 := rfl
@[go_sem] theorem zero_15 : ty15.zero = [.nilp] := rfl
@[go_sem] theorem T_16 : T.ty 16 = ty16 := rfl
@[go_sem] theorem k_16 : ty16.k = .ptr 250 := rfl
@[go_sem] theorem sz_16 : ty16.sz = 1 := rfl
@[go_sem] theorem by_16 : ty16.bytes = 8 := rfl
@[go_sem] theorem zero_16 : ty16.zero = [.nilp] := rfl
@[go_sem] theorem T_17 : T.ty 17 = ty17 := rfl
@[go_sem] theorem k_17 : ty17.k = .ptr 259 := rfl
@[go_sem] theorem sz_17 : ty17.sz = 1 := rfl
@[go_sem] theorem by_17 : ty17.bytes = 8 := rfl
@[go_sem] theorem zero_17 : ty17.zero = [.nilp] := rfl
@[go_sem] theorem T_18 : T.ty 18 = ty18 := rfl
@[go_sem] theorem k_18 : ty18.k = .struct [(0, 17, "typ")] := rfl
@[go_sem] theorem sz_18 : ty18.sz = 1 := rfl
@[go_sem] theorem by_18 : ty18.bytes = 8 := rfl
@[go_sem] theorem zero_18 : ty18.zero = [.nilp] := rfl
@[go_sem] theorem T_19 : T.ty 19 = ty19 := rfl
@[go_sem] theorem k_19 : ty19.k = .struct [(0, 17, "typ")] := rfl
@[go_sem] theorem sz_19 : ty19.sz = 1 := rfl
@[go_sem] theorem by_19 : ty19.bytes = 8 := rfl
@[go_sem] theorem zero_19 : ty19.zero = [.nilp] := rfl
@[go_sem] theorem T_21 : T.ty 21 = ty21 := rfl
@[go_sem] theorem k_21 : ty21.k = .int .i32 := rfl
@[go_sem] theorem sz_21 : ty21.sz = 1 := rfl
@[go_sem] theorem by_21 : ty21.bytes = 4 := rfl
@[go_sem] theorem zero_21 : ty21.zero = [.int .i32 0] := rfl
@[go_sem] theorem T_22 : T.ty 22 = ty22 := rfl
@[go_sem] theorem k_22 : ty22.k = .slice 65 := rfl
@[go_sem] theorem sz_22 : ty22.sz = 1 := rfl
@[go_sem] theorem by_22 : ty22.bytes = 24 := rfl
@[go_sem] theorem zero_22 : ty22.zero = [.slice true []] := rfl
@[go_sem] theorem T_23 : T.ty 23 = ty23 := rfl
@[go_sem] theorem k_23 : ty23.k = .struct [(0, 3, "Kind"), (1, 9, "Name")] := rfl
@[go_sem] theorem sz_23 : ty23.sz = 2 := rfl
@[go_sem] theorem by_23 : ty23.bytes = 24 := rfl
@[go_sem] theorem zero_23 : ty23.zero = [.int .i64 0, .str []] := rfl
@[go_sem] theorem T_24 : T.ty 24 = ty24 := rfl
@[go_sem] theorem k_24 : ty24.k = .struct [(0, 3, "Kind"), (1, 9, "Name")] := rfl
@[go_sem] theorem sz_24 : ty24.sz = 2 := rfl
@[go_sem] theorem by_24 : ty24.bytes = 24 := rfl
@[go_sem] theorem zero_24 : ty24.zero = [.int .i64 0, .str []] := rfl
@[go_sem] theorem T_25 : T.ty 25 = ty25 := rfl
@[go_sem] theorem k_25 : ty25.k = .func := rfl
@[go_sem] theorem sz_25 : ty25.sz = 1 := rfl
@[go_sem] theorem by_25 : ty25.bytes = 8 := rfl
@[go_sem] theorem zero_25 : ty25.zero = [.nilf] := rfl
@[go_sem] theorem T_26 : T.ty 26 = ty26 := rfl
@[go_sem] theorem k_26 : ty26.k = .func := rfl
@[go_sem] theorem sz_26 : ty26.sz = 1 := rfl
@[go_sem] theorem by_26 : ty26.bytes = 8 := rfl
@[go_sem] theorem zero_26 : ty26.zero = [.nilf] := rfl
@[go_sem] theorem T_27 : T.ty 27 = ty27 := rfl
@[go_sem] theorem k_27 : ty27.k = .func := rfl
@[go_sem] theorem sz_27 : ty27.sz = 1 := rfl
@[go_sem] theorem by_27 : ty27.bytes = 8 := rfl
@[go_sem] theorem zero_27 : ty27.zero = [.nilf] := rfl
@[go_sem] theorem T_28 : T.ty 28 = ty28 := rfl
@[go_sem] theorem k_28 : ty28.k = .slice 24 := rfl
@[go_sem] theorem sz_28 : ty28.sz = 1 := rfl
@[go_sem] theorem by_28 : ty28.bytes = 24 := rfl
@[go_sem] theorem zero_28 : ty28.zero = [.slice true []] := rfl
@[go_sem] theorem T_29 : T.ty 29 = ty29 := rfl
@[go_sem] theorem k_29 : ty29.k = .func := rfl
@[go_sem] theorem sz_29 : ty29.sz = 1 := rfl
@[go_sem] theorem by_29 : ty29.bytes = 8 := rfl
@[go_sem] theorem zero_29 : ty29.zero = [.nilf] := rfl
@[go_sem] theorem T_30 : T.ty 30 = ty30 := rfl
@[go_sem] theorem k_30 : ty30.k = .func := rfl
@[go_sem] theorem sz_30 : ty30.sz = 1 := rfl
@[go_sem] theorem by_30 : ty30.bytes = 8 := rfl
@[go_sem] theorem zero_30 : ty30.zero = [.nilf] := rfl
@[go_sem] theorem T_31 : T.ty 31 = ty31 := rfl
@[go_sem] theorem k_31 : ty31.k = .func := rfl
@[go_sem] theorem sz_31 : ty31.sz = 1 := rfl
@[go_sem] theorem by_31 : ty31.bytes = 8 := rfl
@[go_sem] theorem zero_31 : ty31.zero = [.nilf] := rfl
@[go_sem] theorem T_32 : T.ty 32 = ty32 := rfl
@[go_sem] theorem k_32 : ty32.k = .func := rfl
@[go_sem] theorem sz_32 : ty32.sz = 1 := rfl
@[go_sem] theorem by_32 : ty32.bytes = 8 := rfl
@[go_sem] theorem zero_32 : ty32.zero = [.nilf] := rfl
@[go_sem] theorem T_33 : T.ty 33 = ty33 := rfl
@[go_sem] theorem k_33 : ty33.k = .int .i64 := rfl
@[go_sem] theorem sz_33 : ty33.sz = 1 := rfl
@[go_sem] theorem by_33 : ty33.bytes = 8 := rfl
@[go_sem] theorem zero_33 : ty33.zero = [.int .i64 0] := rfl
@[go_sem] theorem T_34 : T.ty 34 = ty34 := rfl
@[go_sem] theorem k_34 : ty34.k = .func := rfl
@[go_sem] theorem sz_34 : ty34.sz = 1 := rfl
@[go_sem] theorem by_34 : ty34.bytes = 8 := rfl
@[go_sem] theorem zero_34 : ty34.zero = [.nilf] := rfl
@[go_sem] theorem T_35 : T.ty 35 = ty35 := rfl
@[go_sem] theorem k_35 : ty35.k = .func := rfl
@[go_sem] theorem sz_35 : ty35.sz = 1 := rfl
@[go_sem] theorem by_35 : ty35.bytes = 8 := rfl
@[go_sem] theorem zero_35 : ty35.zero = [.nilf] := rfl
@[go_sem] theorem T_36 : T.ty 36 = ty36 := rfl
@[go_sem] theorem k_36 : ty36.k = .struct [(0, 3, "Cap"), (1, 22, "L")] := rfl
@[go_sem] theorem sz_36 : ty36.sz = 2 := rfl
@[go_sem] theorem by_36 : ty36.bytes = 32 := rfl
@[go_sem] theorem zero_36 : ty36.zero = [.int .i64 0, .slice true []] := rfl
@[go_sem] theorem T_37 : T.ty 37 = ty37 := rfl
@[go_sem] theorem k_37 : ty37.k = .struct [(0, 3, "Cap"), (1, 22, "L")] := rfl
@[go_sem] theorem sz_37 : ty37.sz = 2 := rfl
@[go_sem] theorem by_37 : ty37.bytes = 32 := rfl
@[go_sem] theorem zero_37 : ty37.zero = [.int .i64 0, .slice true []] := rfl
@[go_sem] theorem T_38 : T.ty 38 = ty38 := rfl
@[go_sem] theorem k_38 : ty38.k = .struct [(0, 37, "C"), (2, 4, "Ready"), (3, 22, "Shown")] := rfl
@[go_sem] theorem sz_38 : ty38.sz = 4 := rfl
@[go_sem] theorem by_38 : ty38.bytes = 64 := rfl
@[go_sem] theorem zero_38 : ty38.zero = [.int .i64 0, .slice true [], .bool false, .slice true []] := rfl
@[go_sem] theorem T_39 : T.ty 39 = ty39 := rfl
@[go_sem] theorem k_39 : ty39.k = .struct [(0, 37, "C"), (2, 4, "Ready"), (3, 22, "Shown")] := rfl
@[go_sem] theorem sz_39 : ty39.sz = 4 := rfl
@[go_sem] theorem by_39 : ty39.bytes = 64 := rfl
@[go_sem] theorem zero_39 : ty39.zero = [.int .i64 0, .slice true [], .bool false, .slice true []] := rfl
@[go_sem] theorem T_40 : T.ty 40 = ty40 := rfl
@[go_sem] theorem k_40 : ty40.k = .struct [(0, 3, "Cap"), (1, 22, "L")] := rfl
@[go_sem] theorem sz_40 : ty40.sz = 2 := rfl
@[go_sem] theorem by_40 : ty40.bytes = 32 := rfl
@[go_sem] theorem zero_40 : ty40.zero = [.int .i64 0, .slice true []] := rfl
@[go_sem] theorem T_41 : T.ty 41 = ty41 := rfl
@[go_sem] theorem k_41 : ty41.k = .struct [(0, 40, "C"), (2, 4, "Ready"), (3, 22, "Shown")] := rfl
@[go_sem] theorem sz_41 : ty41.sz = 4 := rfl
@[go_sem] theorem by_41 : ty41.bytes = 64 := rfl
@[go_sem] theorem zero_41 : ty41.zero = [.int .i64 0, .slice true [], .bool false, .slice true []] := rfl
@[go_sem] theorem T_42 : T.ty 42 = ty42 := rfl
@[go_sem] theorem k_42 : ty42.k = .struct [(0, 40, "C"), (2, 4, "Ready"), (3, 22, "Shown")] := rfl
@[go_sem] theorem sz_42 : ty42.sz = 4 := rfl
@[go_sem] theorem by_42 : ty42.bytes = 64 := rfl
@[go_sem] theorem zero_42 : ty42.zero = [.int .i64 0, .slice true [], .bool false, .slice true []] := rfl
@[go_sem] theorem T_44 : T.ty 44 = ty44 := rfl
@[go_sem] theorem k_44 : ty44.k = .func := rfl
@[go_sem] theorem sz_44 : ty44.sz = 1 := rfl
@[go_sem] theorem by_44 : ty44.bytes = 8 := rfl
@[go_sem] theorem zero_44 : ty44.zero = [.nilf] := rfl
@[go_sem] theorem T_45 : T.ty 45 = ty45 := rfl
@[go_sem] theorem k_45 : ty45.k = .func := rfl
@[go_sem] theorem sz_45 : ty45.sz = 1 := rfl
@[go_sem] theorem by_45 : ty45.bytes = 8 := rfl
@[go_sem] theorem zero_45 : ty45.zero = [.nilf] := rfl
@[go_sem] theorem T_47 : T.ty 47 = ty47 := rfl
@[go_sem] theorem k_47 : ty47.k = .func := rfl
@[go_sem] theorem sz_47 : ty47.sz = 1 := rfl
@[go_sem] theorem by_47 : ty47.bytes = 8 := rfl
@[go_sem] theorem zero_47 : ty47.zero = [.nilf] := rfl
@[go_sem] theorem T_48 : T.ty 48 = ty48 := rfl
@[go_sem] theorem k_48 : ty48.k = .func := rfl
@[go_sem] theorem sz_48 : ty48.sz = 1 := rfl
@[go_sem] theorem by_48 : ty48.bytes = 8 := rfl
@[go_sem] theorem zero_48 : ty48.zero = [.nilf] := rfl
@[go_sem] theorem T_49 : T.ty 49 = ty49 := rfl
@[go_sem] theorem k_49 : ty49.k = .func := rfl
@[go_sem] theorem sz_49 : ty49.sz = 1 := rfl
@[go_sem] theorem by_49 : ty49.bytes = 8 := rfl
@[go_sem] theorem zero_49 : ty49.zero = [.nilf] := rfl
@[go_sem] theorem T_50 : T.ty 50 = ty50 := rfl
@[go_sem] theorem k_50 : ty50.k = .func := rfl
@[go_sem] theorem sz_50 : ty50.sz = 1 := rfl
@[go_sem] theorem by_50 : ty50.bytes = 8 := rfl
@[go_sem] theorem zero_50 : ty50.zero = [.nilf] := rfl
@[go_sem] theorem T_51 : T.ty 51 = ty51 := rfl
@[go_sem] theorem k_51 : ty51.k = .func := rfl
@[go_sem] theorem sz_51 : ty51.sz = 1 := rfl
@[go_sem] theorem by_51 : ty51.bytes = 8 := rfl
@[go_sem] theorem zero_51 : ty51.zero = [.nilf] := rfl
@[go_sem] theorem T_52 : T.ty 52 = ty52 := rfl
@[go_sem] theorem k_52 : ty52.k = .func := rfl
@[go_sem] theorem sz_52 : ty52.sz = 1 := rfl
@[go_sem] theorem by_52 : ty52.bytes = 8 := rfl
@[go_sem] theorem zero_52 : ty52.zero = [.nilf] := rfl
@[go_sem] theorem T_53 : T.ty 53 = ty53 := rfl
@[go_sem] theorem k_53 : ty53.k = .func := rfl
@[go_sem] theorem sz_53 : ty53.sz = 1 := rfl
@[go_sem] theorem by_53 : ty53.bytes = 8 := rfl
@[go_sem] theorem zero_53 : ty53.zero = [.nilf] := rfl
@[go_sem] theorem T_54 : T.ty 54 = ty54 := rfl
@[go_sem] theorem k_54 : ty54.k = .func := rfl
@[go_sem] theorem sz_54 : ty54.sz = 1 := rfl
@[go_sem] theorem by_54 : ty54.bytes = 8 := rfl
@[go_sem] theorem zero_54 : ty54.zero = [.nilf] := rfl
@[go_sem] theorem T_55 : T.ty 55 = ty55 := rfl
@[go_sem] theorem k_55 : ty55.k = .func := rfl
@[go_sem] theorem sz_55 : ty55.sz = 1 := rfl
@[go_sem] theorem by_55 : ty55.bytes = 8 := rfl
@[go_sem] theorem zero_55 : ty55.zero = [.nilf] := rfl
@[go_sem] theorem T_56 : T.ty 56 = ty56 := rfl
@[go_sem] theorem k_56 : ty56.k = .func := rfl
@[go_sem] theorem sz_56 : ty56.sz = 1 := rfl
@[go_sem] theorem by_56 : ty56.bytes = 8 := rfl
@[go_sem] theorem zero_56 : ty56.zero = [.nilf] := rfl
@[go_sem] theorem T_57 : T.ty 57 = ty57 := rfl
@[go_sem] theorem k_57 : ty57.k = .func := rfl
@[go_sem] theorem sz_57 : ty57.sz = 1 := rfl
@[go_sem] theorem by_57 : ty57.bytes = 8 := rfl
@[go_sem] theorem zero_57 : ty57.zero = [.nilf] := rfl
@[go_sem] theorem T_58 : T.ty 58 = ty58 := rfl
@[go_sem] theorem k_58 : ty58.k = .slice 60 := rfl
@[go_sem] theorem sz_58 : ty58.sz = 1 := rfl
@[go_sem] theorem by_58 : ty58.bytes = 24 := rfl
@[go_sem] theorem zero_58 : ty58.zero = [.slice true []] := rfl
@[go_sem] theorem T_59 : T.ty 59 = ty59 := rfl
@[go_sem] theorem k_59 : ty59.k = .struct [(0, 22, "Adds"), (1, 28, "Gone")] := rfl
@[go_sem] theorem sz_59 : ty59.sz = 2 := rfl
@[go_sem] theorem by_59 : ty59.bytes = 48 := rfl
@[go_sem] theorem zero_59 : ty59.zero = [.slice true [], .slice true []] := rfl
@[go_sem] theorem T_60 : T.ty 60 = ty60 := rfl
@[go_sem] theorem k_60 : ty60.k = .struct [(0, 22, "Adds"), (1, 28, "Gone")] := rfl
@[go_sem] theorem sz_60 : ty60.sz = 2 := rfl
@[go_sem] theorem by_60 : ty60.bytes = 48 := rfl
@[go_sem] theorem zero_60 : ty60.zero = [.slice true [], .slice true []] := rfl
@[go_sem] theorem T_61 : T.ty 61 = ty61 := rfl
@[go_sem] theorem k_61 : ty61.k = .func := rfl
@[go_sem] theorem sz_61 : ty61.sz = 1 := rfl
@[go_sem] theorem by_61 : ty61.bytes = 8 := rfl
@[go_sem] theorem zero_61 : ty61.zero = [.nilf] := rfl
@[go_sem] theorem T_62 : T.ty 62 = ty62 := rfl
@[go_sem] theorem k_62 : ty62.k = .slice 120 := rfl
@[go_sem] theorem sz_62 : ty62.sz = 1 := rfl
@[go_sem] theorem by_62 : ty62.bytes = 24 := rfl
@[go_sem] theorem zero_62 : ty62.zero = [.slice true []] := rfl
@[go_sem] theorem T_63 : T.ty 63 = ty63 := rfl
@[go_sem] theorem k_63 : ty63.k = .slice 3 := rfl
@[go_sem] theorem sz_63 : ty63.sz = 1 := rfl
@[go_sem] theorem by_63 : ty63.bytes = 24 := rfl
@[go_sem] theorem zero_63 : ty63.zero = [.slice true []] := rfl
@[go_sem] theorem T_64 : T.ty 64 = ty64 := rfl
@[go_sem] theorem k_64 : ty64.k = .struct [(0, 3, "Kind"), (1, 9, "Name"), (2, 3, "Ver"), (3, 3, "Port"), (4, 9, "To"), (5, 62, "Rules"), (6, 63, "Hosts")] := rfl
@[go_sem] theorem sz_64 : ty64.sz = 7 := rfl
@[go_sem] theorem by_64 : ty64.bytes = 104 := rfl
@[go_sem] theorem zero_64 : ty64.zero = [.int .i64 0, .str [], .int .i64 0, .int .i64 0, .str [], .slice true [], .slice true []] := rfl
@[go_sem] theorem T_65 : T.ty 65 = ty65 := rfl
@[go_sem] theorem k_65 : ty65.k = .struct [(0, 3, "Kind"), (1, 9, "Name"), (2, 3, "Ver"), (3, 3, "Port"), (4, 9, "To"), (5, 62, "Rules"), (6, 63, "Hosts")] := rfl
@[go_sem] theorem sz_65 : ty65.sz = 7 := rfl
@[go_sem] theorem by_65 : ty65.bytes = 104 := rfl
@[go_sem] theorem zero_65 : ty65.zero = [.int .i64 0, .str [], .int .i64 0, .int .i64 0, .str [], .slice true [], .slice true []] := rfl
@[go_sem] theorem T_66 : T.ty 66 = ty66 := rfl
@[go_sem] theorem k_66 : ty66.k = .struct [(0, 3, "Port"), (1, 9, "Host"), (2, 9, "Path"), (3, 3, "First"), (4, 3, "Other")] := rfl
@[go_sem] theorem sz_66 : ty66.sz = 5 := rfl
@[go_sem] theorem by_66 : ty66.bytes = 56 := rfl
@[go_sem] theorem zero_66 : ty66.zero = [.int .i64 0, .str [], .str [], .int .i64 0, .int .i64 0] := rfl
@[go_sem] theorem T_67 : T.ty 67 = ty67 := rfl
@[go_sem] theorem k_67 : ty67.k = .struct [(0, 3, "Port"), (1, 9, "Host"), (2, 9, "Path"), (3, 3, "First"), (4, 3, "Other")] := rfl
@[go_sem] theorem sz_67 : ty67.sz = 5 := rfl
@[go_sem] theorem by_67 : ty67.bytes = 56 := rfl
@[go_sem] theorem zero_67 : ty67.zero = [.int .i64 0, .str [], .str [], .int .i64 0, .int .i64 0] := rfl
@[go_sem] theorem T_69 : T.ty 69 = ty69 := rfl
@[go_sem] theorem k_69 : ty69.k = .func := rfl
@[go_sem] theorem sz_69 : ty69.sz = 1 := rfl
@[go_sem] theorem by_69 : ty69.bytes = 8 := rfl
@[go_sem] theorem zero_69 : ty69.zero = [.nilf] := rfl
@[go_sem] theorem T_70 : T.ty 70 = ty70 := rfl
@[go_sem] theorem k_70 : ty70.k = .func := rfl
@[go_sem] theorem sz_70 : ty70.sz = 1 := rfl
@[go_sem] theorem by_70 : ty70.bytes = 8 := rfl
@[go_sem] theorem zero_70 : ty70.zero = [.nilf] := rfl
@[go_sem] theorem T_71 : T.ty 71 = ty71 := rfl
@[go_sem] theorem k_71 : ty71.k = .struct [(0, 3, "What"), (1, 9, "Cluster"), (2, 3, "Host")] := rfl
@[go_sem] theorem sz_71 : ty71.sz = 3 := rfl
@[go_sem] theorem by_71 : ty71.bytes = 32 := rfl
@[go_sem] theorem zero_71 : ty71.zero = [.int .i64 0, .str [], .int .i64 0] := rfl
@[go_sem] theorem T_72 : T.ty 72 = ty72 := rfl
@[go_sem] theorem k_72 : ty72.k = .struct [(0, 3, "What"), (1, 9, "Cluster"), (2, 3, "Host")] := rfl
@[go_sem] theorem sz_72 : ty72.sz = 3 := rfl
@[go_sem] theorem by_72 : ty72.bytes = 32 := rfl
@[go_sem] theorem zero_72 : ty72.zero = [.int .i64 0, .str [], .int .i64 0] := rfl
@[go_sem] theorem T_73 : T.ty 73 = ty73 := rfl
@[go_sem] theorem k_73 : ty73.k = .func := rfl
@[go_sem] theorem sz_73 : ty73.sz = 1 := rfl
@[go_sem] theorem by_73 : ty73.bytes = 8 := rfl
@[go_sem] theorem zero_73 : ty73.zero = [.nilf] := rfl
@[go_sem] theorem T_74 : T.ty 74 = ty74 := rfl
@[go_sem] theorem k_74 : ty74.k = .func := rfl
@[go_sem] theorem sz_74 : ty74.sz = 1 := rfl
@[go_sem] theorem by_74 : ty74.bytes = 8 := rfl
@[go_sem] theorem zero_74 : ty74.zero = [.nilf] := rfl
@[go_sem] theorem T_75 : T.ty 75 = ty75 := rfl
@[go_sem] theorem k_75 : ty75.k = .slice 78 := rfl
@[go_sem] theorem sz_75 : ty75.sz = 1 := rfl
@[go_sem] theorem by_75 : ty75.bytes = 24 := rfl
@[go_sem] theorem zero_75 : ty75.zero = [.slice true []] := rfl
@[go_sem] theorem T_76 : T.ty 76 = ty76 := rfl
@[go_sem] theorem k_76 : ty76.k = .func := rfl
@[go_sem] theorem sz_76 : ty76.sz = 1 := rfl
@[go_sem] theorem by_76 : ty76.bytes = 8 := rfl
@[go_sem] theorem zero_76 : ty76.zero = [.nilf] := rfl
@[go_sem] theorem T_77 : T.ty 77 = ty77 := rfl
@[go_sem] theorem k_77 : ty77.k = .struct [(0, 3, "Kind"), (1, 22, "Adds"), (2, 28, "Gone")] := rfl
@[go_sem] theorem sz_77 : ty77.sz = 3 := rfl
@[go_sem] theorem by_77 : ty77.bytes = 56 := rfl
@[go_sem] theorem zero_77 : ty77.zero = [.int .i64 0, .slice true [], .slice true []] := rfl
@[go_sem] theorem T_78 : T.ty 78 = ty78 := rfl
@[go_sem] theorem k_78 : ty78.k = .struct [(0, 3, "Kind"), (1, 22, "Adds"), (2, 28, "Gone")] := rfl
@[go_sem] theorem sz_78 : ty78.sz = 3 := rfl
@[go_sem] theorem by_78 : ty78.bytes = 56 := rfl
@[go_sem] theorem zero_78 : ty78.zero = [.int .i64 0, .slice true [], .slice true []] := rfl
@[go_sem] theorem T_79 : T.ty 79 = ty79 := rfl
@[go_sem] theorem k_79 : ty79.k = .func := rfl
@[go_sem] theorem sz_79 : ty79.sz = 1 := rfl
@[go_sem] theorem by_79 : ty79.bytes = 8 := rfl
@[go_sem] theorem zero_79 : ty79.zero = [.nilf] := rfl
@[go_sem] theorem T_80 : T.ty 80 = ty80 := rfl
@[go_sem] theorem k_80 : ty80.k = .func := rfl
@[go_sem] theorem sz_80 : ty80.sz = 1 := rfl
@[go_sem] theorem by_80 : ty80.bytes = 8 := rfl
@[go_sem] theorem zero_80 : ty80.zero = [.nilf] := rfl
@[go_sem] theorem T_81 : T.ty 81 = ty81 := rfl
@[go_sem] theorem k_81 : ty81.k = .func := rfl
@[go_sem] theorem sz_81 : ty81.sz = 1 := rfl
@[go_sem] theorem by_81 : ty81.bytes = 8 := rfl
@[go_sem] theorem zero_81 : ty81.zero = [.nilf] := rfl
@[go_sem] theorem T_82 : T.ty 82 = ty82 := rfl
@[go_sem] theorem k_82 : ty82.k = .map 24 4 := rfl
@[go_sem] theorem sz_82 : ty82.sz = 1 := rfl
@[go_sem] theorem by_82 : ty82.bytes = 8 := rfl
@[go_sem] theorem zero_82 : ty82.zero = [.nilm] := rfl
@[go_sem] theorem T_83 : T.ty 83 = ty83 := rfl
@[go_sem] theorem k_83 : ty83.k = .map 24 4 := rfl
@[go_sem] theorem sz_83 : ty83.sz = 1 := rfl
@[go_sem] theorem by_83 : ty83.bytes = 8 := rfl
@[go_sem] theorem zero_83 : ty83.zero = [.nilm] := rfl
@[go_sem] theorem T_84 : T.ty 84 = ty84 := rfl
@[go_sem] theorem k_84 : ty84.k = .func := rfl
@[go_sem] theorem sz_84 : ty84.sz = 1 := rfl
@[go_sem] theorem by_84 : ty84.bytes = 8 := rfl
@[go_sem] theorem zero_84 : ty84.zero = [.nilf] := rfl
@[go_sem] theorem T_85 : T.ty 85 = ty85 := rfl
@[go_sem] theorem k_85 : ty85.k = .func := rfl
@[go_sem] theorem sz_85 : ty85.sz = 1 := rfl
@[go_sem] theorem by_85 : ty85.bytes = 8 := rfl
@[go_sem] theorem zero_85 : ty85.zero = [.nilf] := rfl
@[go_sem] theorem T_86 : T.ty 86 = ty86 := rfl
@[go_sem] theorem k_86 : ty86.k = .func := rfl
@[go_sem] theorem sz_86 : ty86.sz = 1 := rfl
@[go_sem] theorem by_86 : ty86.bytes = 8 := rfl
@[go_sem] theorem zero_86 : ty86.zero = [.nilf] := rfl
@[go_sem] theorem T_87 : T.ty 87 = ty87 := rfl
@[go_sem] theorem k_87 : ty87.k = .func := rfl
@[go_sem] theorem sz_87 : ty87.sz = 1 := rfl
@[go_sem] theorem by_87 : ty87.bytes = 8 := rfl
@[go_sem] theorem zero_87 : ty87.zero = [.nilf] := rfl
@[go_sem] theorem T_88 : T.ty 88 = ty88 := rfl
@[go_sem] theorem k_88 : ty88.k = .func := rfl
@[go_sem] theorem sz_88 : ty88.sz = 1 := rfl
@[go_sem] theorem by_88 : ty88.bytes = 8 := rfl
@[go_sem] theorem zero_88 : ty88.zero = [.nilf] := rfl
@[go_sem] theorem T_89 : T.ty 89 = ty89 := rfl
@[go_sem] theorem k_89 : ty89.k = .func := rfl
@[go_sem] theorem sz_89 : ty89.sz = 1 := rfl
@[go_sem] theorem by_89 : ty89.bytes = 8 := rfl
@[go_sem] theorem zero_89 : ty89.zero = [.nilf] := rfl
@[go_sem] theorem T_90 : T.ty 90 = ty90 := rfl
@[go_sem] theorem k_90 : ty90.k = .func := rfl
@[go_sem] theorem sz_90 : ty90.sz = 1 := rfl
@[go_sem] theorem by_90 : ty90.bytes = 8 := rfl
@[go_sem] theorem zero_90 : ty90.zero = [.nilf] := rfl
@[go_sem] theorem T_91 : T.ty 91 = ty91 := rfl
@[go_sem] theorem k_91 : ty91.k = .func := rfl
@[go_sem] theorem sz_91 : ty91.sz = 1 := rfl
@[go_sem] theorem by_91 : ty91.bytes = 8 := rfl
@[go_sem] theorem zero_91 : ty91.zero = [.nilf] := rfl
@[go_sem] theorem T_92 : T.ty 92 = ty92 := rfl
@[go_sem] theorem k_92 : ty92.k = .func := rfl
@[go_sem] theorem sz_92 : ty92.sz = 1 := rfl
@[go_sem] theorem by_92 : ty92.bytes = 8 := rfl
@[go_sem] theorem zero_92 : ty92.zero = [.nilf] := rfl
@[go_sem] theorem T_93 : T.ty 93 = ty93 := rfl
@[go_sem] theorem k_93 : ty93.k = .func := rfl
@[go_sem] theorem sz_93 : ty93.sz = 1 := rfl
@[go_sem] theorem by_93 : ty93.bytes = 8 := rfl
@[go_sem] theorem zero_93 : ty93.zero = [.nilf] := rfl
@[go_sem] theorem T_94 : T.ty 94 = ty94 := rfl
@[go_sem] theorem k_94 : ty94.k = .func := rfl
@[go_sem] theorem sz_94 : ty94.sz = 1 := rfl
@[go_sem] theorem by_94 : ty94.bytes = 8 := rfl
@[go_sem] theorem zero_94 : ty94.zero = [.nilf] := rfl
@[go_sem] theorem T_95 : T.ty 95 = ty95 := rfl
@[go_sem] theorem k_95 : ty95.k = .func := rfl
@[go_sem] theorem sz_95 : ty95.sz = 1 := rfl
@[go_sem] theorem by_95 : ty95.bytes = 8 := rfl
@[go_sem] theorem zero_95 : ty95.zero = [.nilf] := rfl
@[go_sem] theorem T_96 : T.ty 96 = ty96 := rfl
@[go_sem] theorem k_96 : ty96.k = .func := rfl
@[go_sem] theorem sz_96 : ty96.sz = 1 := rfl
@[go_sem] theorem by_96 : ty96.bytes = 8 := rfl
@[go_sem] theorem zero_96 : ty96.zero = [.nilf] := rfl
@[go_sem] theorem T_97 : T.ty 97 = ty97 := rfl
@[go_sem] theorem k_97 : ty97.k = .func := rfl
@[go_sem] theorem sz_97 : ty97.sz = 1 := rfl
@[go_sem] theorem by_97 : ty97.bytes = 8 := rfl
@[go_sem] theorem zero_97 : ty97.zero = [.nilf] := rfl
@[go_sem] theorem T_98 : T.ty 98 = ty98 := rfl
@[go_sem] theorem k_98 : ty98.k = .func := rfl
@[go_sem] theorem sz_98 : ty98.sz = 1 := rfl
@[go_sem] theorem by_98 : ty98.bytes = 8 := rfl
@[go_sem] theorem zero_98 : ty98.zero = [.nilf] := rfl
@[go_sem] theorem T_99 : T.ty 99 = ty99 := rfl
@[go_sem] theorem k_99 : ty99.k = .struct [(0, 42, "Warm"), (4, 4, "changed")] := rfl
@[go_sem] theorem sz_99 : ty99.sz = 5 := rfl
@[go_sem] theorem by_99 : ty99.bytes = 72 := rfl
@[go_sem] theorem zero_99 : ty99.zero = [.int .i64 0, .slice true [], .bool false, .slice true [], .bool false] := rfl
@[go_sem] theorem T_100 : T.ty 100 = ty100 := rfl
@[go_sem] theorem k_100 : ty100.k = .struct [(0, 42, "Warm"), (4, 4, "changed")] := rfl
@[go_sem] theorem sz_100 : ty100.sz = 5 := rfl
@[go_sem] theorem by_100 : ty100.bytes = 72 := rfl
@[go_sem] theorem zero_100 : ty100.zero = [.int .i64 0, .slice true [], .bool false, .slice true [], .bool false] := rfl
@[go_sem] theorem T_102 : T.ty 102 = ty102 := rfl
@[go_sem] theorem k_102 : ty102.k = .func := rfl
@[go_sem] theorem sz_102 : ty102.sz = 1 := rfl
@[go_sem] theorem by_102 : ty102.bytes = 8 := rfl
@[go_sem] theorem zero_102 : ty102.zero = [.nilf] := rfl
@[go_sem] theorem T_103 : T.ty 103 = ty103 := rfl
@[go_sem] theorem k_103 : ty103.k = .func := rfl
@[go_sem] theorem sz_103 : ty103.sz = 1 := rfl
@[go_sem] theorem by_103 : ty103.bytes = 8 := rfl
@[go_sem] theorem zero_103 : ty103.zero = [.nilf] := rfl
@[go_sem] theorem T_104 : T.ty 104 = ty104 := rfl
@[go_sem] theorem k_104 : ty104.k = .func := rfl
@[go_sem] theorem sz_104 : ty104.sz = 1 := rfl
@[go_sem] theorem by_104 : ty104.bytes = 8 := rfl
@[go_sem] theorem zero_104 : ty104.zero = [.nilf] := rfl
@[go_sem] theorem T_105 : T.ty 105 = ty105 := rfl
@[go_sem] theorem k_105 : ty105.k = .func := rfl
@[go_sem] theorem sz_105 : ty105.sz = 1 := rfl
@[go_sem] theorem by_105 : ty105.bytes = 8 := rfl
@[go_sem] theorem zero_105 : ty105.zero = [.nilf] := rfl
@[go_sem] theorem T_106 : T.ty 106 = ty106 := rfl
@[go_sem] theorem k_106 : ty106.k = .func := rfl
@[go_sem] theorem sz_106 : ty106.sz = 1 := rfl
@[go_sem] theorem by_106 : ty106.bytes = 8 := rfl
@[go_sem] theorem zero_106 : ty106.zero = [.nilf] := rfl
@[go_sem] theorem T_107 : T.ty 107 = ty107 := rfl
@[go_sem] theorem k_107 : ty107.k = .func := rfl
@[go_sem] theorem sz_107 : ty107.sz = 1 := rfl
@[go_sem] theorem by_107 : ty107.bytes = 8 := rfl
@[go_sem] theorem zero_107 : ty107.zero = [.nilf] := rfl
@[go_sem] theorem T_108 : T.ty 108 = ty108 := rfl
@[go_sem] theorem k_108 : ty108.k = .func := rfl
@[go_sem] theorem sz_108 : ty108.sz = 1 := rfl
@[go_sem] theorem by_108 : ty108.bytes = 8 := rfl
@[go_sem] theorem zero_108 : ty108.zero = [.nilf] := rfl
@[go_sem] theorem T_109 : T.ty 109 = ty109 := rfl
@[go_sem] theorem k_109 : ty109.k = .func := rfl
@[go_sem] theorem sz_109 : ty109.sz = 1 := rfl
@[go_sem] theorem by_109 : ty109.bytes = 8 := rfl
@[go_sem] theorem zero_109 : ty109.zero = [.nilf] := rfl
@[go_sem] theorem T_110 : T.ty 110 = ty110 := rfl
@[go_sem] theorem k_110 : ty110.k = .func := rfl
@[go_sem] theorem sz_110 : ty110.sz = 1 := rfl
@[go_sem] theorem by_110 : ty110.bytes = 8 := rfl
@[go_sem] theorem zero_110 : ty110.zero = [.nilf] := rfl
@[go_sem] theorem T_111 : T.ty 111 = ty111 := rfl
@[go_sem] theorem k_111 : ty111.k = .func := rfl
@[go_sem] theorem sz_111 : ty111.sz = 1 := rfl
@[go_sem] theorem by_111 : ty111.bytes = 8 := rfl
@[go_sem] theorem zero_111 : ty111.zero = [.nilf] := rfl
@[go_sem] theorem T_112 : T.ty 112 = ty112 := rfl
@[go_sem] theorem k_112 : ty112.k = .func := rfl
@[go_sem] theorem sz_112 : ty112.sz = 1 := rfl
@[go_sem] theorem by_112 : ty112.bytes = 8 := rfl
@[go_sem] theorem zero_112 : ty112.zero = [.nilf] := rfl
@[go_sem] theorem T_113 : T.ty 113 = ty113 := rfl
@[go_sem] theorem k_113 : ty113.k = .func := rfl
@[go_sem] theorem sz_113 : ty113.sz = 1 := rfl
@[go_sem] theorem by_113 : ty113.bytes = 8 := rfl
@[go_sem] theorem zero_113 : ty113.zero = [.nilf] := rfl
@[go_sem] theorem T_114 : T.ty 114 = ty114 := rfl
@[go_sem] theorem k_114 : ty114.k = .func := rfl
@[go_sem] theorem sz_114 : ty114.sz = 1 := rfl
@[go_sem] theorem by_114 : ty114.bytes = 8 := rfl
@[go_sem] theorem zero_114 : ty114.zero = [.nilf] := rfl
@[go_sem] theorem T_115 : T.ty 115 = ty115 := rfl
@[go_sem] theorem k_115 : ty115.k = .func := rfl
@[go_sem] theorem sz_115 : ty115.sz = 1 := rfl
@[go_sem] theorem by_115 : ty115.bytes = 8 := rfl
@[go_sem] theorem zero_115 : ty115.zero = [.nilf] := rfl
@[go_sem] theorem T_116 : T.ty 116 = ty116 := rfl
@[go_sem] theorem k_116 : ty116.k = .func := rfl
@[go_sem] theorem sz_116 : ty116.sz = 1 := rfl
@[go_sem] theorem by_116 : ty116.bytes = 8 := rfl
@[go_sem] theorem zero_116 : ty116.zero = [.nilf] := rfl
@[go_sem] theorem T_117 : T.ty 117 = ty117 := rfl
@[go_sem] theorem k_117 : ty117.k = .func := rfl
@[go_sem] theorem sz_117 : ty117.sz = 1 := rfl
@[go_sem] theorem by_117 : ty117.bytes = 8 := rfl
@[go_sem] theorem zero_117 : ty117.zero = [.nilf] := rfl
@[go_sem] theorem T_118 : T.ty 118 = ty118 := rfl
@[go_sem] theorem k_118 : ty118.k = .slice 135 := rfl
@[go_sem] theorem sz_118 : ty118.sz = 1 := rfl
@[go_sem] theorem by_118 : ty118.bytes = 24 := rfl
@[go_sem] theorem zero_118 : ty118.zero = [.slice true []] := rfl
@[go_sem] theorem T_119 : T.ty 119 = ty119 := rfl
@[go_sem] theorem k_119 : ty119.k = .struct [(0, 9, "Host"), (1, 9, "Prefix"), (2, 118, "Split")] := rfl
@[go_sem] theorem sz_119 : ty119.sz = 3 := rfl
@[go_sem] theorem by_119 : ty119.bytes = 56 := rfl
@[go_sem] theorem zero_119 : ty119.zero = [.str [], .str [], .slice true []] := rfl
@[go_sem] theorem T_120 : T.ty 120 = ty120 := rfl
@[go_sem] theorem k_120 : ty120.k = .struct [(0, 9, "Host"), (1, 9, "Prefix"), (2, 118, "Split")] := rfl
@[go_sem] theorem sz_120 : ty120.sz = 3 := rfl
@[go_sem] theorem by_120 : ty120.bytes = 56 := rfl
@[go_sem] theorem zero_120 : ty120.zero = [.str [], .str [], .slice true []] := rfl
@[go_sem] theorem T_122 : T.ty 122 = ty122 := rfl
@[go_sem] theorem k_122 : ty122.k = .func := rfl
@[go_sem] theorem sz_122 : ty122.sz = 1 := rfl
@[go_sem] theorem by_122 : ty122.bytes = 8 := rfl
@[go_sem] theorem zero_122 : ty122.zero = [.nilf] := rfl
@[go_sem] theorem T_124 : T.ty 124 = ty124 := rfl
@[go_sem] theorem k_124 : ty124.k = .func := rfl
@[go_sem] theorem sz_124 : ty124.sz = 1 := rfl
@[go_sem] theorem by_124 : ty124.bytes = 8 := rfl
@[go_sem] theorem zero_124 : ty124.zero = [.nilf] := rfl
@[go_sem] theorem T_126 : T.ty 126 = ty126 := rfl
@[go_sem] theorem k_126 : ty126.k = .func := rfl
@[go_sem] theorem sz_126 : ty126.sz = 1 := rfl
@[go_sem] theorem by_126 : ty126.bytes = 8 := rfl
@[go_sem] theorem zero_126 : ty126.zero = [.nilf] := rfl
@[go_sem] theorem T_128 : T.ty 128 = ty128 := rfl
@[go_sem] theorem k_128 : ty128.k = .func := rfl
@[go_sem] theorem sz_128 : ty128.sz = 1 := rfl
@[go_sem] theorem by_128 : ty128.bytes = 8 := rfl
@[go_sem] theorem zero_128 : ty128.zero = [.nilf] := rfl
@[go_sem] theorem T_130 : T.ty 130 = ty130 := rfl
@[go_sem] theorem k_130 : ty130.k = .func := rfl
@[go_sem] theorem sz_130 : ty130.sz = 1 := rfl
@[go_sem] theorem by_130 : ty130.bytes = 8 := rfl
@[go_sem] theorem zero_130 : ty130.zero = [.nilf] := rfl
@[go_sem] theorem T_131 : T.ty 131 = ty131 := rfl
@[go_sem] theorem k_131 : ty131.k = .func := rfl
@[go_sem] theorem sz_131 : ty131.sz = 1 := rfl
@[go_sem] theorem by_131 : ty131.bytes = 8 := rfl
@[go_sem] theorem zero_131 : ty131.zero = [.nilf] := rfl
@[go_sem] theorem T_132 : T.ty 132 = ty132 := rfl
@[go_sem] theorem k_132 : ty132.k = .func := rfl
@[go_sem] theorem sz_132 : ty132.sz = 1 := rfl
@[go_sem] theorem by_132 : ty132.bytes = 8 := rfl
@[go_sem] theorem zero_132 : ty132.zero = [.nilf] := rfl
@[go_sem] theorem T_133 : T.ty 133 = ty133 := rfl
@[go_sem] theorem k_133 : ty133.k = .func := rfl
@[go_sem] theorem sz_133 : ty133.sz = 1 := rfl
@[go_sem] theorem by_133 : ty133.bytes = 8 := rfl
@[go_sem] theorem zero_133 : ty133.zero = [.nilf] := rfl
@[go_sem] theorem T_134 : T.ty 134 = ty134 := rfl
@[go_sem] theorem k_134 : ty134.k = .struct [(0, 9, "Cluster"), (1, 3, "W")] := rfl
@[go_sem] theorem sz_134 : ty134.sz = 2 := rfl
@[go_sem] theorem by_134 : ty134.bytes = 24 := rfl
@[go_sem] theorem zero_134 : ty134.zero = [.str [], .int .i64 0] := rfl
@[go_sem] theorem T_135 : T.ty 135 = ty135 := rfl
@[go_sem] theorem k_135 : ty135.k = .struct [(0, 9, "Cluster"), (1, 3, "W")] := rfl
@[go_sem] theorem sz_135 : ty135.sz = 2 := rfl
@[go_sem] theorem by_135 : ty135.bytes = 24 := rfl
@[go_sem] theorem zero_135 : ty135.zero = [.str [], .int .i64 0] := rfl
@[go_sem] theorem T_136 : T.ty 136 = ty136 := rfl
@[go_sem] theorem k_136 : ty136.k = .func := rfl
@[go_sem] theorem sz_136 : ty136.sz = 1 := rfl
@[go_sem] theorem by_136 : ty136.bytes = 8 := rfl
@[go_sem] theorem zero_136 : ty136.zero = [.nilf] := rfl
@[go_sem] theorem T_137 : T.ty 137 = ty137 := rfl
@[go_sem] theorem k_137 : ty137.k = .func := rfl
@[go_sem] theorem sz_137 : ty137.sz = 1 := rfl
@[go_sem] theorem by_137 : ty137.bytes = 8 := rfl
@[go_sem] theorem zero_137 : ty137.zero = [.nilf] := rfl
@[go_sem] theorem T_138 : T.ty 138 = ty138 := rfl
@[go_sem] theorem k_138 : ty138.k = .int .u64 := rfl
@[go_sem] theorem sz_138 : ty138.sz = 1 := rfl
@[go_sem] theorem by_138 : ty138.bytes = 8 := rfl
@[go_sem] theorem zero_138 : ty138.zero = [.int .u64 0] := rfl
@[go_sem] theorem T_139 : T.ty 139 = ty139 := rfl
@[go_sem] theorem k_139 : ty139.k = .func := rfl
@[go_sem] theorem sz_139 : ty139.sz = 1 := rfl
@[go_sem] theorem by_139 : ty139.bytes = 8 := rfl
@[go_sem] theorem zero_139 : ty139.zero = [.nilf] := rfl
@[go_sem] theorem T_140 : T.ty 140 = ty140 := rfl
@[go_sem] theorem k_140 : ty140.k = .func := rfl
@[go_sem] theorem sz_140 : ty140.sz = 1 := rfl
@[go_sem] theorem by_140 : ty140.bytes = 8 := rfl
@[go_sem] theorem zero_140 : ty140.zero = [.nilf] := rfl
@[go_sem] theorem T_141 : T.ty 141 = ty141 := rfl
@[go_sem] theorem k_141 : ty141.k = .func := rfl
@[go_sem] theorem sz_141 : ty141.sz = 1 := rfl
@[go_sem] theorem by_141 : ty141.bytes = 8 := rfl
@[go_sem] theorem zero_141 : ty141.zero = [.nilf] := rfl
@[go_sem] theorem T_142 : T.ty 142 = ty142 := rfl
@[go_sem] theorem k_142 : ty142.k = .func := rfl
@[go_sem] theorem sz_142 : ty142.sz = 1 := rfl
@[go_sem] theorem by_142 : ty142.bytes = 8 := rfl
@[go_sem] theorem zero_142 : ty142.zero = [.nilf] := rfl
@[go_sem] theorem T_143 : T.ty 143 = ty143 := rfl
@[go_sem] theorem k_143 : ty143.k = .map 24 28 := rfl
@[go_sem] theorem sz_143 : ty143.sz = 1 := rfl
@[go_sem] theorem by_143 : ty143.bytes = 8 := rfl
@[go_sem] theorem zero_143 : ty143.zero = [.nilm] := rfl
@[go_sem] theorem T_144 : T.ty 144 = ty144 := rfl
@[go_sem] theorem k_144 : ty144.k = .func := rfl
@[go_sem] theorem sz_144 : ty144.sz = 1 := rfl
@[go_sem] theorem by_144 : ty144.bytes = 8 := rfl
@[go_sem] theorem zero_144 : ty144.zero = [.nilf] := rfl
@[go_sem] theorem T_145 : T.ty 145 = ty145 := rfl
@[go_sem] theorem k_145 : ty145.k = .func := rfl
@[go_sem] theorem sz_145 : ty145.sz = 1 := rfl
@[go_sem] theorem by_145 : ty145.bytes = 8 := rfl
@[go_sem] theorem zero_145 : ty145.zero = [.nilf] := rfl
@[go_sem] theorem T_146 : T.ty 146 = ty146 := rfl
@[go_sem] theorem k_146 : ty146.k = .func := rfl
@[go_sem] theorem sz_146 : ty146.sz = 1 := rfl
@[go_sem] theorem by_146 : ty146.bytes = 8 := rfl
@[go_sem] theorem zero_146 : ty146.zero = [.nilf] := rfl
@[go_sem] theorem T_147 : T.ty 147 = ty147 := rfl
@[go_sem] theorem k_147 : ty147.k = .func := rfl
@[go_sem] theorem sz_147 : ty147.sz = 1 := rfl
@[go_sem] theorem by_147 : ty147.bytes = 8 := rfl
@[go_sem] theorem zero_147 : ty147.zero = [.nilf] := rfl
@[go_sem] theorem T_148 : T.ty 148 = ty148 := rfl
@[go_sem] theorem k_148 : ty148.k = .func := rfl
@[go_sem] theorem sz_148 : ty148.sz = 1 := rfl
@[go_sem] theorem by_148 : ty148.bytes = 8 := rfl
@[go_sem] theorem zero_148 : ty148.zero = [.nilf] := rfl
@[go_sem] theorem T_149 : T.ty 149 = ty149 := rfl
@[go_sem] theorem k_149 : ty149.k = .func := rfl
@[go_sem] theorem sz_149 : ty149.sz = 1 := rfl
@[go_sem] theorem by_149 : ty149.bytes = 8 := rfl
@[go_sem] theorem zero_149 : ty149.zero = [.nilf] := rfl
@[go_sem] theorem T_150 : T.ty 150 = ty150 := rfl
@[go_sem] theorem k_150 : ty150.k = .ptr 100 := rfl
@[go_sem] theorem sz_150 : ty150.sz = 1 := rfl
@[go_sem] theorem by_150 : ty150.bytes = 8 := rfl
@[go_sem] theorem zero_150 : ty150.zero = [.nilp] := rfl
@[go_sem] theorem T_152 : T.ty 152 = ty152 := rfl
@[go_sem] theorem k_152 : ty152.k = .func := rfl
@[go_sem] theorem sz_152 : ty152.sz = 1 := rfl
@[go_sem] theorem by_152 : ty152.bytes = 8 := rfl
@[go_sem] theorem zero_152 : ty152.zero = [.nilf] := rfl
@[go_sem] theorem T_153 : T.ty 153 = ty153 := rfl
@[go_sem] theorem k_153 : ty153.k = .func := rfl
@[go_sem] theorem sz_153 : ty153.sz = 1 := rfl
@[go_sem] theorem by_153 : ty153.bytes = 8 := rfl
@[go_sem] theorem zero_153 : ty153.zero = [.nilf] := rfl
@[go_sem] theorem T_154 : T.ty 154 = ty154 := rfl
@[go_sem] theorem k_154 : ty154.k = .func := rfl
@[go_sem] theorem sz_154 : ty154.sz = 1 := rfl
@[go_sem] theorem by_154 : ty154.bytes = 8 := rfl
@[go_sem] theorem zero_154 : ty154.zero = [.nilf] := rfl
@[go_sem] theorem T_155 : T.ty 155 = ty155 := rfl
@[go_sem] theorem k_155 : ty155.k = .map 3 4 := rfl
@[go_sem] theorem sz_155 : ty155.sz = 1 := rfl
@[go_sem] theorem by_155 : ty155.bytes = 8 := rfl
@[go_sem] theorem zero_155 : ty155.zero = [.nilm] := rfl
@[go_sem] theorem T_156 : T.ty 156 = ty156 := rfl
@[go_sem] theorem k_156 : ty156.k = .func := rfl
@[go_sem] theorem sz_156 : ty156.sz = 1 := rfl
@[go_sem] theorem by_156 : ty156.bytes = 8 := rfl
@[go_sem] theorem zero_156 : ty156.zero = [.nilf] := rfl
@[go_sem] theorem T_157 : T.ty 157 = ty157 := rfl
@[go_sem] theorem k_157 : ty157.k = .slice 22 := rfl
@[go_sem] theorem sz_157 : ty157.sz = 1 := rfl
@[go_sem] theorem by_157 : ty157.bytes = 24 := rfl
@[go_sem] theorem zero_157 : ty157.zero = [.slice true []] := rfl
@[go_sem] theorem T_158 : T.ty 158 = ty158 := rfl
@[go_sem] theorem k_158 : ty158.k = .func := rfl
@[go_sem] theorem sz_158 : ty158.sz = 1 := rfl
@[go_sem] theorem by_158 : ty158.bytes = 8 := rfl
@[go_sem] theorem zero_158 : ty158.zero = [.nilf] := rfl
@[go_sem] theorem T_159 : T.ty 159 = ty159 := rfl
@[go_sem] theorem k_159 : ty159.k = .func := rfl
@[go_sem] theorem sz_159 : ty159.sz = 1 := rfl
@[go_sem] theorem by_159 : ty159.bytes = 8 := rfl
@[go_sem] theorem zero_159 : ty159.zero = [.nilf] := rfl
@[go_sem] theorem T_160 : T.ty 160 = ty160 := rfl
@[go_sem] theorem k_160 : ty160.k = .func := rfl
@[go_sem] theorem sz_160 : ty160.sz = 1 := rfl
@[go_sem] theorem by_160 : ty160.bytes = 8 := rfl
@[go_sem] theorem zero_160 : ty160.zero = [.nilf] := rfl
@[go_sem] theorem T_161 : T.ty 161 = ty161 := rfl
@[go_sem] theorem k_161 : ty161.k = .func := rfl
@[go_sem] theorem sz_161 : ty161.sz = 1 := rfl
@[go_sem] theorem by_161 : ty161.bytes = 8 := rfl
@[go_sem] theorem zero_161 : ty161.zero = [.nilf] := rfl
@[go_sem] theorem T_162 : T.ty 162 = ty162 := rfl
@[go_sem] theorem k_162 : ty162.k = .func := rfl
@[go_sem] theorem sz_162 : ty162.sz = 1 := rfl
@[go_sem] theorem by_162 : ty162.bytes = 8 := rfl
@[go_sem] theorem zero_162 : ty162.zero = [.nilf] := rfl
@[go_sem] theorem T_163 : T.ty 163 = ty163 := rfl
@[go_sem] theorem k_163 : ty163.k = .slice 169 := rfl
@[go_sem] theorem sz_163 : ty163.sz = 1 := rfl
@[go_sem] theorem by_163 : ty163.bytes = 24 := rfl
@[go_sem] theorem zero_163 : ty163.zero = [.slice true []] := rfl
@[go_sem] theorem T_164 : T.ty 164 = ty164 := rfl
@[go_sem] theorem k_164 : ty164.k = .ptr 199 := rfl
@[go_sem] theorem sz_164 : ty164.sz = 1 := rfl
@[go_sem] theorem by_164 : ty164.bytes = 8 := rfl
@[go_sem] theorem zero_164 : ty164.zero = [.nilp] := rfl
@[go_sem] theorem T_165 : T.ty 165 = ty165 := rfl
@[go_sem] theorem k_165 : ty165.k = .func := rfl
@[go_sem] theorem sz_165 : ty165.sz = 1 := rfl
@[go_sem] theorem by_165 : ty165.bytes = 8 := rfl
@[go_sem] theorem zero_165 : ty165.zero = [.nilf] := rfl
@[go_sem] theorem T_166 : T.ty 166 = ty166 := rfl
@[go_sem] theorem k_166 : ty166.k = .func := rfl
@[go_sem] theorem sz_166 : ty166.sz = 1 := rfl
@[go_sem] theorem by_166 : ty166.bytes = 8 := rfl
@[go_sem] theorem zero_166 : ty166.zero = [.nilf] := rfl
@[go_sem] theorem T_167 : T.ty 167 = ty167 := rfl
@[go_sem] theorem k_167 : ty167.k = .func := rfl
@[go_sem] theorem sz_167 : ty167.sz = 1 := rfl
@[go_sem] theorem by_167 : ty167.bytes = 8 := rfl
@[go_sem] theorem zero_167 : ty167.zero = [.nilf] := rfl
@[go_sem] theorem T_168 : T.ty 168 = ty168 := rfl
@[go_sem] theorem k_168 : ty168.k = .struct [(0, 63, "kinds"), (1, 167, "step")] := rfl
@[go_sem] theorem sz_168 : ty168.sz = 2 := rfl
@[go_sem] theorem by_168 : ty168.bytes = 32 := rfl
@[go_sem] theorem zero_168 : ty168.zero = [.slice true [], .nilf] := rfl
@[go_sem] theorem T_169 : T.ty 169 = ty169 := rfl
@[go_sem] theorem k_169 : ty169.k = .struct [(0, 63, "kinds"), (1, 167, "step")] := rfl
@[go_sem] theorem sz_169 : ty169.sz = 2 := rfl
@[go_sem] theorem by_169 : ty169.bytes = 32 := rfl
@[go_sem] theorem zero_169 : ty169.zero = [.slice true [], .nilf] := rfl
@[go_sem] theorem T_170 : T.ty 170 = ty170 := rfl
@[go_sem] theorem k_170 : ty170.k = .func := rfl
@[go_sem] theorem sz_170 : ty170.sz = 1 := rfl
@[go_sem] theorem by_170 : ty170.bytes = 8 := rfl
@[go_sem] theorem zero_170 : ty170.zero = [.nilf] := rfl
@[go_sem] theorem T_171 : T.ty 171 = ty171 := rfl
@[go_sem] theorem k_171 : ty171.k = .func := rfl
@[go_sem] theorem sz_171 : ty171.sz = 1 := rfl
@[go_sem] theorem by_171 : ty171.bytes = 8 := rfl
@[go_sem] theorem zero_171 : ty171.zero = [.nilf] := rfl
@[go_sem] theorem T_172 : T.ty 172 = ty172 := rfl
@[go_sem] theorem k_172 : ty172.k = .func := rfl
@[go_sem] theorem sz_172 : ty172.sz = 1 := rfl
@[go_sem] theorem by_172 : ty172.bytes = 8 := rfl
@[go_sem] theorem zero_172 : ty172.zero = [.nilf] := rfl
@[go_sem] theorem T_173 : T.ty 173 = ty173 := rfl
@[go_sem] theorem k_173 : ty173.k = .int .i64 := rfl
@[go_sem] theorem sz_173 : ty173.sz = 1 := rfl
@[go_sem] theorem by_173 : ty173.bytes = 8 := rfl
@[go_sem] theorem zero_173 : ty173.zero = [.int .i64 0] := rfl
@[go_sem] theorem T_175 : T.ty 175 = ty175 := rfl
@[go_sem] theorem k_175 : ty175.k = .func := rfl
@[go_sem] theorem sz_175 : ty175.sz = 1 := rfl
@[go_sem] theorem by_175 : ty175.bytes = 8 := rfl
@[go_sem] theorem zero_175 : ty175.zero = [.nilf] := rfl
@[go_sem] theorem T_176 : T.ty 176 = ty176 := rfl
@[go_sem] theorem k_176 : ty176.k = .func := rfl
@[go_sem] theorem sz_176 : ty176.sz = 1 := rfl
@[go_sem] theorem by_176 : ty176.bytes = 8 := rfl
@[go_sem] theorem zero_176 : ty176.zero = [.nilf] := rfl
@[go_sem] theorem T_177 : T.ty 177 = ty177 := rfl
@[go_sem] theorem k_177 : ty177.k = .func := rfl
@[go_sem] theorem sz_177 : ty177.sz = 1 := rfl
@[go_sem] theorem by_177 : ty177.bytes = 8 := rfl
@[go_sem] theorem zero_177 : ty177.zero = [.nilf] := rfl
@[go_sem] theorem T_178 : T.ty 178 = ty178 := rfl
@[go_sem] theorem k_178 : ty178.k = .func := rfl
@[go_sem] theorem sz_178 : ty178.sz = 1 := rfl
@[go_sem] theorem by_178 : ty178.bytes = 8 := rfl
@[go_sem] theorem zero_178 : ty178.zero = [.nilf] := rfl
@[go_sem] theorem T_180 : T.ty 180 = ty180 := rfl
@[go_sem] theorem k_180 : ty180.k = .int .u32 := rfl
@[go_sem] theorem sz_180 : ty180.sz = 1 := rfl
@[go_sem] theorem by_180 : ty180.bytes = 4 := rfl
@[go_sem] theorem zero_180 : ty180.zero = [.int .u32 0] := rfl
@[go_sem] theorem T_182 : T.ty 182 = ty182 := rfl
@[go_sem] theorem k_182 : ty182.k = .int .u64 := rfl
@[go_sem] theorem sz_182 : ty182.sz = 1 := rfl
@[go_sem] theorem by_182 : ty182.bytes = 8 := rfl
@[go_sem] theorem zero_182 : ty182.zero = [.int .u64 0] := rfl
@[go_sem] theorem T_184 : T.ty 184 = ty184 := rfl
@[go_sem] theorem k_184 : ty184.k = .func := rfl
@[go_sem] theorem sz_184 : ty184.sz = 1 := rfl
@[go_sem] theorem by_184 : ty184.bytes = 8 := rfl
@[go_sem] theorem zero_184 : ty184.zero = [.nilf] := rfl
@[go_sem] theorem T_185 : T.ty 185 = ty185 := rfl
@[go_sem] theorem k_185 : ty185.k = .struct [(0, 33, "e")] := rfl
@[go_sem] theorem sz_185 : ty185.sz = 1 := rfl
@[go_sem] theorem by_185 : ty185.bytes = 8 := rfl
@[go_sem] theorem zero_185 : ty185.zero = [.int .i64 0] := rfl
@[go_sem] theorem T_186 : T.ty 186 = ty186 := rfl
@[go_sem] theorem k_186 : ty186.k = .struct [(0, 33, "e")] := rfl
@[go_sem] theorem sz_186 : ty186.sz = 1 := rfl
@[go_sem] theorem by_186 : ty186.bytes = 8 := rfl
@[go_sem] theorem zero_186 : ty186.zero = [.int .i64 0] := rfl
@[go_sem] theorem T_187 : T.ty 187 = ty187 := rfl
@[go_sem] theorem k_187 : ty187.k = .func := rfl
@[go_sem] theorem sz_187 : ty187.sz = 1 := rfl
@[go_sem] theorem by_187 : ty187.bytes = 8 := rfl
@[go_sem] theorem zero_187 : ty187.zero = [.nilf] := rfl
@[go_sem] theorem T_188 : T.ty 188 = ty188 := rfl
@[go_sem] theorem k_188 : ty188.k = .func := rfl
@[go_sem] theorem sz_188 : ty188.sz = 1 := rfl
@[go_sem] theorem by_188 : ty188.bytes = 8 := rfl
@[go_sem] theorem zero_188 : ty188.zero = [.nilf] := rfl
@[go_sem] theorem T_189 : T.ty 189 = ty189 := rfl
@[go_sem] theorem k_189 : ty189.k = .func := rfl
@[go_sem] theorem sz_189 : ty189.sz = 1 := rfl
@[go_sem] theorem by_189 : ty189.bytes = 8 := rfl
@[go_sem] theorem zero_189 : ty189.zero = [.nilf] := rfl
@[go_sem] theorem T_190 : T.ty 190 = ty190 := rfl
@[go_sem] theorem k_190 : ty190.k = .func := rfl
@[go_sem] theorem sz_190 : ty190.sz = 1 := rfl
@[go_sem] theorem by_190 : ty190.bytes = 8 := rfl
@[go_sem] theorem zero_190 : ty190.zero = [.nilf] := rfl
@[go_sem] theorem T_191 : T.ty 191 = ty191 := rfl
@[go_sem] theorem k_191 : ty191.k = .func := rfl
@[go_sem] theorem sz_191 : ty191.sz = 1 := rfl
@[go_sem] theorem by_191 : ty191.bytes = 8 := rfl
@[go_sem] theorem zero_191 : ty191.zero = [.nilf] := rfl
@[go_sem] theorem T_192 : T.ty 192 = ty192 := rfl
@[go_sem] theorem k_192 : ty192.k = .func := rfl
@[go_sem] theorem sz_192 : ty192.sz = 1 := rfl
@[go_sem] theorem by_192 : ty192.bytes = 8 := rfl
@[go_sem] theorem zero_192 : ty192.zero = [.nilf] := rfl
@[go_sem] theorem T_193 : T.ty 193 = ty193 := rfl
@[go_sem] theorem k_193 : ty193.k = .func := rfl
@[go_sem] theorem sz_193 : ty193.sz = 1 := rfl
@[go_sem] theorem by_193 : ty193.bytes = 8 := rfl
@[go_sem] theorem zero_193 : ty193.zero = [.nilf] := rfl
@[go_sem] theorem T_194 : T.ty 194 = ty194 := rfl
@[go_sem] theorem k_194 : ty194.k = .func := rfl
@[go_sem] theorem sz_194 : ty194.sz = 1 := rfl
@[go_sem] theorem by_194 : ty194.bytes = 8 := rfl
@[go_sem] theorem zero_194 : ty194.zero = [.nilf] := rfl
@[go_sem] theorem T_195 : T.ty 195 = ty195 := rfl
@[go_sem] theorem k_195 : ty195.k = .func := rfl
@[go_sem] theorem sz_195 : ty195.sz = 1 := rfl
@[go_sem] theorem by_195 : ty195.bytes = 8 := rfl
@[go_sem] theorem zero_195 : ty195.zero = [.nilf] := rfl
@[go_sem] theorem T_196 : T.ty 196 = ty196 := rfl
@[go_sem] theorem k_196 : ty196.k = .func := rfl
@[go_sem] theorem sz_196 : ty196.sz = 1 := rfl
@[go_sem] theorem by_196 : ty196.bytes = 8 := rfl
@[go_sem] theorem zero_196 : ty196.zero = [.nilf] := rfl
@[go_sem] theorem T_197 : T.ty 197 = ty197 := rfl
@[go_sem] theorem k_197 : ty197.k = .func := rfl
@[go_sem] theorem sz_197 : ty197.sz = 1 := rfl
@[go_sem] theorem by_197 : ty197.bytes = 8 := rfl
@[go_sem] theorem zero_197 : ty197.zero = [.nilf] := rfl
@[go_sem] theorem T_198 : T.ty 198 = ty198 := rfl
@[go_sem] theorem k_198 : ty198.k = .struct [(0, 22, "adds"), (1, 28, "gone"), (2, 82, "reach"), (3, 22, "have"), (4, 28, "held")] := rfl
@[go_sem] theorem sz_198 : ty198.sz = 5 := rfl
@[go_sem] theorem by_198 : ty198.bytes = 104 := rfl
@[go_sem] theorem zero_198 : ty198.zero = [.slice true [], .slice true [], .nilm, .slice true [], .slice true []] := rfl
@[go_sem] theorem T_199 : T.ty 199 = ty199 := rfl
@[go_sem] theorem k_199 : ty199.k = .struct [(0, 22, "adds"), (1, 28, "gone"), (2, 82, "reach"), (3, 22, "have"), (4, 28, "held")] := rfl
@[go_sem] theorem sz_199 : ty199.sz = 5 := rfl
@[go_sem] theorem by_199 : ty199.bytes = 104 := rfl
@[go_sem] theorem zero_199 : ty199.zero = [.slice true [], .slice true [], .nilm, .slice true [], .slice true []] := rfl
@[go_sem] theorem T_204 : T.ty 204 = ty204 := rfl
@[go_sem] theorem k_204 : ty204.k = .func := rfl
@[go_sem] theorem sz_204 : ty204.sz = 1 := rfl
@[go_sem] theorem by_204 : ty204.bytes = 8 := rfl
@[go_sem] theorem zero_204 : ty204.zero = [.nilf] := rfl
@[go_sem] theorem T_206 : T.ty 206 = ty206 := rfl
@[go_sem] theorem k_206 : ty206.k = .struct [(0, 4, "port"), (1, 4, "to"), (2, 4, "rules"), (3, 4, "hosts")] := rfl
@[go_sem] theorem sz_206 : ty206.sz = 4 := rfl
@[go_sem] theorem by_206 : ty206.bytes = 4 := rfl
@[go_sem] theorem zero_206 : ty206.zero = [.bool false, .bool false, .bool false, .bool false] := rfl
@[go_sem] theorem T_207 : T.ty 207 = ty207 := rfl
@[go_sem] theorem k_207 : ty207.k = .func := rfl
@[go_sem] theorem sz_207 : ty207.sz = 1 := rfl
@[go_sem] theorem by_207 : ty207.bytes = 8 := rfl
@[go_sem] theorem zero_207 : ty207.zero = [.nilf] := rfl
@[go_sem] theorem T_208 : T.ty 208 = ty208 := rfl
@[go_sem] theorem k_208 : ty208.k = .func := rfl
@[go_sem] theorem sz_208 : ty208.sz = 1 := rfl
@[go_sem] theorem by_208 : ty208.bytes = 8 := rfl
@[go_sem] theorem zero_208 : ty208.zero = [.nilf] := rfl
@[go_sem] theorem T_209 : T.ty 209 = ty209 := rfl
@[go_sem] theorem k_209 : ty209.k = .func := rfl
@[go_sem] theorem sz_209 : ty209.sz = 1 := rfl
@[go_sem] theorem by_209 : ty209.bytes = 8 := rfl
@[go_sem] theorem zero_209 : ty209.zero = [.nilf] := rfl
@[go_sem] theorem T_210 : T.ty 210 = ty210 := rfl
@[go_sem] theorem k_210 : ty210.k = .int .u64 := rfl
@[go_sem] theorem sz_210 : ty210.sz = 1 := rfl
@[go_sem] theorem by_210 : ty210.bytes = 8 := rfl
@[go_sem] theorem zero_210 : ty210.zero = [.int .u64 0] := rfl
@[go_sem] theorem T_211 : T.ty 211 = ty211 := rfl
@[go_sem] theorem k_211 : ty211.k = .func := rfl
@[go_sem] theorem sz_211 : ty211.sz = 1 := rfl
@[go_sem] theorem by_211 : ty211.bytes = 8 := rfl
@[go_sem] theorem zero_211 : ty211.zero = [.nilf] := rfl
@[go_sem] theorem T_212 : T.ty 212 = ty212 := rfl
@[go_sem] theorem k_212 : ty212.k = .func := rfl
@[go_sem] theorem sz_212 : ty212.sz = 1 := rfl
@[go_sem] theorem by_212 : ty212.bytes = 8 := rfl
@[go_sem] theorem zero_212 : ty212.zero = [.nilf] := rfl
@[go_sem] theorem T_214 : T.ty 214 = ty214 := rfl
@[go_sem] theorem k_214 : ty214.k = .ptr 3 := rfl
@[go_sem] theorem sz_214 : ty214.sz = 1 := rfl
@[go_sem] theorem by_214 : ty214.bytes = 8 := rfl
@[go_sem] theorem zero_214 : ty214.zero = [.nilp] := rfl
@[go_sem] theorem T_217 : T.ty 217 = ty217 := rfl
@[go_sem] theorem k_217 : ty217.k = .func := rfl
@[go_sem] theorem sz_217 : ty217.sz = 1 := rfl
@[go_sem] theorem by_217 : ty217.bytes = 8 := rfl
@[go_sem] theorem zero_217 : ty217.zero = [.nilf] := rfl
@[go_sem] theorem T_219 : T.ty 219 = ty219 := rfl
@[go_sem] theorem k_219 : ty219.k = .func := rfl
@[go_sem] theorem sz_219 : ty219.sz = 1 := rfl
@[go_sem] theorem by_219 : ty219.bytes = 8 := rfl
@[go_sem] theorem zero_219 : ty219.zero = [.nilf] := rfl
@[go_sem] theorem T_220 : T.ty 220 = ty220 := rfl
@[go_sem] theorem k_220 : ty220.k = .func := rfl
@[go_sem] theorem sz_220 : ty220.sz = 1 := rfl
@[go_sem] theorem by_220 : ty220.bytes = 8 := rfl
@[go_sem] theorem zero_220 : ty220.zero = [.nilf] := rfl
@[go_sem] theorem T_221 : T.ty 221 = ty221 := rfl
@[go_sem] theorem k_221 : ty221.k = .func := rfl
@[go_sem] theorem sz_221 : ty221.sz = 1 := rfl
@[go_sem] theorem by_221 : ty221.bytes = 8 := rfl
@[go_sem] theorem zero_221 : ty221.zero = [.nilf] := rfl
@[go_sem] theorem T_222 : T.ty 222 = ty222 := rfl
@[go_sem] theorem k_222 : ty222.k = .ptr 210 := rfl
@[go_sem] theorem sz_222 : ty222.sz = 1 := rfl
@[go_sem] theorem by_222 : ty222.bytes = 8 := rfl
@[go_sem] theorem zero_222 : ty222.zero = [.nilp] := rfl
@[go_sem] theorem T_224 : T.ty 224 = ty224 := rfl
@[go_sem] theorem k_224 : ty224.k = .func := rfl
@[go_sem] theorem sz_224 : ty224.sz = 1 := rfl
@[go_sem] theorem by_224 : ty224.bytes = 8 := rfl
@[go_sem] theorem zero_224 : ty224.zero = [.nilf] := rfl
@[go_sem] theorem T_228 : T.ty 228 = ty228 := rfl
@[go_sem] theorem k_228 : ty228.k = .func := rfl
@[go_sem] theorem sz_228 : ty228.sz = 1 := rfl
@[go_sem] theorem by_228 : ty228.bytes = 8 := rfl
@[go_sem] theorem zero_228 : ty228.zero = [.nilf] := rfl
@[go_sem] theorem T_229 : T.ty 229 = ty229 := rfl
@[go_sem] theorem k_229 : ty229.k = .func := rfl
@[go_sem] theorem sz_229 : ty229.sz = 1 := rfl
@[go_sem] theorem by_229 : ty229.bytes = 8 := rfl
@[go_sem] theorem zero_229 : ty229.zero = [.nilf] := rfl
@[go_sem] theorem T_230 : T.ty 230 = ty230 := rfl
@[go_sem] theorem k_230 : ty230.k = .func := rfl
@[go_sem] theorem sz_230 : ty230.sz = 1 := rfl
@[go_sem] theorem by_230 : ty230.bytes = 8 := rfl
@[go_sem] theorem zero_230 : ty230.zero = [.nilf] := rfl
@[go_sem] theorem T_231 : T.ty 231 = ty231 := rfl
@[go_sem] theorem k_231 : ty231.k = .func := rfl
@[go_sem] theorem sz_231 : ty231.sz = 1 := rfl
@[go_sem] theorem by_231 : ty231.bytes = 8 := rfl
@[go_sem] theorem zero_231 : ty231.zero = [.nilf] := rfl
@[go_sem] theorem T_232 : T.ty 232 = ty232 := rfl
@[go_sem] theorem k_232 : ty232.k = .func := rfl
@[go_sem] theorem sz_232 : ty232.sz = 1 := rfl
@[go_sem] theorem by_232 : ty232.bytes = 8 := rfl
@[go_sem] theorem zero_232 : ty232.zero = [.nilf] := rfl
@[go_sem] theorem T_233 : T.ty 233 = ty233 := rfl
@[go_sem] theorem k_233 : ty233.k = .func := rfl
@[go_sem] theorem sz_233 : ty233.sz = 1 := rfl
@[go_sem] theorem by_233 : ty233.bytes = 8 := rfl
@[go_sem] theorem zero_233 : ty233.zero = [.nilf] := rfl
@[go_sem] theorem T_237 : T.ty 237 = ty237 := rfl
@[go_sem] theorem k_237 : ty237.k = .func := rfl
@[go_sem] theorem sz_237 : ty237.sz = 1 := rfl
@[go_sem] theorem by_237 : ty237.bytes = 8 := rfl
@[go_sem] theorem zero_237 : ty237.zero = [.nilf] := rfl
@[go_sem] theorem T_240 : T.ty 240 = ty240 := rfl
@[go_sem] theorem k_240 : ty240.k = .struct [(0, 5, "lo"), (1, 5, "hi")] := rfl
@[go_sem] theorem sz_240 : ty240.sz = 2 := rfl
@[go_sem] theorem by_240 : ty240.bytes = 2 := rfl
@[go_sem] theorem zero_240 : ty240.zero = [.int .u8 0, .int .u8 0] := rfl
@[go_sem] theorem T_241 : T.ty 241 = ty241 := rfl
@[go_sem] theorem k_241 : ty241.k = .array 16 240 := rfl
@[go_sem] theorem sz_241 : ty241.sz = 32 := rfl
@[go_sem] theorem by_241 : ty241.bytes = 32 := rfl
@[go_sem] theorem zero_241 : ty241.zero = [.int .u8 0, .int .u8 0, .int .u8 0, .int .u8 0, .int .u8 0, .int .u8 0, .int .u8 0, .int .u8 0, .int .u8 0, .int .u8 0, .int .u8 0, .int .u8 0, .int .u8 0, .int .u8 0, .int .u8 0, .int .u8 0, .int .u8 0, .int .u8 0, .int .u8 0, .int .u8 0, .int .u8 0, .int .u8 0, .int .u8 0, .int .u8 0, .int .u8 0, .int .u8 0, .int .u8 0, .int .u8 0, .int .u8 0, .int .u8 0, .int .u8 0, .int .u8 0] := rfl
@[go_sem] theorem T_242 : T.ty 242 = ty242 := rfl
@[go_sem] theorem k_242 : ty242.k = .func := rfl
@[go_sem] theorem sz_242 : ty242.sz = 1 := rfl
@[go_sem] theorem by_242 : ty242.bytes = 8 := rfl
@[go_sem] theorem zero_242 : ty242.zero = [.nilf] := rfl
@[go_sem] theorem T_245 : T.ty 245 = ty245 := rfl
@[go_sem] theorem k_245 : ty245.k = .func := rfl
@[go_sem] theorem sz_245 : ty245.sz = 1 := rfl
@[go_sem] theorem by_245 : ty245.bytes = 8 := rfl
@[go_sem] theorem zero_245 : ty245.zero = [.nilf] := rfl
@[go_sem] theorem T_246 : T.ty 246 = ty246 := rfl
@[go_sem] theorem k_246 : ty246.k = .struct [(0, 17, "_interface"), (1, 17, "concrete"), (2, 17, "asserted"), (3, 9, "missingMethod")] := rfl
@[go_sem] theorem sz_246 : ty246.sz = 4 := rfl
@[go_sem] theorem by_246 : ty246.bytes = 40 := rfl
@[go_sem] theorem zero_246 : ty246.zero = [.nilp, .nilp, .nilp, .str []] := rfl
@[go_sem] theorem T_247 : T.ty 247 = ty247 := rfl
@[go_sem] theorem k_247 : ty247.k = .struct [(0, 17, "_interface"), (1, 17, "concrete"), (2, 17, "asserted"), (3, 9, "missingMethod")] := rfl
@[go_sem] theorem sz_247 : ty247.sz = 4 := rfl
@[go_sem] theorem by_247 : ty247.bytes = 40 := rfl
@[go_sem] theorem zero_247 : ty247.zero = [.nilp, .nilp, .nilp, .str []] := rfl
@[go_sem] theorem T_248 : T.ty 248 = ty248 := rfl
@[go_sem] theorem k_248 : ty248.k = .array 0 16 := rfl
@[go_sem] theorem sz_248 : ty248.sz = 0 := rfl
@[go_sem] theorem by_248 : ty248.bytes = 0 := rfl
@[go_sem] theorem zero_248 : ty248.zero = [] := rfl
@[go_sem] theorem T_249 : T.ty 249 = ty249 := rfl
@[go_sem] theorem k_249 : ty249.k = .struct [(0, 248, "_")] := rfl
@[go_sem] theorem sz_249 : ty249.sz = 0 := rfl
@[go_sem] theorem by_249 : ty249.bytes = 0 := rfl
@[go_sem] theorem zero_249 : ty249.zero = [] := rfl
@[go_sem] theorem T_250 : T.ty 250 = ty250 := rfl
@[go_sem] theorem k_250 : ty250.k = .struct [(0, 248, "_")] := rfl
@[go_sem] theorem sz_250 : ty250.sz = 0 := rfl
@[go_sem] theorem by_250 : ty250.bytes = 0 := rfl
@[go_sem] theorem zero_250 : ty250.zero = [] := rfl
@[go_sem] theorem T_252 : T.ty 252 = ty252 := rfl
@[go_sem] theorem k_252 : ty252.k = .int .u8 := rfl
@[go_sem] theorem sz_252 : ty252.sz = 1 := rfl
@[go_sem] theorem by_252 : ty252.bytes = 1 := rfl
@[go_sem] theorem zero_252 : ty252.zero = [.int .u8 0] := rfl
@[go_sem] theorem T_253 : T.ty 253 = ty253 := rfl
@[go_sem] theorem k_253 : ty253.k = .int .u8 := rfl
@[go_sem] theorem sz_253 : ty253.sz = 1 := rfl
@[go_sem] theorem by_253 : ty253.bytes = 1 := rfl
@[go_sem] theorem zero_253 : ty253.zero = [.int .u8 0] := rfl
@[go_sem] theorem T_254 : T.ty 254 = ty254 := rfl
@[go_sem] theorem k_254 : ty254.k = .func := rfl
@[go_sem] theorem sz_254 : ty254.sz = 1 := rfl
@[go_sem] theorem by_254 : ty254.bytes = 8 := rfl
@[go_sem] theorem zero_254 : ty254.zero = [.nilf] := rfl
@[go_sem] theorem T_255 : T.ty 255 = ty255 := rfl
@[go_sem] theorem k_255 : ty255.k = .ptr 5 := rfl
@[go_sem] theorem sz_255 : ty255.sz = 1 := rfl
@[go_sem] theorem by_255 : ty255.bytes = 8 := rfl
@[go_sem] theorem zero_255 : ty255.zero = [.nilp] := rfl
@[go_sem] theorem T_256 : T.ty 256 = ty256 := rfl
@[go_sem] theorem k_256 : ty256.k = .int .i32 := rfl
@[go_sem] theorem sz_256 : ty256.sz = 1 := rfl
@[go_sem] theorem by_256 : ty256.bytes = 4 := rfl
@[go_sem] theorem zero_256 : ty256.zero = [.int .i32 0] := rfl
@[go_sem] theorem T_257 : T.ty 257 = ty257 := rfl
@[go_sem] theorem k_257 : ty257.k = .int .i32 := rfl
@[go_sem] theorem sz_257 : ty257.sz = 1 := rfl
@[go_sem] theorem by_257 : ty257.bytes = 4 := rfl
@[go_sem] theorem zero_257 : ty257.zero = [.int .i32 0] := rfl
@[go_sem] theorem T_259 : T.ty 259 = ty259 := rfl
@[go_sem] theorem k_259 : ty259.k = .struct [(0, 12, "Size_"), (1, 12, "PtrBytes"), (2, 180, "Hash"), (3, 252, "TFlag"), (4, 5, "Align_"), (5, 5, "FieldAlign_"), (6, 253, "Kind_"), (7, 254, "Equal"), (8, 255, "GCData"), (9, 256, "Str"), (10, 257, "PtrToThis")] := rfl
@[go_sem] theorem sz_259 : ty259.sz = 11 := rfl
@[go_sem] theorem by_259 : ty259.bytes = 48 := rfl
@[go_sem] theorem zero_259 : ty259.zero = [.int .u64 0, .int .u64 0, .int .u32 0, .int .u8 0, .int .u8 0, .int .u8 0, .int .u8 0, .nilf, .nilp, .int .i32 0, .int .i32 0] := rfl
@[go_sem] theorem eqg_24 : Tryz.prog.eqGuardType Tryz.prog.depth 24 = false := by kernel_rfl
@[go_sem] theorem sth_24 : Tryz.prog.stoodInHeld 24 = false := by kernel_rfl
@[go_sem] theorem eqg_67 : Tryz.prog.eqGuardType Tryz.prog.depth 67 = false := by kernel_rfl
@[go_sem] theorem sth_67 : Tryz.prog.stoodInHeld 67 = false := by kernel_rfl
@[go_sem] theorem eqg_72 : Tryz.prog.eqGuardType Tryz.prog.depth 72 = false := by kernel_rfl
@[go_sem] theorem sth_72 : Tryz.prog.stoodInHeld 72 = false := by kernel_rfl
@[go_sem] theorem eqg_135 : Tryz.prog.eqGuardType Tryz.prog.depth 135 = false := by kernel_rfl
@[go_sem] theorem sth_135 : Tryz.prog.stoodInHeld 135 = false := by kernel_rfl
@[go_sem] theorem eqg_186 : Tryz.prog.eqGuardType Tryz.prog.depth 186 = false := by kernel_rfl
@[go_sem] theorem sth_186 : Tryz.prog.stoodInHeld 186 = false := by kernel_rfl
@[go_sem] theorem eqg_206 : Tryz.prog.eqGuardType Tryz.prog.depth 206 = false := by kernel_rfl
@[go_sem] theorem sth_206 : Tryz.prog.stoodInHeld 206 = false := by kernel_rfl
theorem mixed : Tryz.prog.follows .mixedOrders = true := by kernel_rfl
end Go.Proofs.YtndnkbekhmndhaaGreatDoor.Lg

namespace Go.Proofs.YtndnkbekhmndhaaGreatDoor.Lg
open Go
set_option linter.unusedVariables false
set_option linter.unusedSimpArgs false
@[ext] structure BoundsError where
  x : Int
  y : Int
  signed : Bool
  code : UInt8
  deriving Inhabited, DecidableEq
instance : Dat BoundsError where
  av x := .agg [.int .i64 x.x, .int .i64 x.y, .bool x.signed, .int .u8 x.code.toNat]
  sz := 4
  len _ := rfl
  pure x := by simp only [go_sem, Bool.and_self]
  nrm x := by simp only [go_sem]
  one x := by simp only [go_sem, List.all_cons, List.all_nil, Bool.and_self]
  known x := rfl
@[go_sem] theorem av_BoundsError (x : BoundsError) : Dat.av x = .agg [.int .i64 x.x, .int .i64 x.y, .bool x.signed, .int .u8 x.code.toNat] := rfl
@[go_sem] theorem sz_BoundsError : Dat.sz BoundsError = 4 := rfl
@[go_sem] theorem set_BoundsError (l : List BoundsError) (n : Nat) (f0 : Int) (f1 : Int) (f2 : Bool) (f3 : UInt8) : (avs l).set n (.agg [.int .i64 f0, .int .i64 f1, .bool f2, .int .u8 f3.toNat]) = avs (l.set n ⟨f0, f1, f2, f3⟩) := avs_set l n (⟨f0, f1, f2, f3⟩ : BoundsError)
@[go_sem] theorem snoc_BoundsError (l : List BoundsError) (f0 : Int) (f1 : Int) (f2 : Bool) (f3 : UInt8) : avs l ++ [.agg [.int .i64 f0, .int .i64 f1, .bool f2, .int .u8 f3.toNat]] = avs (l ++ [⟨f0, f1, f2, f3⟩]) := by rw [avs_append]; rfl
@[go_sem] theorem flatL_BoundsError : ∀ l : List BoundsError, AV.flat.flatL (avs l) = true
  | [] => rfl
  | _ :: r => by simp only [avs_cons, AV.flat.flatL, flatL_BoundsError r, av_BoundsError, AV.flat, Bool.and_self]
@[go_sem] theorem eta_BoundsError (x : BoundsError) : BoundsError.mk x.x x.y x.signed x.code = x := rfl
@[ext] structure Weight where
  cluster : List UInt8
  w : Int
  deriving Inhabited, DecidableEq
instance : Dat Weight where
  av x := .agg [.str x.cluster, .int .i64 x.w]
  sz := 2
  len _ := rfl
  pure x := by simp only [go_sem, Bool.and_self]
  nrm x := by simp only [go_sem]
  one x := by simp only [go_sem, List.all_cons, List.all_nil, Bool.and_self]
  known x := rfl
@[go_sem] theorem av_Weight (x : Weight) : Dat.av x = .agg [.str x.cluster, .int .i64 x.w] := rfl
@[go_sem] theorem sz_Weight : Dat.sz Weight = 2 := rfl
@[go_sem] theorem set_Weight (l : List Weight) (n : Nat) (f0 : List UInt8) (f1 : Int) : (avs l).set n (.agg [.str f0, .int .i64 f1]) = avs (l.set n ⟨f0, f1⟩) := avs_set l n (⟨f0, f1⟩ : Weight)
@[go_sem] theorem snoc_Weight (l : List Weight) (f0 : List UInt8) (f1 : Int) : avs l ++ [.agg [.str f0, .int .i64 f1]] = avs (l ++ [⟨f0, f1⟩]) := by rw [avs_append]; rfl
@[go_sem] theorem flatL_Weight : ∀ l : List Weight, AV.flat.flatL (avs l) = true
  | [] => rfl
  | _ :: r => by simp only [avs_cons, AV.flat.flatL, flatL_Weight r, av_Weight, AV.flat, Bool.and_self]
@[go_sem] theorem eta_Weight (x : Weight) : Weight.mk x.cluster x.w = x := rfl
@[ext] structure Rule where
  host : List UInt8
  pfx : List UInt8
  split : List Weight
  deriving Inhabited, DecidableEq
instance : Dat Rule where
  av x := .agg [.str x.host, .str x.pfx, .slice false (avs x.split)]
  sz := 3
  len _ := rfl
  pure x := by simp only [go_sem, Bool.and_self]
  nrm x := by simp only [go_sem]
  one x := by simp only [go_sem, List.all_cons, List.all_nil, Bool.and_self]
  known x := rfl
@[go_sem] theorem av_Rule (x : Rule) : Dat.av x = .agg [.str x.host, .str x.pfx, .slice false (avs x.split)] := rfl
@[go_sem] theorem sz_Rule : Dat.sz Rule = 3 := rfl
@[go_sem] theorem set_Rule (l : List Rule) (n : Nat) (f0 : List UInt8) (f1 : List UInt8) (f2 : List Weight) : (avs l).set n (.agg [.str f0, .str f1, .slice false (avs f2)]) = avs (l.set n ⟨f0, f1, f2⟩) := avs_set l n (⟨f0, f1, f2⟩ : Rule)
@[go_sem] theorem snoc_Rule (l : List Rule) (f0 : List UInt8) (f1 : List UInt8) (f2 : List Weight) : avs l ++ [.agg [.str f0, .str f1, .slice false (avs f2)]] = avs (l ++ [⟨f0, f1, f2⟩]) := by rw [avs_append]; rfl
@[go_sem] theorem eta_Rule (x : Rule) : Rule.mk x.host x.pfx x.split = x := rfl
@[ext] structure Res where
  kind : Int
  name : List UInt8
  ver : Int
  port : Int
  to' : List UInt8
  rules' : List Rule
  hosts : List Int
  deriving Inhabited, DecidableEq
instance : Dat Res where
  av x := .agg [.int .i64 x.kind, .str x.name, .int .i64 x.ver, .int .i64 x.port, .str x.to', .slice false (avs x.rules'), .slice false (avs x.hosts)]
  sz := 7
  len _ := rfl
  pure x := by simp only [go_sem, Bool.and_self]
  nrm x := by simp only [go_sem]
  one x := by simp only [go_sem, List.all_cons, List.all_nil, Bool.and_self]
  known x := rfl
@[go_sem] theorem av_Res (x : Res) : Dat.av x = .agg [.int .i64 x.kind, .str x.name, .int .i64 x.ver, .int .i64 x.port, .str x.to', .slice false (avs x.rules'), .slice false (avs x.hosts)] := rfl
@[go_sem] theorem sz_Res : Dat.sz Res = 7 := rfl
@[go_sem] theorem set_Res (l : List Res) (n : Nat) (f0 : Int) (f1 : List UInt8) (f2 : Int) (f3 : Int) (f4 : List UInt8) (f5 : List Rule) (f6 : List Int) : (avs l).set n (.agg [.int .i64 f0, .str f1, .int .i64 f2, .int .i64 f3, .str f4, .slice false (avs f5), .slice false (avs f6)]) = avs (l.set n ⟨f0, f1, f2, f3, f4, f5, f6⟩) := avs_set l n (⟨f0, f1, f2, f3, f4, f5, f6⟩ : Res)
@[go_sem] theorem snoc_Res (l : List Res) (f0 : Int) (f1 : List UInt8) (f2 : Int) (f3 : Int) (f4 : List UInt8) (f5 : List Rule) (f6 : List Int) : avs l ++ [.agg [.int .i64 f0, .str f1, .int .i64 f2, .int .i64 f3, .str f4, .slice false (avs f5), .slice false (avs f6)]] = avs (l ++ [⟨f0, f1, f2, f3, f4, f5, f6⟩]) := by rw [avs_append]; rfl
@[go_sem] theorem eta_Res (x : Res) : Res.mk x.kind x.name x.ver x.port x.to' x.rules' x.hosts = x := rfl
@[ext] structure Key where
  kind : Int
  name : List UInt8
  deriving Inhabited, DecidableEq
instance : Dat Key where
  av x := .agg [.int .i64 x.kind, .str x.name]
  sz := 2
  len _ := rfl
  pure x := by simp only [go_sem, Bool.and_self]
  nrm x := by simp only [go_sem]
  one x := by simp only [go_sem, List.all_cons, List.all_nil, Bool.and_self]
  known x := rfl
@[go_sem] theorem av_Key (x : Key) : Dat.av x = .agg [.int .i64 x.kind, .str x.name] := rfl
@[go_sem] theorem sz_Key : Dat.sz Key = 2 := rfl
@[go_sem] theorem set_Key (l : List Key) (n : Nat) (f0 : Int) (f1 : List UInt8) : (avs l).set n (.agg [.int .i64 f0, .str f1]) = avs (l.set n ⟨f0, f1⟩) := avs_set l n (⟨f0, f1⟩ : Key)
@[go_sem] theorem snoc_Key (l : List Key) (f0 : Int) (f1 : List UInt8) : avs l ++ [.agg [.int .i64 f0, .str f1]] = avs (l ++ [⟨f0, f1⟩]) := by rw [avs_append]; rfl
@[go_sem] theorem flatL_Key : ∀ l : List Key, AV.flat.flatL (avs l) = true
  | [] => rfl
  | _ :: r => by simp only [avs_cons, AV.flat.flatL, flatL_Key r, av_Key, AV.flat, Bool.and_self]
theorem ext_Key (x y : Key) : x = y ↔ x.kind = y.kind ∧ x.name = y.name := by cases x; cases y; simp
@[go_sem] theorem eta_Key (x : Key) : Key.mk x.kind x.name = x := rfl
@[ext] structure Cache where
  cap : Int
  l : List Res
  deriving Inhabited, DecidableEq
instance : Dat Cache where
  av x := .agg [.int .i64 x.cap, .slice false (avs x.l)]
  sz := 2
  len _ := rfl
  pure x := by simp only [go_sem, Bool.and_self]
  nrm x := by simp only [go_sem]
  one x := by simp only [go_sem, List.all_cons, List.all_nil, Bool.and_self]
  known x := rfl
@[go_sem] theorem av_Cache (x : Cache) : Dat.av x = .agg [.int .i64 x.cap, .slice false (avs x.l)] := rfl
@[go_sem] theorem sz_Cache : Dat.sz Cache = 2 := rfl
@[go_sem] theorem set_Cache (l : List Cache) (n : Nat) (f0 : Int) (f1 : List Res) : (avs l).set n (.agg [.int .i64 f0, .slice false (avs f1)]) = avs (l.set n ⟨f0, f1⟩) := avs_set l n (⟨f0, f1⟩ : Cache)
@[go_sem] theorem snoc_Cache (l : List Cache) (f0 : Int) (f1 : List Res) : avs l ++ [.agg [.int .i64 f0, .slice false (avs f1)]] = avs (l ++ [⟨f0, f1⟩]) := by rw [avs_append]; rfl
@[go_sem] theorem eta_Cache (x : Cache) : Cache.mk x.cap x.l = x := rfl
@[ext] structure Warm where
  c : Cache
  ready : Bool
  shown : List Res
  deriving Inhabited, DecidableEq
instance : Dat Warm where
  av x := .agg [.int .i64 x.c.cap, .slice false (avs x.c.l), .bool x.ready, .slice false (avs x.shown)]
  sz := 4
  len _ := rfl
  pure x := by simp only [go_sem, Bool.and_self]
  nrm x := by simp only [go_sem]
  one x := by simp only [go_sem, List.all_cons, List.all_nil, Bool.and_self]
  known x := rfl
@[go_sem] theorem av_Warm (x : Warm) : Dat.av x = .agg [.int .i64 x.c.cap, .slice false (avs x.c.l), .bool x.ready, .slice false (avs x.shown)] := rfl
@[go_sem] theorem sz_Warm : Dat.sz Warm = 4 := rfl
@[go_sem] theorem set_Warm (l : List Warm) (n : Nat) (f0 : Cache) (f1 : Bool) (f2 : List Res) : (avs l).set n (.agg [.int .i64 f0.cap, .slice false (avs f0.l), .bool f1, .slice false (avs f2)]) = avs (l.set n ⟨f0, f1, f2⟩) := avs_set l n (⟨f0, f1, f2⟩ : Warm)
@[go_sem] theorem snoc_Warm (l : List Warm) (f0 : Cache) (f1 : Bool) (f2 : List Res) : avs l ++ [.agg [.int .i64 f0.cap, .slice false (avs f0.l), .bool f1, .slice false (avs f2)]] = avs (l ++ [⟨f0, f1, f2⟩]) := by rw [avs_append]; rfl
@[go_sem] theorem eta_Warm (x : Warm) : Warm.mk x.c x.ready x.shown = x := rfl
@[ext] structure Deed where
  adds : List Res
  gone : List Key
  deriving Inhabited, DecidableEq
instance : Dat Deed where
  av x := .agg [.slice false (avs x.adds), .slice false (avs x.gone)]
  sz := 2
  len _ := rfl
  pure x := by simp only [go_sem, Bool.and_self]
  nrm x := by simp only [go_sem]
  one x := by simp only [go_sem, List.all_cons, List.all_nil, Bool.and_self]
  known x := rfl
@[go_sem] theorem av_Deed (x : Deed) : Dat.av x = .agg [.slice false (avs x.adds), .slice false (avs x.gone)] := rfl
@[go_sem] theorem sz_Deed : Dat.sz Deed = 2 := rfl
@[go_sem] theorem set_Deed (l : List Deed) (n : Nat) (f0 : List Res) (f1 : List Key) : (avs l).set n (.agg [.slice false (avs f0), .slice false (avs f1)]) = avs (l.set n ⟨f0, f1⟩) := avs_set l n (⟨f0, f1⟩ : Deed)
@[go_sem] theorem snoc_Deed (l : List Deed) (f0 : List Res) (f1 : List Key) : avs l ++ [.agg [.slice false (avs f0), .slice false (avs f1)]] = avs (l ++ [⟨f0, f1⟩]) := by rw [avs_append]; rfl
@[go_sem] theorem eta_Deed (x : Deed) : Deed.mk x.adds x.gone = x := rfl
@[ext] structure Ask where
  port : Int
  host : List UInt8
  path : List UInt8
  first : Int
  other : Int
  deriving Inhabited, DecidableEq
instance : Dat Ask where
  av x := .agg [.int .i64 x.port, .str x.host, .str x.path, .int .i64 x.first, .int .i64 x.other]
  sz := 5
  len _ := rfl
  pure x := by simp only [go_sem, Bool.and_self]
  nrm x := by simp only [go_sem]
  one x := by simp only [go_sem, List.all_cons, List.all_nil, Bool.and_self]
  known x := rfl
@[go_sem] theorem av_Ask (x : Ask) : Dat.av x = .agg [.int .i64 x.port, .str x.host, .str x.path, .int .i64 x.first, .int .i64 x.other] := rfl
@[go_sem] theorem sz_Ask : Dat.sz Ask = 5 := rfl
@[go_sem] theorem set_Ask (l : List Ask) (n : Nat) (f0 : Int) (f1 : List UInt8) (f2 : List UInt8) (f3 : Int) (f4 : Int) : (avs l).set n (.agg [.int .i64 f0, .str f1, .str f2, .int .i64 f3, .int .i64 f4]) = avs (l.set n ⟨f0, f1, f2, f3, f4⟩) := avs_set l n (⟨f0, f1, f2, f3, f4⟩ : Ask)
@[go_sem] theorem snoc_Ask (l : List Ask) (f0 : Int) (f1 : List UInt8) (f2 : List UInt8) (f3 : Int) (f4 : Int) : avs l ++ [.agg [.int .i64 f0, .str f1, .str f2, .int .i64 f3, .int .i64 f4]] = avs (l ++ [⟨f0, f1, f2, f3, f4⟩]) := by rw [avs_append]; rfl
@[go_sem] theorem flatL_Ask : ∀ l : List Ask, AV.flat.flatL (avs l) = true
  | [] => rfl
  | _ :: r => by simp only [avs_cons, AV.flat.flatL, flatL_Ask r, av_Ask, AV.flat, Bool.and_self]
@[go_sem] theorem eta_Ask (x : Ask) : Ask.mk x.port x.host x.path x.first x.other = x := rfl
@[ext] structure Answer where
  what : Int
  cluster : List UInt8
  host : Int
  deriving Inhabited, DecidableEq
instance : Dat Answer where
  av x := .agg [.int .i64 x.what, .str x.cluster, .int .i64 x.host]
  sz := 3
  len _ := rfl
  pure x := by simp only [go_sem, Bool.and_self]
  nrm x := by simp only [go_sem]
  one x := by simp only [go_sem, List.all_cons, List.all_nil, Bool.and_self]
  known x := rfl
@[go_sem] theorem av_Answer (x : Answer) : Dat.av x = .agg [.int .i64 x.what, .str x.cluster, .int .i64 x.host] := rfl
@[go_sem] theorem sz_Answer : Dat.sz Answer = 3 := rfl
@[go_sem] theorem set_Answer (l : List Answer) (n : Nat) (f0 : Int) (f1 : List UInt8) (f2 : Int) : (avs l).set n (.agg [.int .i64 f0, .str f1, .int .i64 f2]) = avs (l.set n ⟨f0, f1, f2⟩) := avs_set l n (⟨f0, f1, f2⟩ : Answer)
@[go_sem] theorem snoc_Answer (l : List Answer) (f0 : Int) (f1 : List UInt8) (f2 : Int) : avs l ++ [.agg [.int .i64 f0, .str f1, .int .i64 f2]] = avs (l ++ [⟨f0, f1, f2⟩]) := by rw [avs_append]; rfl
@[go_sem] theorem flatL_Answer : ∀ l : List Answer, AV.flat.flatL (avs l) = true
  | [] => rfl
  | _ :: r => by simp only [avs_cons, AV.flat.flatL, flatL_Answer r, av_Answer, AV.flat, Bool.and_self]
@[go_sem] theorem eta_Answer (x : Answer) : Answer.mk x.what x.cluster x.host = x := rfl
@[ext] structure Step where
  kind : Int
  adds : List Res
  gone : List Key
  deriving Inhabited, DecidableEq
instance : Dat Step where
  av x := .agg [.int .i64 x.kind, .slice false (avs x.adds), .slice false (avs x.gone)]
  sz := 3
  len _ := rfl
  pure x := by simp only [go_sem, Bool.and_self]
  nrm x := by simp only [go_sem]
  one x := by simp only [go_sem, List.all_cons, List.all_nil, Bool.and_self]
  known x := rfl
@[go_sem] theorem av_Step (x : Step) : Dat.av x = .agg [.int .i64 x.kind, .slice false (avs x.adds), .slice false (avs x.gone)] := rfl
@[go_sem] theorem sz_Step : Dat.sz Step = 3 := rfl
@[go_sem] theorem set_Step (l : List Step) (n : Nat) (f0 : Int) (f1 : List Res) (f2 : List Key) : (avs l).set n (.agg [.int .i64 f0, .slice false (avs f1), .slice false (avs f2)]) = avs (l.set n ⟨f0, f1, f2⟩) := avs_set l n (⟨f0, f1, f2⟩ : Step)
@[go_sem] theorem snoc_Step (l : List Step) (f0 : Int) (f1 : List Res) (f2 : List Key) : avs l ++ [.agg [.int .i64 f0, .slice false (avs f1), .slice false (avs f2)]] = avs (l ++ [⟨f0, f1, f2⟩]) := by rw [avs_append]; rfl
@[go_sem] theorem eta_Step (x : Step) : Step.mk x.kind x.adds x.gone = x := rfl
@[ext] structure Move where
  warm : Warm
  changed : Bool
  deriving Inhabited, DecidableEq
instance : Dat Move where
  av x := .agg [.int .i64 x.warm.c.cap, .slice false (avs x.warm.c.l), .bool x.warm.ready, .slice false (avs x.warm.shown), .bool x.changed]
  sz := 5
  len _ := rfl
  pure x := by simp only [go_sem, Bool.and_self]
  nrm x := by simp only [go_sem]
  one x := by simp only [go_sem, List.all_cons, List.all_nil, Bool.and_self]
  known x := rfl
@[go_sem] theorem av_Move (x : Move) : Dat.av x = .agg [.int .i64 x.warm.c.cap, .slice false (avs x.warm.c.l), .bool x.warm.ready, .slice false (avs x.warm.shown), .bool x.changed] := rfl
@[go_sem] theorem sz_Move : Dat.sz Move = 5 := rfl
@[go_sem] theorem set_Move (l : List Move) (n : Nat) (f0 : Warm) (f1 : Bool) : (avs l).set n (.agg [.int .i64 f0.c.cap, .slice false (avs f0.c.l), .bool f0.ready, .slice false (avs f0.shown), .bool f1]) = avs (l.set n ⟨f0, f1⟩) := avs_set l n (⟨f0, f1⟩ : Move)
@[go_sem] theorem snoc_Move (l : List Move) (f0 : Warm) (f1 : Bool) : avs l ++ [.agg [.int .i64 f0.c.cap, .slice false (avs f0.c.l), .bool f0.ready, .slice false (avs f0.shown), .bool f1]] = avs (l ++ [⟨f0, f1⟩]) := by rw [avs_append]; rfl
@[go_sem] theorem eta_Move (x : Move) : Move.mk x.warm x.changed = x := rfl
@[ext] structure Bad where
  e : Int
  deriving Inhabited, DecidableEq
instance : Dat Bad where
  av x := .agg [.int .i64 x.e]
  sz := 1
  len _ := rfl
  pure x := by simp only [go_sem, Bool.and_self]
  nrm x := by simp only [go_sem]
  one x := by simp only [go_sem, List.all_cons, List.all_nil, Bool.and_self]
  known x := rfl
@[go_sem] theorem av_Bad (x : Bad) : Dat.av x = .agg [.int .i64 x.e] := rfl
@[go_sem] theorem sz_Bad : Dat.sz Bad = 1 := rfl
@[go_sem] theorem set_Bad (l : List Bad) (n : Nat) (f0 : Int) : (avs l).set n (.agg [.int .i64 f0]) = avs (l.set n ⟨f0⟩) := avs_set l n (⟨f0⟩ : Bad)
@[go_sem] theorem snoc_Bad (l : List Bad) (f0 : Int) : avs l ++ [.agg [.int .i64 f0]] = avs (l ++ [⟨f0⟩]) := by rw [avs_append]; rfl
@[go_sem] theorem flatL_Bad : ∀ l : List Bad, AV.flat.flatL (avs l) = true
  | [] => rfl
  | _ :: r => by simp only [avs_cons, AV.flat.flatL, flatL_Bad r, av_Bad, AV.flat, Bool.and_self]
@[go_sem] theorem eta_Bad (x : Bad) : Bad.mk x.e = x := rfl
@[ext] structure Has where
  port : Bool
  to' : Bool
  rules' : Bool
  hosts : Bool
  deriving Inhabited, DecidableEq
instance : Dat Has where
  av x := .agg [.bool x.port, .bool x.to', .bool x.rules', .bool x.hosts]
  sz := 4
  len _ := rfl
  pure x := by simp only [go_sem, Bool.and_self]
  nrm x := by simp only [go_sem]
  one x := by simp only [go_sem, List.all_cons, List.all_nil, Bool.and_self]
  known x := rfl
@[go_sem] theorem av_Has (x : Has) : Dat.av x = .agg [.bool x.port, .bool x.to', .bool x.rules', .bool x.hosts] := rfl
@[go_sem] theorem sz_Has : Dat.sz Has = 4 := rfl
@[go_sem] theorem set_Has (l : List Has) (n : Nat) (f0 : Bool) (f1 : Bool) (f2 : Bool) (f3 : Bool) : (avs l).set n (.agg [.bool f0, .bool f1, .bool f2, .bool f3]) = avs (l.set n ⟨f0, f1, f2, f3⟩) := avs_set l n (⟨f0, f1, f2, f3⟩ : Has)
@[go_sem] theorem snoc_Has (l : List Has) (f0 : Bool) (f1 : Bool) (f2 : Bool) (f3 : Bool) : avs l ++ [.agg [.bool f0, .bool f1, .bool f2, .bool f3]] = avs (l ++ [⟨f0, f1, f2, f3⟩]) := by rw [avs_append]; rfl
@[go_sem] theorem flatL_Has : ∀ l : List Has, AV.flat.flatL (avs l) = true
  | [] => rfl
  | _ :: r => by simp only [avs_cons, AV.flat.flatL, flatL_Has r, av_Has, AV.flat, Bool.and_self]
@[go_sem] theorem eta_Has (x : Has) : Has.mk x.port x.to' x.rules' x.hosts = x := rfl
@[ext] structure AcceptRange where
  lo : UInt8
  hi : UInt8
  deriving Inhabited, DecidableEq
instance : Dat AcceptRange where
  av x := .agg [.int .u8 x.lo.toNat, .int .u8 x.hi.toNat]
  sz := 2
  len _ := rfl
  pure x := by simp only [go_sem, Bool.and_self]
  nrm x := by simp only [go_sem]
  one x := by simp only [go_sem, List.all_cons, List.all_nil, Bool.and_self]
  known x := rfl
@[go_sem] theorem av_AcceptRange (x : AcceptRange) : Dat.av x = .agg [.int .u8 x.lo.toNat, .int .u8 x.hi.toNat] := rfl
@[go_sem] theorem sz_AcceptRange : Dat.sz AcceptRange = 2 := rfl
@[go_sem] theorem set_AcceptRange (l : List AcceptRange) (n : Nat) (f0 : UInt8) (f1 : UInt8) : (avs l).set n (.agg [.int .u8 f0.toNat, .int .u8 f1.toNat]) = avs (l.set n ⟨f0, f1⟩) := avs_set l n (⟨f0, f1⟩ : AcceptRange)
@[go_sem] theorem snoc_AcceptRange (l : List AcceptRange) (f0 : UInt8) (f1 : UInt8) : avs l ++ [.agg [.int .u8 f0.toNat, .int .u8 f1.toNat]] = avs (l ++ [⟨f0, f1⟩]) := by rw [avs_append]; rfl
@[go_sem] theorem flatL_AcceptRange : ∀ l : List AcceptRange, AV.flat.flatL (avs l) = true
  | [] => rfl
  | _ :: r => by simp only [avs_cons, AV.flat.flatL, flatL_AcceptRange r, av_AcceptRange, AV.flat, Bool.and_self]
@[go_sem] theorem eta_AcceptRange (x : AcceptRange) : AcceptRange.mk x.lo x.hi = x := rfl
def SmWeight (x : Weight) : Prop := Small x.cluster.length
def SmRule (x : Rule) : Prop := Small x.host.length ∧ Small x.pfx.length ∧ Small x.split.length ∧ (∀ y ∈ x.split, SmWeight y)
def SmRes (x : Res) : Prop := Small x.name.length ∧ Small x.to'.length ∧ Small x.rules'.length ∧ (∀ y ∈ x.rules', SmRule y) ∧ Small x.hosts.length
def SmAsk (x : Ask) : Prop := Small x.host.length ∧ Small x.path.length
end Go.Proofs.YtndnkbekhmndhaaGreatDoor.Lg
