/- How a proof of a contract begins, and its steps in the form in which they are taken. -/
import Derived.Test.YtjmnokbbodcaaaaLg16
namespace Go.Proofs.Ytjmnokbbodcaaaa.Lg
set_option linter.unusedVariables false
set_option linter.unusedSimpArgs false
open Go
variable {P : Program}

/-- Of a size that memory bears with room to spare. -/
def Small (n : Nat) : Prop := n ≤ 4294967296

def ArgsAt (ts : TS) : Nat → List Arg → Prop
  | _, [] => True
  | k, .v x :: r => ts.tmp k = x ∧ ArgsAt ts (k + 1) r
  | k, .io cs :: r => (ts.tmp k = .ref k 0 0 ∧ ts.gen k = 0 ∧ ts.obj k = .box cs) ∧ ArgsAt ts (k + 1) r
  | k, .own sz xs :: r => (ts.tmp k = .os k 0 xs.length ∧ ts.gen k = 0 ∧ ts.obj k = .arr sz xs) ∧ ArgsAt ts (k + 1) r

theorem argsAt_argTS (n : Nat) : ∀ (r : List Arg) (args : List Arg) (k : Nat), (∀ i, args[k + i]? = r[i]?) → ArgsAt (argTS args n) k r
  | [], _, _, _ => trivial
  | .v x :: r, args, k, h => by
    have h0 : args[k]? = some (.v x) := by simpa using h 0
    exact ⟨by simp [argTS, h0], argsAt_argTS n r args (k + 1) fun i => by have := h (i + 1); rw [show k + 1 + i = k + (i + 1) by omega]; simpa using this⟩
  | .io cs :: r, args, k, h => by
    have h0 : args[k]? = some (.io cs) := by simpa using h 0
    exact ⟨⟨by simp [argTS, h0], rfl, by simp [argTS, h0]⟩, argsAt_argTS n r args (k + 1) fun i => by have := h (i + 1); rw [show k + 1 + i = k + (i + 1) by omega]; simpa using this⟩
  | .own sz xs :: r, args, k, h => by
    have h0 : args[k]? = some (.own sz xs) := by simpa using h 0
    exact ⟨⟨by simp [argTS, h0], rfl, by simp [argTS, h0]⟩, argsAt_argTS n r args (k + 1) fun i => by have := h (i + 1); rw [show k + 1 + i = k + (i + 1) by omega]; simpa using this⟩

def Ret.nrm : Ret → Ret
  | .val x => .val x.nrm
  | .own sz xs => .own sz (AV.nrm.nrmL xs)

theorem Post.nrm {E : Env} {R R' : Ret → (Nat → List AV) → Prop} (hr : ∀ r io, R r io → R' r.nrm io) {e : Ending} {w : World} (h : Post E R e w) : Post E R' e w := by
  obtain ⟨v, r, io, ts', G', he, hR, hrel, hio, hret⟩ := h
  cases r with
  | val x =>
    obtain ⟨h1, h2⟩ := hret
    refine ⟨v, _, io, ts'.put 0 x.nrm, G', he, hr _ _ hR, ?_, hio, by rw [pure_nrm]; exact h1, by simp [TS.put]⟩
    have h0 := hrel.tmp 0
    rw [h2] at h0
    have hn : 0 < ts'.n := by rw [← hrel.size]; simp
    have := hrel.put hn (v := v) (x := x.nrm) (by simpa using h0.nrm)
    simpa [Act.put] using this
  | own sz xs =>
    obtain ⟨d, g, h1, h2, h3, h4⟩ := hret
    have := hrel.nrmArr (d := d) (sz := sz) (xs := []) (ys := xs) (by simpa using h3)
    refine ⟨v, _, io, ts'.setObj d (.arr sz (AV.nrm.nrmL xs)), G', he, hr _ _ hR, by simpa using this, fun j b hj => ?_, d, g, by rw [nrmL_len]; exact h1, h2, by simp [TS.setObj], by rw [pureL_nrm]; exact h4⟩
    obtain ⟨g1, g2, g3⟩ := hio j b hj
    refine ⟨g1, ?_, g3⟩
    have hjd : j ≠ d := by rintro rfl; rw [h3] at g2; cases g2
    simp only [TS.setObj, upd_ne _ _ hjd]
    exact g2

theorem CallV.nrm {f : FuncId} {args : List Arg} {R R' : Ret → (Nat → List AV) → Prop} (hr : ∀ r io, R r io → R' r.nrm io) (h : CallV P f args R) : CallV P f args R' := by
  intro E G vals w hw hrel hpin
  have := h E G vals w hw hrel hpin
  split at this <;> rename_i heq
  · exact Calls.mono this fun e w' h => h.nrm hr
  · exact this.nrm hr
  · exact this.elim

/-- What a result may be, that a contract may say R of it. -/
def Ret.fits (R : Ret → (Nat → List AV) → Prop) (r : Ret) (io : Nat → List AV) : Prop := R r.nrm io ∨ (r = .val (.slice true []) ∧ ∃ sz, 0 < sz ∧ R (.own sz []) io)

theorem Post.fit {E : Env} {R : Ret → (Nat → List AV) → Prop} (hpin : ∀ j, E.pin j = none) {e : Ending} {w : World} (h : Post E (Ret.fits R) e w) : Post E R e w := by
  obtain ⟨v, r, io, ts', G', he, hR, hrel, hio, hret⟩ := h
  rcases hR with hR | ⟨rfl, sz, hsz, hR⟩
  · exact Post.nrm (R := fun r io => R r.nrm io) (fun _ _ h => h) ⟨v, r, io, ts', G', he, hR, hrel, hio, hret⟩
  · obtain ⟨_, h2⟩ := hret
    have h0 := hrel.tmp 0
    rw [h2] at h0
    have hv : ∃ a, v = .slice a 0 0 := by
      have h0 : Rep (ctxOf E G' ts' w) v (.slice true []) := by simpa using h0
      cases h0 with
      | slice0 _ a cap h => exact ⟨a, by rw [h rfl]⟩
      | slice => contradiction
    obtain ⟨ad, rfl⟩ := hv
    have hn : 0 < ts'.n := by rw [← hrel.size]; simp
    have := hrel.newObj (d := 0) hn (w' := w) (.arr sz []) w.heap.size none (Nat.le_refl _) (fun h => absurd rfl h) (Bel.refl _ _) (v := .slice ad 0 0) (x := .os 0 (ts'.gen 0 + 1) 0)
      (.os 0 _ _ _ rfl (by simp [ctxOf, TS.new]) fun _ _ => by unfold OsIs; simp [ctxOf, Ghost.set]) ⟨hsz, by simp, by simp [ctxOf, Ghost.set]⟩
    refine ⟨_, .own sz [], io, _, _, he, hR, by simpa [Act.put] using this, ?_, 0, ts'.gen 0 + 1, by simp [TS.put], by simp [TS.put, TS.new], by simp [TS.put, TS.new], rfl⟩
    intro j b hj
    rw [hpin j] at hj
    cases hj

theorem CallV.fit {f : FuncId} {args : List Arg} {R : Ret → (Nat → List AV) → Prop} (hio : ∀ (j : Nat) (cs : List AV), args[j]? ≠ some (Arg.io cs)) (h : CallV P f args (Ret.fits R)) : CallV P f args R := by
  intro E G vals w hw hrel hpin
  have hp : ∀ j, E.pin j = none := fun j => by
    cases hj : E.pin j with
    | none => rfl
    | some b =>
      obtain ⟨cs, hcs⟩ := (hpin j).2 ⟨b, hj⟩
      exact absurd hcs (hio j cs)
  have := h E G vals w hw hrel hpin
  split at this <;> rename_i heq
  · exact Calls.mono this fun e w' h => h.fit hp
  · exact this.fit hp
  · exact this.elim

theorem CallV.start {T : Tys P} {f : FuncId} {fn : Func} {c : Code} {args : List AV} {R : Ret → (Nat → List AV) → Prop} (hcall : ∀ (vals : Array Value) (w : World), (callFunc f vals).run P w = .ok (.enter f vals) w)
    (hf : P.funcs[f]? = some fn) (hb : fn.body = some c) {n : Nat} (hnt : fn.ntmps = n) (hn : args.length ≤ n)
    (h : ∀ (Q : Exit → TS → Prop) (ts : TS), (∀ ex ts', EndsP T fn (args.map Arg.v) (Ret.fits R) ex ts' ∨ EndsO T fn (args.map Arg.v) (Ret.fits R) ex ts' → Q ex ts') → ts.n = n → ArgsAt ts 0 (args.map Arg.v) → SpecC P c ts Q) : CallV P f (args.map Arg.v) R := by
  subst hnt
  refine CallV.fit (fun j cs h => by simp only [List.getElem?_map] at h; cases hh : args[j]? <;> rw [hh] at h <;> simp at h) ?_
  exact CallV.of_body (T := T) hcall hf hb (by simpa using hn) (h _ _ (fun _ _ h => h) rfl (argsAt_argTS _ _ (args.map Arg.v) 0 fun i => by simp))

theorem SpecOs.nil {ops : Array Oper} {K : TS → Prop} {ts : TS} (h : K ts) : SpecOs P ops K [] ts := h
theorem thenK_n {next : TS → Prop} {Q : Exit → TS → Prop} {ts : TS} (h : next ts) : thenK next Q .normal ts := h
theorem inBlockK_n {id : Nat} {Q : Exit → TS → Prop} {ts : TS} (h : Q .normal ts) : inBlockK id Q .normal ts := h
theorem SpecC.cond_t {c : Operand} {x y : Code} {ts : TS} {Q : Exit → TS → Prop} (hc : ts.ev c = .bool true) (h : SpecC P x ts Q) : SpecC P (.cond c x y) ts Q := SpecC.cond hc (fun _ => h) (fun h => by cases h)
theorem SpecC.cond_f {c : Operand} {x y : Code} {ts : TS} {Q : Exit → TS → Prop} (hc : ts.ev c = .bool false) (h : SpecC P y ts Q) : SpecC P (.cond c x y) ts Q := SpecC.cond hc (fun h => by cases h) (fun _ => h)

theorem SpecOs.guard_t (T : Tys P) {ops : Array Oper} {o : Oper} {l : List Oper} {ts : TS} {K : TS → Prop} {j d : Nat} {want : Bool} (hg : o.guard = some (j, want)) (hd : (ops[j]?).bind (·.dst) = some d) (hb : ts.tmp d = .bool want)
    (h : ∀ K' : TS → Prop, (∀ ts', SpecOs P ops K l ts' → K' ts') → opK T o ts K') : SpecOs P ops K (o :: l) ts :=
  SpecOs.guard T hg (b := some want) (by simp [guardOf, hd, hb]) (fun _ => h) (fun h => absurd rfl h)
theorem SpecOs.guard_f (T : Tys P) {ops : Array Oper} {o : Oper} {l : List Oper} {ts : TS} {K : TS → Prop} {j d : Nat} {want b : Bool} (hg : o.guard = some (j, want)) (hd : (ops[j]?).bind (·.dst) = some d) (hb : ts.tmp d = .bool b) (hne : (b == want) = false)
    (h0 : ∀ d, o.dst = some d → d < ts.n) (h : SpecOs P ops K l (putDst ts o.dst (.tup []))) : SpecOs P ops K (o :: l) ts :=
  SpecOs.guard T hg (b := some b) (by simp [guardOf, hd, hb]) (fun e => by cases e; simp at hne) (fun _ => ⟨h0, h⟩)
/-- A guard that was passed over itself. -/
theorem SpecOs.guard_n (T : Tys P) {ops : Array Oper} {o : Oper} {l : List Oper} {ts : TS} {K : TS → Prop} {j d : Nat} {want : Bool} (hg : o.guard = some (j, want)) (hd : (ops[j]?).bind (·.dst) = some d) (hb : ts.tmp d = .tup [])
    (h0 : ∀ d, o.dst = some d → d < ts.n) (h : SpecOs P ops K l (putDst ts o.dst (.tup []))) : SpecOs P ops K (o :: l) ts :=
  SpecOs.guard T hg (b := none) (by simp [guardOf, hd, hb]) (fun e => by cases e) (fun _ => ⟨h0, h⟩)
/-- A guard that is not known: both ways, each with the slot's value written in. -/
theorem SpecOs.guard_s {ops : Array Oper} {o : Oper} {l : List Oper} {ts : TS} {K : TS → Prop} {j d : Nat} {want b : Bool} (_ : o.guard = some (j, want)) (_ : (ops[j]?).bind (·.dst) = some d) (_ : ts.tmp d = .bool b)
    (ht : b = true → SpecOs P ops K (o :: l) ts) (hf : b = false → SpecOs P ops K (o :: l) ts) : SpecOs P ops K (o :: l) ts := by
  cases b
  · exact hf rfl
  · exact ht rfl

/-- A call by a contract of a pure function. -/
theorem SpecO.callP {o : Oper} {ts : TS} {K : TS → Prop} {fop : Operand} {xs : Array Operand} {at_ : Array TypeId} {f : FuncId} {caps args : List AV} {lent : List Nat} {x : AV} (hcall : CallP P f args x)
    (ho : o.op = .call { callee := .value fop, args := xs, argTypes := at_ }) (hf : ts.ev fop = .clo (.func f) [] caps) (hargs : ts.toArgs ((xs.toList.map ts.ev) ++ caps) = some (args, lent))
    (hl : lent = [] ∨ x.flat = true) (hk : setK ts o.dst x K) : SpecO P o ts K :=
  SpecO.call ho hf hargs hcall fun r io hr => by subst hr; exact .inl ⟨hl, hk⟩

/-- The same, the contract last. -/
theorem SpecO.callQ {o : Oper} {ts : TS} {K : TS → Prop} {fop : Operand} {xs : Array Operand} {at_ : Array TypeId} {f : FuncId} {caps args : List AV} {lent : List Nat} {x : AV}
    (ho : o.op = .call { callee := .value fop, args := xs, argTypes := at_ }) (hf : ts.ev fop = .clo (.func f) [] caps) (hargs : ts.toArgs ((xs.toList.map ts.ev) ++ caps) = some (args, lent))
    (hl : lent = [] ∨ x.flat = true) (hk : setK ts o.dst x K) (hcall : CallP P f args x) : SpecO P o ts K := SpecO.callP hcall ho hf hargs hl hk

/-- The contract of a function that hands back an array of the caller's own. -/
def CallO (P : Program) (f : FuncId) (args : List AV) (sz : Nat) (xs : List AV) : Prop := CallV P f (args.map Arg.v) (fun r _ => r = .own sz xs)

theorem SpecO.callO {o : Oper} {ts : TS} {K : TS → Prop} {fop : Operand} {xs : Array Operand} {at_ : Array TypeId} {f : FuncId} {caps args : List AV} {sz : Nat} {zs : List AV}
    (ho : o.op = .call { callee := .value fop, args := xs, argTypes := at_ }) (hf : ts.ev fop = .clo (.func f) [] caps) (hargs : ts.toArgs ((xs.toList.map ts.ev) ++ caps) = some (args, []))
    (hk : newArrK ts o.dst sz zs K) (hcall : CallO P f args sz zs) : SpecO P o ts K :=
  SpecO.call ho hf hargs hcall fun r io hr => by subst hr; exact .inl ⟨.inl rfl, hk⟩

theorem EndP {T : Tys P} {fn : Func} {args : List AV} {rs : List ResultVar} {ts : TS} {x y z : AV} {Q : Exit → TS → Prop} {ex : Exit}
    (hQ : ∀ ex ts', EndsP T fn (args.map Arg.v) (Ret.fits fun r _ => r = .val z) ex ts' ∨ EndsO T fn (args.map Arg.v) (Ret.fits fun r _ => r = .val z) ex ts' → Q ex ts')
    (hex : ex = .normal ∨ ex = .ret) (hrs : fn.results.toList = rs) (hx : ts.result T rs = some x) (hy : x.res ts = some y) (hz : y.nrm = z) : Q ex ts :=
  hQ _ _ (.inl ⟨hex, x, y, fun _ => [], by rw [hrs]; exact hx, hy, by refine .inl ?_; show Ret.val y.nrm = _; rw [hz], fun j cs h => by simp only [List.getElem?_map] at h; cases hh : args[j]? <;> rw [hh] at h <;> simp at h⟩)

theorem EndO {T : Tys P} {fn : Func} {args : List AV} {rs : List ResultVar} {ts : TS} {d g len sz : Nat} {xs zs : List AV} {Q : Exit → TS → Prop} {ex : Exit}
    (hQ : ∀ ex ts', EndsP T fn (args.map Arg.v) (Ret.fits fun r _ => r = .own sz zs) ex ts' ∨ EndsO T fn (args.map Arg.v) (Ret.fits fun r _ => r = .own sz zs) ex ts' → Q ex ts')
    (hex : ex = .normal ∨ ex = .ret) (hrs : fn.results.toList = rs) (hx : ts.result T rs = some (.os d g len)) (hg : g = ts.gen d) (ho : ts.obj d = .arr sz xs) (hl : len = xs.length) (hp : AV.pure.pureL xs = true) (hz : AV.nrm.nrmL xs = zs) : Q ex ts :=
  hQ _ _ (.inr ⟨hex, d, g, sz, xs, fun _ => [], by rw [hrs, hx, hl], hg, ho, hp, by refine .inl ?_; show Ret.own sz (AV.nrm.nrmL xs) = _; rw [hz], fun j cs h => by simp only [List.getElem?_map] at h; cases hh : args[j]? <;> rw [hh] at h <;> simp at h⟩)

/-- A nil slice, where the contract says an array of one's own. -/
theorem EndN {T : Tys P} {fn : Func} {args : List AV} {rs : List ResultVar} {ts : TS} {sz : Nat} {zs : List AV} {Q : Exit → TS → Prop} {ex : Exit}
    (hQ : ∀ ex ts', EndsP T fn (args.map Arg.v) (Ret.fits fun r _ => r = .own sz zs) ex ts' ∨ EndsO T fn (args.map Arg.v) (Ret.fits fun r _ => r = .own sz zs) ex ts' → Q ex ts')
    (hex : ex = .normal ∨ ex = .ret) (hrs : fn.results.toList = rs) (hx : ts.result T rs = some (.slice true [])) (hsz : 0 < sz) (hz : zs = []) : Q ex ts :=
  hQ _ _ (.inl ⟨hex, .slice true [], .slice true [], fun _ => [], by rw [hrs]; exact hx, rfl, .inr ⟨rfl, sz, hsz, by rw [hz]⟩, fun j cs h => by simp only [List.getElem?_map] at h; cases hh : args[j]? <;> rw [hh] at h <;> simp at h⟩)

mutual
theorem res_of_pure (ts : TS) : ∀ (x : AV), x.pure = true → x.res ts = some x
  | .agg cs, h => by simp only [AV.pure] at h; simp [AV.res, resL_of_pure ts cs h]
  | .tup cs, h => by simp only [AV.pure] at h; simp [AV.res, resL_of_pure ts cs h]
  | .any, h => by simp [AV.res, AV.pure]
  | .bool _, h => by simp [AV.res, AV.pure]
  | .int _ _, h => by simp [AV.res, AV.pure]
  | .str _, h => by simp [AV.res, AV.pure]
  | .slice _ _, h => by simp [AV.res, h]
  | .ro _, h => by simp [AV.res, h]
  | .nilp, h => by simp [AV.res, AV.pure]
  | .clo _ _ _, h => by simp [AV.res, h]
  | .nilf, h => by simp [AV.res, AV.pure]
  | .nilm, h => by simp [AV.res, AV.pure]
  | .niface, h => by simp [AV.res, AV.pure]
  | .iface _ _, h => by simp [AV.res, h]
  | .os _ _ _, h => by simp [AV.pure] at h
  | .ref _ _ _, h => by simp [AV.pure] at h
  | .eref _ _ _ _, h => by simp [AV.pure] at h
  | .ot _ _ _ _, h => by simp [AV.pure] at h
theorem resL_of_pure (ts : TS) : ∀ (l : List AV), AV.pure.pureL l = true → AV.res.resL ts l = some l
  | [], _ => rfl
  | x :: r, h => by
    simp only [AV.pure.pureL, Bool.and_eq_true] at h
    simp [AV.res.resL, res_of_pure ts x h.1, resL_of_pure ts r h.2]
end

section
variable (ts : TS) (T : Tys P)
@[go_sem] theorem result_tmp (t : Nat) : ts.result T [.tmp t] = some (ts.tmp t) := rfl
@[go_sem] theorem result_cell (a t : Nat) : ts.result T [.cell a t] = ts.resV T (.cell a t) := by
  unfold TS.result TS.resVs TS.resVs
  cases ts.resV T (.cell a t) <;> rfl
@[go_sem] theorem result_nil : ts.result T [] = some (.tup []) := rfl
@[go_sem] theorem result_two (r s : ResultVar) : ts.result T [r, s] = (match ts.resV T r, ts.resV T s with | some x, some y => some (.tup [x, y]) | _, _ => none) := by
  simp only [TS.result, TS.resVs]
  cases ts.resV T r <;> cases ts.resV T s <;> rfl
@[go_sem] theorem result_three (r s t : ResultVar) : ts.result T [r, s, t] = (match ts.resV T r, ts.resV T s, ts.resV T t with | some x, some y, some z => some (.tup [x, y, z]) | _, _, _ => none) := by
  simp only [TS.result, TS.resVs]
  cases ts.resV T r <;> cases ts.resV T s <;> cases ts.resV T t <;> rfl
@[go_sem] theorem resV_tmp (t : Nat) : ts.resV T (.tmp t) = some (ts.tmp t) := rfl
@[go_sem] theorem resV_cell (a t : Nat) : ts.resV T (.cell a t) = (match (T.ty t).k with
    | .unk => none
    | k => match ts.ptr (ts.tmp a) with
      | some cs => if k.agg then (if (T.ty t).sz ≤ cs.length then some (.agg (cs.take (T.ty t).sz)) else none) else (if 1 ≤ cs.length then some (cs.getD 0 .any) else none)
      | none => none) := rfl
@[go_sem] theorem res_int (k : IntKind) (n : Int) : (AV.int k n).res ts = some (.int k n) := rfl
@[go_sem] theorem res_bool (b : Bool) : (AV.bool b).res ts = some (.bool b) := rfl
@[go_sem] theorem res_str (s : List UInt8) : (AV.str s).res ts = some (.str s) := rfl
@[go_sem] theorem res_agg (cs : List AV) : (AV.agg cs).res ts = (AV.res.resL ts cs).map .agg := rfl
@[go_sem] theorem res_tup (cs : List AV) : (AV.tup cs).res ts = (AV.res.resL ts cs).map .tup := rfl
@[go_sem] theorem res_slice (c : Bool) (cs : List AV) : (AV.slice c cs).res ts = if AV.pure.pureL cs then some (.slice c cs) else none := rfl
@[go_sem] theorem res_os (d g len : Nat) : (AV.os d g len).res ts = if g = ts.gen d then (match ts.obj d with | .arr _ xs => if len ≤ xs.length ∧ AV.pure.pureL xs = true then some (.slice false (xs.take len)) else none | _ => none) else none := rfl
@[go_sem] theorem resL_nil : AV.res.resL ts [] = some [] := rfl
@[go_sem] theorem resL_cons (x : AV) (r : List AV) : AV.res.resL ts (x :: r) = match x.res ts, AV.res.resL ts r with
    | some y, some s => some (y :: s)
    | _, _ => none := rfl
end

section
variable (ts : TS)
@[go_sem] theorem toArgs_nil : ts.toArgs [] = some ([], []) := rfl
@[go_sem] theorem toArgs_cons (x : AV) (r : List AV) : ts.toArgs (x :: r) = match x.res ts, ts.toArgs r with
    | some y, some (ys, ds) => some (y.nrm :: ys, x.owns ++ ds)
    | _, _ => none := rfl
@[go_sem] theorem nrm_int (k : IntKind) (n : Int) : (AV.int k n).nrm = .int k n := rfl
@[go_sem] theorem nrm_bool (b : Bool) : (AV.bool b).nrm = .bool b := rfl
@[go_sem] theorem nrm_str (s : List UInt8) : (AV.str s).nrm = .str s := rfl
@[go_sem] theorem nrm_agg (cs : List AV) : (AV.agg cs).nrm = .agg (AV.nrm.nrmL cs) := rfl
@[go_sem] theorem nrm_tup (cs : List AV) : (AV.tup cs).nrm = .tup (AV.nrm.nrmL cs) := rfl
@[go_sem] theorem nrm_slice (c : Bool) (cs : List AV) : (AV.slice c cs).nrm = .slice false (AV.nrm.nrmL cs) := rfl
@[go_sem] theorem nrm_ro (cs : List AV) : (AV.ro cs).nrm = .ro (AV.nrm.nrmL cs) := rfl
@[go_sem] theorem nrm_clo (fn : Fn) (a b : List AV) : (AV.clo fn a b).nrm = .clo fn (AV.nrm.nrmL a) (AV.nrm.nrmL b) := rfl
@[go_sem] theorem nrm_nilp : AV.nilp.nrm = .nilp := rfl
@[go_sem] theorem nrm_nilf : AV.nilf.nrm = .nilf := rfl
@[go_sem] theorem nrm_nilm : AV.nilm.nrm = .nilm := rfl
@[go_sem] theorem nrm_niface : AV.niface.nrm = .niface := rfl
@[go_sem] theorem nrmL_nil : AV.nrm.nrmL [] = [] := rfl
@[go_sem] theorem nrmL_cons (x : AV) (r : List AV) : AV.nrm.nrmL (x :: r) = x.nrm :: AV.nrm.nrmL r := rfl
@[go_sem] theorem nrmL_append (l r : List AV) : AV.nrm.nrmL (l ++ r) = AV.nrm.nrmL l ++ AV.nrm.nrmL r := by simp [nrmL_eq]
@[go_sem] theorem owns_os (d g n : Nat) : (AV.os d g n).owns = [d] := rfl
@[go_sem] theorem owns_agg (cs : List AV) : (AV.agg cs).owns = AV.owns.ownsL cs := rfl
@[go_sem] theorem owns_int (k : IntKind) (n : Int) : (AV.int k n).owns = [] := rfl
@[go_sem] theorem owns_bool (b : Bool) : (AV.bool b).owns = [] := rfl
@[go_sem] theorem owns_str (s : List UInt8) : (AV.str s).owns = [] := rfl
@[go_sem] theorem owns_slice (c : Bool) (cs : List AV) : (AV.slice c cs).owns = [] := rfl
@[go_sem] theorem owns_ro (cs : List AV) : (AV.ro cs).owns = [] := rfl
@[go_sem] theorem owns_clo (fn : Fn) (a b : List AV) : (AV.clo fn a b).owns = [] := rfl
@[go_sem] theorem owns_nilf : AV.nilf.owns = [] := rfl
@[go_sem] theorem owns_nilp : AV.nilp.owns = [] := rfl
@[go_sem] theorem owns_nilm : AV.nilm.owns = [] := rfl
@[go_sem] theorem owns_niface : AV.niface.owns = [] := rfl
@[go_sem] theorem ownsL_nil : AV.owns.ownsL [] = [] := rfl
@[go_sem] theorem ownsL_cons (x : AV) (r : List AV) : AV.owns.ownsL (x :: r) = x.owns ++ AV.owns.ownsL r := rfl
@[go_sem] theorem res_ro (cs : List AV) : (AV.ro cs).res ts = if AV.pure.pureL cs then some (.ro cs) else none := rfl
@[go_sem] theorem res_clo (fn : Fn) (a b : List AV) : (AV.clo fn a b).res ts = if (AV.pure.pureL a && AV.pure.pureL b) = true then some (.clo fn a b) else none := rfl
@[go_sem] theorem res_nilp : AV.nilp.res ts = some .nilp := rfl
@[go_sem] theorem res_nilf : AV.nilf.res ts = some .nilf := rfl
@[go_sem] theorem res_nilm : AV.nilm.res ts = some .nilm := rfl
@[go_sem] theorem res_niface : AV.niface.res ts = some .niface := rfl
@[go_sem] theorem pureL_nil : AV.pure.pureL [] = true := rfl
@[go_sem] theorem pureL_cons (x : AV) (r : List AV) : AV.pure.pureL (x :: r) = (x.pure && AV.pure.pureL r) := rfl
@[go_sem] theorem pure_int (k : IntKind) (n : Int) : (AV.int k n).pure = true := rfl
@[go_sem] theorem pure_bool (b : Bool) : (AV.bool b).pure = true := rfl
@[go_sem] theorem pure_str (s : List UInt8) : (AV.str s).pure = true := rfl
@[go_sem] theorem pure_agg (cs : List AV) : (AV.agg cs).pure = AV.pure.pureL cs := rfl
@[go_sem] theorem pure_tup (cs : List AV) : (AV.tup cs).pure = AV.pure.pureL cs := rfl
@[go_sem] theorem pure_slice (c : Bool) (cs : List AV) : (AV.slice c cs).pure = AV.pure.pureL cs := rfl
@[go_sem] theorem pure_ro (cs : List AV) : (AV.ro cs).pure = AV.pure.pureL cs := rfl
@[go_sem] theorem pure_clo (fn : Fn) (a b : List AV) : (AV.clo fn a b).pure = (AV.pure.pureL a && AV.pure.pureL b) := rfl
@[go_sem] theorem pure_nilp : AV.nilp.pure = true := rfl
@[go_sem] theorem pure_nilf : AV.nilf.pure = true := rfl
@[go_sem] theorem pure_nilm : AV.nilm.pure = true := rfl
@[go_sem] theorem flat_int (k : IntKind) (n : Int) : (AV.int k n).flat = true := rfl
@[go_sem] theorem flat_bool (b : Bool) : (AV.bool b).flat = true := rfl
@[go_sem] theorem flat_str (s : List UInt8) : (AV.str s).flat = true := rfl
@[go_sem] theorem flat_agg (cs : List AV) : (AV.agg cs).flat = AV.flat.flatL cs := rfl
@[go_sem] theorem flatL_nil : AV.flat.flatL [] = true := rfl
@[go_sem] theorem flatL_cons (x : AV) (r : List AV) : AV.flat.flatL (x :: r) = (x.flat && AV.flat.flatL r) := rfl
end

end Go.Proofs.Ytjmnokbbodcaaaa.Lg
