/- How a body gives a contract; how a caller uses one. -/
import Derived.Test.YtjmnokbbodcaaaaLg11
namespace Go.Proofs.Ytjmnokbbodcaaaa.Lg
set_option linter.unusedVariables false
set_option linter.unusedSimpArgs false
open Go
variable {P : Program}

/-- A result variable's value. -/
def TS.resV (T : Tys P) (ts : TS) : ResultVar → Option AV
  | .tmp t => some (ts.tmp t)
  | .cell a ty => match (T.ty ty).k with
    | .unk => none
    | k => match ts.ptr (ts.tmp a) with
      | some cs => if k.agg then (if (T.ty ty).sz ≤ cs.length then some (.agg (cs.take (T.ty ty).sz)) else none) else (if 1 ≤ cs.length then some (cs.getD 0 .any) else none)
      | none => none

theorem run_resV {T : Tys P} {E : Env} {ts : TS} {G : Ghost} {a : Act} {w : World} (h : Rel E ts G a w) {r : ResultVar} {x : AV} (hx : ts.resV T r = some x) :
    ∃ v, ((match r with | .tmp t => pure (a.tmps.getD t undef) | .cell q t => do loadVar t (← asAddr (a.tmps.getD q undef))) : Sem Value).run P w = .ok v w ∧ Rep (ctxOf E G ts w) v x := by
  cases r with
  | tmp t => simp [TS.resV] at hx; subst hx; exact ⟨_, rfl, h.tmp t⟩
  | cell q ty =>
    simp only [TS.resV] at hx
    split at hx
    · cases hx
    · rename_i hne
      have ht : (T.ty ty).k ≠ .unk := by simpa using hne
      split at hx
      · rename_i cs hp
        obtain ⟨b, off, hv, hc⟩ := ptr_cells h hp (h.tmp q)
        have e1 : ∀ (v : Value), (loadVar ty ⟨b, off, none⟩).run P w = .ok v w → ((do loadVar ty (← asAddr (a.tmps.getD q undef))) : Sem Value).run P w = .ok v w := fun v hl => by
          rw [hv]; simp [asAddr, hl]
        cases hag : (T.ty ty).k.agg with
        | false =>
          rw [hag] at hx
          simp only [Bool.false_eq_true, if_false] at hx
          split at hx
          · rename_i hl
            cases hx
            obtain ⟨u, hu, hrep⟩ := hc 0 (by omega)
            refine ⟨u, e1 u ?_, by simpa using hrep⟩
            simp only [loadVar, Sem.run_bind, Tys.run_isAgg ht, Result.andThen_ok, hag, Bool.false_eq_true, if_false]
            simp [show w.cell? ⟨b, off, none⟩ = some u from hu]
          · cases hx
        | true =>
          rw [hag] at hx
          simp only [if_true] at hx
          split at hx
          · rename_i hl
            cases hx
            let f : Nat → Value := fun j => (w.cell? ⟨b, off + j, none⟩).getD undef
            have hf : ∀ j, j < (T.ty ty).sz → w.cell? ((⟨b, off, none⟩ : Addr).add j) = some (f j) := fun j hj => by
              obtain ⟨u, hu, _⟩ := hc j (by omega)
              rw [Addr.add0]; simp [f, hu]
            have hload := run_loadCells (P := P) w ⟨b, off, none⟩ (T.ty ty).sz f hf
            refine ⟨.agg ((List.range (T.ty ty).sz).map f).toArray, e1 _ ?_, .agg _ _ (by simp; omega) fun i => ?_⟩
            · simp only [loadVar, Sem.run_bind, Tys.run_isAgg ht, Result.andThen_ok, hag, if_true, Tys.run_sizeOf ht, hload, Sem.run_pure]
            · by_cases hi : i < (T.ty ty).sz
              · obtain ⟨u, hu, hrep⟩ := hc i (by omega)
                have e1 : (((List.range (T.ty ty).sz).map f).toArray).getD i undef = u := by simp [hi, f, hu]
                have e2 : (cs.take (T.ty ty).sz).getD i .any = cs.getD i .any := by simp [List.getElem?_take, hi]
                rw [e1, e2]; exact hrep
              · have e2 : (cs.take (T.ty ty).sz).getD i .any = .any := by simp [List.getElem?_take, hi]
                rw [e2]; exact .any _
          · cases hx
      · cases hx

def TS.resVs (T : Tys P) (ts : TS) : List ResultVar → Option (List AV)
  | [] => some []
  | r :: l => match ts.resV T r, TS.resVs T ts l with
    | some x, some xs => some (x :: xs)
    | _, _ => none

/-- The function's result. -/
def TS.result (T : Tys P) (ts : TS) (l : List ResultVar) : Option AV :=
  match l, ts.resVs T l with
  | [_], some [x] => some x
  | [_], _ => none
  | _, some xs => some (.tup xs)
  | _, none => none

theorem run_resVs {T : Tys P} {E : Env} {ts : TS} {G : Ghost} {a : Act} {w : World} (h : Rel E ts G a w) : ∀ (l : List ResultVar) (xs : List AV), ts.resVs T l = some xs →
    ∃ vs : List Value, (l.mapM (fun r => (match r with | .tmp t => pure (a.tmps.getD t undef) | .cell q t => do loadVar t (← asAddr (a.tmps.getD q undef)) : Sem Value))).run P w = .ok vs w ∧ vs.length = l.length ∧ xs.length = l.length ∧
      ∀ i, Rep (ctxOf E G ts w) (vs.getD i undef) (xs.getD i .any)
  | [], xs, hx => by simp [TS.resVs] at hx; subst hx; exact ⟨[], rfl, rfl, rfl, fun i => by simp; exact .any _⟩
  | r :: l, xs, hx => by
    simp only [TS.resVs] at hx
    split at hx
    · rename_i x xs' h1 h2
      cases hx
      obtain ⟨v, e1, e2⟩ := run_resV h h1
      obtain ⟨vs, f1, f2, f3, f4⟩ := run_resVs h l xs' h2
      refine ⟨v :: vs, ?_, by simp [f2], by simp [f3], fun i => ?_⟩
      · simp only [List.mapM_cons, Sem.run_bind, e1, Result.andThen_ok, f1, Sem.run_pure]
      · cases i with
        | zero => simpa using e2
        | succ i => simpa using f4 i
    · cases hx

theorem run_result {T : Tys P} {E : Env} {ts : TS} {G : Ghost} {a : Act} {w : World} (h : Rel E ts G a w) {fn : Func} {x : AV} (hx : ts.result T fn.results.toList = some x) :
    ∃ v, (results fn a.tmps).run P w = .ok v w ∧ Rep (ctxOf E G ts w) v x := by
  unfold TS.result at hx
  unfold results
  split at hx
  · rename_i r y hl hxs
    cases hx
    obtain ⟨vs, f1, f2, f3, f4⟩ := run_resVs h _ _ hxs
    have hv : ∃ v, vs = [v] := List.length_eq_one_iff.1 (by rw [f2, hl]; rfl)
    obtain ⟨v, rfl⟩ := hv
    refine ⟨v, ?_, by simpa using f4 0⟩
    rw [Sem.run_bind, Array.mapM_eq_mapM_toList, Sem.run_map]
    erw [f1]
    simp
  · cases hx
  · rename_i xs hxs _ hne
    cases hx
    obtain ⟨vs, f1, f2, f3, f4⟩ := run_resVs h _ _ hxs
    have hlen : vs.toArray.size ≠ 1 := by
      intro e
      have : fn.results.toList.length = 1 := by rw [← f2]; simpa using e
      obtain ⟨r, hr⟩ := List.length_eq_one_iff.1 this
      exact hne r hr
    refine ⟨.tuple vs.toArray, ?_, .tup _ _ (by simp [f2, f3]) fun i => by simpa using f4 i⟩
    rw [Sem.run_bind, Array.mapM_eq_mapM_toList, Sem.run_map]
    erw [f1]
    simp only [Result.andThen_ok, Sem.run_pure, dif_neg hlen]
  · cases hx

/-- What must hold where the function ends. -/
def EndsP (T : Tys P) (fn : Func) (args : List Arg) (R : Ret → (Nat → List AV) → Prop) (ex : Exit) (ts : TS) : Prop :=
  (ex = .normal ∨ ex = .ret) ∧ ∃ x y io, ts.result T fn.results.toList = some x ∧ x.res ts = some y ∧ R (.val y) io ∧
    ∀ j cs, args[j]? = some (.io cs) → ts.gen j = 0 ∧ ts.obj j = .box (io j) ∧ AV.pure.pureL (io j) = true

def EndsO (T : Tys P) (fn : Func) (args : List Arg) (R : Ret → (Nat → List AV) → Prop) (ex : Exit) (ts : TS) : Prop :=
  (ex = .normal ∨ ex = .ret) ∧ ∃ d g sz xs io, ts.result T fn.results.toList = some (.os d g xs.length) ∧ g = ts.gen d ∧ ts.obj d = .arr sz xs ∧ AV.pure.pureL xs = true ∧ R (.own sz xs) io ∧
    ∀ j cs, args[j]? = some (.io cs) → ts.gen j = 0 ∧ ts.obj j = .box (io j) ∧ AV.pure.pureL (io j) = true

theorem argTS_rel {E : Env} {G : Ghost} {args : List Arg} {vals : Array Value} {w : World} {n : Nat} (hn : args.length ≤ n) (h : Rel E (argTS args args.length) G ⟨vals, []⟩ w) :
    Rel E (argTS args n) G ⟨vals ++ Array.replicate (n - vals.size) undef, []⟩ w := by
  have hs : vals.size = args.length := h.size
  have hctx : ctxOf E G (argTS args n) w = ctxOf E G (argTS args args.length) w := rfl
  refine ⟨by simp [argTS]; omega, rfl, fun t => ?_, fun d => ?_, h.sep, h.own, h.inF, h.bel, h.pin⟩
  · rw [hctx]
    by_cases ht : t < vals.size
    · have := h.tmp t
      have e : (vals ++ Array.replicate (n - vals.size) undef).getD t undef = vals.getD t undef := by
        simp only [Array.getD_eq_getD_getElem?, Array.getElem?_append, ht, if_true]
      rw [e]; exact this
    · have : (argTS args n).tmp t = .any := by
        simp only [argTS]
        rw [List.getElem?_eq_none (by omega)]
      rw [this]; exact .any _
  · rw [hctx]; exact h.obj d

theorem CallV.of_body {T : Tys P} {f : FuncId} {fn : Func} {c : Code} {args : List Arg} {R : Ret → (Nat → List AV) → Prop} (hcall : ∀ (vals : Array Value) (w : World), (callFunc f vals).run P w = .ok (.enter f vals) w)
    (hf : P.funcs[f]? = some fn) (hb : fn.body = some c) (hn : args.length ≤ fn.ntmps) (h : SpecC P c (argTS args fn.ntmps) (fun ex ts => EndsP T fn args R ex ts ∨ EndsO T fn args R ex ts)) : CallV P f args R := by
  intro E G vals w hw hrel hpin
  rw [hcall]
  dsimp only
  refine calls_of_wp hf hb ?_
  have hs : vals.size = args.length := hrel.size
  refine wp_mono (h E G _ w (argTS_rel hn hrel)) ?_
  rintro e a' w' ⟨ts', G', hq, hr'⟩
  rcases hq with ⟨hex, x, y, io, h1, h2, h3, h4⟩ | ⟨hex, d, g, sz, xs, io, h1, h2, h3, h4, h5, h6⟩
  · obtain ⟨v, hv, hrep⟩ := run_result hr' h1
    have hio : ∀ j b, E.pin j = some b → ts'.gen j = 0 ∧ ts'.obj j = .box (io j) ∧ AV.pure.pureL (io j) = true := fun j b hj => by
      obtain ⟨cs, hcs⟩ := (hpin j).2 ⟨b, hj⟩; exact h4 j cs hcs
    have hrep' := Rep.res hr' (fun j b hj _ => ⟨_, (hio j b hj).2.1⟩) hrep h2
    have hov := hr'.over
    have hpost : bodyPost P fn (Post E R) e a' w' := by
      have key : a'.defers = [] ∧ ∃ v, (results fn a'.tmps).run P w' = .ok v w' ∧ Post E R (.returned v) w' := by
        refine ⟨hr'.defers, v, hv, v, .val y, io, { (ts'.over E) with n := 1, tmp := fun t => if t = 0 then y else .any }, G', rfl, h3, ?_, ?_, res_pure ts' x y h2, by simp⟩
        · refine ⟨rfl, rfl, fun t => ?_, hov.obj, hov.sep, hov.own, hov.inF, hov.bel, hov.pin⟩
          show Rep (ctxOf E G' (ts'.over E) w') _ (if t = 0 then y else .any)
          split
          · rename_i e0; subst e0; exact hrep'
          · exact .any _
        · intro j b hj
          obtain ⟨p1, p2, p3⟩ := hio j b hj
          refine ⟨p1, ?_, p3⟩
          show (if (E.pin j).isSome && ts'.gen j == 0 then ts'.obj j else .dead) = _
          simp [hj, p1, p2]
      rcases hex with rfl | rfl <;> exact key
    exact hpost
  · obtain ⟨v, hv, hrep⟩ := run_result hr' h1
    have hpost : bodyPost P fn (Post E R) e a' w' := by
      have key : a'.defers = [] ∧ ∃ v, (results fn a'.tmps).run P w' = .ok v w' ∧ Post E R (.returned v) w' := by
        refine ⟨hr'.defers, v, hv, v, .own sz xs, io, { ts' with n := 1, tmp := fun t => if t = 0 then .os d g xs.length else .any }, G', rfl, h5, ?_, ?_, d, g, by simp, h2.symm, h3, h4⟩
        · refine ⟨rfl, rfl, fun t => ?_, hr'.obj, hr'.sep, hr'.own, hr'.inF, hr'.bel, hr'.pin⟩
          show Rep (ctxOf E G' ts' w') _ (if t = 0 then _ else .any)
          split
          · rename_i e0; subst e0; exact hrep
          · exact .any _
        · intro j b hj
          obtain ⟨cs, hcs⟩ := (hpin j).2 ⟨b, hj⟩
          exact h6 j cs hcs
      rcases hex with rfl | rfl <;> exact key
    exact hpost

end Go.Proofs.Ytjmnokbbodcaaaa.Lg
