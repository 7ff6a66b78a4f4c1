/- Calls: contracts of functions over abstract values, how a body gives one, how a caller uses one. -/
import Derived.Test.YtjmnokbbodcaaaaLg10
namespace Go.Proofs.Ytjmnokbbodcaaaa.Lg
set_option linter.unusedVariables false
set_option linter.unusedSimpArgs false
open Go
variable {P : Program}

inductive Arg where
  | v (x : AV)
  | io (cs : List AV)
  | own (sz : Nat) (xs : List AV)

inductive Ret where
  | val (x : AV)
  | own (sz : Nat) (xs : List AV)

def argTS (args : List Arg) (n : Nat) : TS :=
  { n := n
    tmp := fun t => match args[t]? with | some (.v x) => x | some (.io _) => .ref t 0 0 | some (.own _ xs) => .os t 0 xs.length | none => .any
    gen := fun _ => 0
    obj := fun t => match args[t]? with | some (.io cs) => .box cs | some (.own sz xs) => .arr sz xs | _ => .dead }

def RetIs (ts : TS) : Ret → Prop
  | .val x => x.pure = true ∧ ts.tmp 0 = x
  | .own sz xs => ∃ d g, ts.tmp 0 = .os d g xs.length ∧ ts.gen d = g ∧ ts.obj d = .arr sz xs ∧ AV.pure.pureL xs = true

def Post (E : Env) (R : Ret → (Nat → List AV) → Prop) (e : Ending) (w' : World) : Prop :=
  ∃ v r io ts' G', e = .returned v ∧ R r io ∧ Rel E ts' G' ⟨#[v], []⟩ w' ∧ (∀ j b, E.pin j = some b → ts'.gen j = 0 ∧ ts'.obj j = .box (io j) ∧ AV.pure.pureL (io j) = true) ∧ RetIs ts' r

/-- THE CONTRACT of a function: called with values that read as 'args' it returns, and what it returns meets R. -/
def CallV (P : Program) (f : FuncId) (args : List Arg) (R : Ret → (Nat → List AV) → Prop) : Prop :=
  ∀ (E : Env) (G : Ghost) (vals : Array Value) (w : World), E.w0 = w → Rel E (argTS args args.length) G ⟨vals, []⟩ w → (∀ j, (∃ cs, args[j]? = some (.io cs)) ↔ ∃ b, E.pin j = some b) →
    match (callFunc f vals).run P w with
    | .ok (.enter f' args') w1 => Calls P f' args' w1 (Post E R)
    | .ok (.value v) w1 => Post E R (.returned v) w1
    | _ => False

theorem CallV.mono {f : FuncId} {args : List Arg} {R R' : Ret → (Nat → List AV) → Prop} (h : CallV P f args R) (hr : ∀ r io, R r io → R' r io) : CallV P f args R' := by
  intro E G vals w hw hrel hpin
  have := h E G vals w hw hrel hpin
  split at this <;> rename_i heq
  · refine Calls.mono this ?_
    rintro e w' ⟨v, r, io, ts', G', h1, h2, h3⟩
    exact ⟨v, r, io, ts', G', h1, hr _ _ h2, h3⟩
  · obtain ⟨v, r, io, ts', G', h1, h2, h3⟩ := this
    exact ⟨v, r, io, ts', G', h1, hr _ _ h2, h3⟩
  · exact this

/-- A pure function's contract: what it returns is x. -/
def CallP (P : Program) (f : FuncId) (args : List AV) (x : AV) : Prop := CallV P f (args.map Arg.v) (fun r _ => r = .val x)

/-! ### What is owned, read as plain data: at a return -/
def AV.res (ts : TS) : AV → Option AV
  | .os d g len => if g = ts.gen d then (match ts.obj d with | .arr _ xs => if len ≤ xs.length ∧ AV.pure.pureL xs = true then some (.slice false (xs.take len)) else none | _ => none) else none
  | .agg cs => (resL ts cs).map .agg
  | .tup cs => (resL ts cs).map .tup
  | x => if x.pure then some x else none
where resL (ts : TS) : List AV → Option (List AV)
  | [] => some []
  | x :: r => match x.res ts, resL ts r with
    | some y, some s => some (y :: s)
    | _, _ => none

theorem resL_spec (ts : TS) : ∀ (l l' : List AV), AV.res.resL ts l = some l' → l.length = l'.length ∧ ∀ i, i < l.length → (l.getD i .any).res ts = some (l'.getD i .any)
  | [], l', h => by simp [AV.res.resL] at h; subst h; simp
  | x :: r, l', h => by
    simp only [AV.res.resL] at h
    split at h
    · rename_i y s h1 h2
      cases h
      obtain ⟨e1, e2⟩ := resL_spec ts r s h2
      refine ⟨by simp [e1], fun i hi => ?_⟩
      cases i with
      | zero => simpa using h1
      | succ i => simpa using e2 i (by simpa using hi)
    · cases h

theorem pureL_take (l : List AV) (n : Nat) (h : AV.pure.pureL l = true) : AV.pure.pureL (l.take n) = true := by
  rw [pureL_iff] at h ⊢
  exact fun x hx => h x (List.mem_of_mem_take hx)

mutual
theorem res_pure (ts : TS) : ∀ (x y : AV), x.res ts = some y → y.pure = true
  | .os d g len, y, h => by
    simp only [AV.res] at h
    split at h
    · split at h
      · split at h
        · rename_i hc; cases h; simpa [AV.pure] using pureL_take _ _ hc.2
        · cases h
      · cases h
    · cases h
  | .agg cs, y, h => by
    simp only [AV.res, Option.map_eq_some_iff] at h
    obtain ⟨l, h1, rfl⟩ := h
    simpa [AV.pure] using resL_pure ts cs l h1
  | .tup cs, y, h => by
    simp only [AV.res, Option.map_eq_some_iff] at h
    obtain ⟨l, h1, rfl⟩ := h
    simpa [AV.pure] using resL_pure ts cs l h1
  | .any, y, h => by simp [AV.res, AV.pure] at h; subst h; rfl
  | .bool _, y, h => by simp [AV.res, AV.pure] at h; subst h; rfl
  | .int _ _, y, h => by simp [AV.res, AV.pure] at h; subst h; rfl
  | .str _, y, h => by simp [AV.res, AV.pure] at h; subst h; rfl
  | .slice _ _, y, h => by simp [AV.res] at h; obtain ⟨h1, rfl⟩ := h; exact h1
  | .ro _, y, h => by simp [AV.res] at h; obtain ⟨h1, rfl⟩ := h; exact h1
  | .nilp, y, h => by simp [AV.res, AV.pure] at h; subst h; rfl
  | .clo _ _ _, y, h => by simp [AV.res] at h; obtain ⟨h1, rfl⟩ := h; exact h1
  | .nilf, y, h => by simp [AV.res, AV.pure] at h; subst h; rfl
  | .nilm, y, h => by simp [AV.res, AV.pure] at h; subst h; rfl
  | .niface, y, h => by simp [AV.res, AV.pure] at h; subst h; rfl
  | .iface _ _, y, h => by simp [AV.res] at h; obtain ⟨h1, rfl⟩ := h; exact h1
  | .ref _ _ _, y, h => by simp [AV.res, AV.pure] at h
  | .eref _ _ _ _, y, h => by simp [AV.res, AV.pure] at h
  | .ot _ _ _ _, y, h => by simp [AV.res, AV.pure] at h
theorem resL_pure (ts : TS) : ∀ (l l' : List AV), AV.res.resL ts l = some l' → AV.pure.pureL l' = true
  | [], l', h => by simp [AV.res.resL] at h; subst h; rfl
  | x :: r, l', h => by
    simp only [AV.res.resL] at h
    split at h
    · rename_i y s h1 h2
      cases h
      simp [AV.pure.pureL, res_pure ts x y h1, resL_pure ts r s h2]
    · cases h
end

/-- An owned slice, read in a context in which its array is nobody's. -/
theorem Rep.plain {E : Env} {ts : TS} {G : Ghost} {a : Act} {w : World} (h : Rel E ts G a w) {c' : Ctx} (hw : c'.w = w) (hc : ∀ ad u, ¬ (ctxOf E G ts w).M ad.block → w.cell? ad = some u → ¬ c'.M ad.block) {d g len sz : Nat} {xs : List AV} {v : Value}
    (hv : Rep (ctxOf E G ts w) v (.os d g len)) (hg : g = ts.gen d) (ho : ts.obj d = .arr sz xs) (hl : len ≤ xs.length) (hp : AV.pure.pureL xs = true) (hM : liveR ts G d → ¬ c'.M (G.β d)) : Rep c' v (.slice false (xs.take len)) := by
  obtain ⟨_, hgle, hh⟩ := rep_os hv
  have hh := hh hg (by simp [ctxOf, ho, Ob.kind])
  unfold OsIs at hh
  by_cases hlen : len = 0
  · subst hlen
    simp only [List.take_zero]
    split at hh
    · rw [hh.1]; exact .slice0 false _ _ (by simp)
    · obtain ⟨_, a0, rfl⟩ := hh; exact .slice0 false _ _ (by simp)
  · have hxne : xs ≠ [] := by intro e; simp [e] at hl; omega
    obtain ⟨cap, vs, T, hκ, hheap, hsize, hfit, h0, hsz, hcells⟩ := arr_real h ho hxne
    rw [show (ctxOf E G ts w).κ d = some cap from hκ] at hh
    obtain ⟨hv, hcap⟩ := hh
    have hlive : liveR ts G d := ⟨by simp [ho, Ob.kind], by rw [hκ]; simp⟩
    have hlt : (xs.take len).length = len := by simp; omega
    rw [hv]
    have hmono : ∀ {u : Value} {x : AV}, Rep (ctxOf E G ts w) u x → x.pure = true → Rep c' u x := fun hr hx =>
      Rep.mono_pure (fun ad u hMa hcell => ⟨by rw [hw]; exact hcell, hc ad u hMa hcell⟩) hr hx
    suffices key : Rep c' (.slice (some ⟨G.β d, 0, none⟩) (xs.take len).length cap) (.slice false (xs.take len)) by
      rw [hlt] at key; exact key
    refine Rep.slice false (G.β d) 0 cap sz (xs.take len) (fun i j => if i < len ∧ j < sz then vs.getD (i * sz + j) undef else undef) (by intro e; simp [e] at hlt; omega) h0 (hM hlive) (by rw [hlt]; exact hcap) (by simp) (fun x hx => hsz x (List.mem_of_mem_take hx)) ?_ ?_
    · intro i j hi hj
      rw [hlt] at hi
      have hin : i * sz + j < vs.size := by rw [hsize]; exact row_lt (show i < xs.length by omega) hfit hj
      rw [hw, if_pos ⟨hi, hj⟩, Nat.zero_add]
      exact cell_of hheap hin
    · intro i j
      split
      · rename_i hij
        have hgd : (xs.take len).getD i .any = xs.getD i .any := by simp [List.getElem?_take, hij.1]
        rw [hgd]
        exact hmono (hcells i j (by omega) hij.2) (pureL_getD _ _ (AV.pure_cells (pureL_getD xs i hp)))
      · rename_i hij
        have : ((xs.take len).getD i .any).cells.getD j .any = .any := by
          by_cases hi : i < len
          · have hj : ¬ j < sz := fun hj => hij ⟨hi, hj⟩
            have hi' : i < xs.length := by omega
            have hgd : (xs.take len).getD i .any = xs[i] := by simp [List.getElem?_take, hi, hi']
            rw [hgd]
            have := hsz xs[i] (List.getElem_mem hi')
            simp [List.getElem?_eq_none (show xs[i].cells.length ≤ j by omega)]
          · have hgd : (xs.take len).getD i .any = .any := by simp [List.getElem?_take, hi]
            rw [hgd]
            simp only [AV.cells]
            cases j <;> simp
        rw [this]; exact .any _

/-- What stays of the objects when the call is over: the boxes that came in. -/
def TS.over (ts : TS) (E : Env) : TS := { ts with obj := fun d => if (E.pin d).isSome && ts.gen d == 0 then ts.obj d else .dead }

theorem liveR_over {ts : TS} {G : Ghost} {E : Env} {d : Nat} (h : liveR (ts.over E) G d) : liveR ts G d := by
  unfold liveR TS.over at h
  dsimp only at h
  split at h
  · exact h
  · simp [Ob.kind] at h

theorem le_over (E : Env) (G : Ghost) (ts : TS) (w : World) : (ctxOf E G ts w).Le (ctxOf E G (ts.over E) w) :=
  { cell := fun a u hM hc => ⟨hc, by
      rintro (hF | ⟨e, he, hb⟩)
      · exact hM (.inl hF)
      · exact hM (.inr ⟨e, liveR_over he, hb⟩)⟩
    gen := fun _ => Nat.le_refl _
    kind := fun e k _ hk => by
      simp only [ctxOf, TS.over] at hk ⊢
      split at hk
      · simpa using hk
      · simp [Ob.kind] at hk }

theorem Rel.over {E : Env} {ts : TS} {G : Ghost} {a : Act} {w : World} (h : Rel E ts G a w) : Rel E (ts.over E) G a w := by
  have hle := le_over E G ts w
  refine ⟨h.size, h.defers, fun t => (h.tmp t).mono hle, ?_, fun e e' h1 h2 h3 => h.sep e e' (liveR_over h1) (liveR_over h2) h3, fun e h1 => h.own e (liveR_over h1), h.inF, h.bel, h.pin⟩
  intro e
  show ObOk (ctxOf E G (ts.over E) w) e (if (E.pin e).isSome && ts.gen e == 0 then ts.obj e else .dead)
  split
  · exact ObOk.mono hle rfl rfl (fun _ _ => rfl) (h.obj e)
  · trivial

/-- An array among what came in as boxes: no. So a resolved value stands when the call is over. -/
theorem Rep.res {E : Env} {ts : TS} {G : Ghost} {a : Act} {w : World} (h : Rel E ts G a w) (hbox : ∀ j b, E.pin j = some b → ts.gen j = 0 → ∃ cs, ts.obj j = .box cs) :
    ∀ {v : Value} {x : AV}, Rep (ctxOf E G ts w) v x → ∀ {y : AV}, x.res ts = some y → Rep (ctxOf E G (ts.over E) w) v y := by
  intro v x hx
  have hle := le_over E G ts w
  induction hx with
  | agg cs as hl _ ih =>
    intro y hy
    simp only [AV.res, Option.map_eq_some_iff] at hy
    obtain ⟨l, h1, rfl⟩ := hy
    obtain ⟨e1, e2⟩ := resL_spec ts as l h1
    refine .agg cs l (by omega) fun i => ?_
    by_cases hi : i < as.length
    · exact ih i (e2 i hi)
    · have : l.getD i .any = .any := by simp [List.getElem?_eq_none (show l.length ≤ i by omega)]
      rw [this]; exact .any _
  | tup cs as hl _ ih =>
    intro y hy
    simp only [AV.res, Option.map_eq_some_iff] at hy
    obtain ⟨l, h1, rfl⟩ := hy
    obtain ⟨e1, e2⟩ := resL_spec ts as l h1
    refine .tup cs l (by omega) fun i => ?_
    by_cases hi : i < as.length
    · exact ih i (e2 i hi)
    · have : l.getD i .any = .any := by simp [List.getElem?_eq_none (show l.length ≤ i by omega)]
      rw [this]; exact .any _
  | os d g len v h1 h2 h3 =>
    intro y hy
    simp only [AV.res] at hy
    split at hy
    · rename_i hg
      split at hy
      · rename_i sz xs ho
        split at hy
        · rename_i hc
          cases hy
          refine Rep.plain h rfl (fun ad u hMa hcell => (hle.cell ad u hMa hcell).2) (.os d g len v h1 h2 h3) hg ho hc.1 hc.2 fun hlive => ?_
          rintro (hF | ⟨e, he, hb⟩)
          · exact (h.own d hlive).2.1 hF
          · have hed := h.sep e d (liveR_over he) hlive hb
            subst hed
            unfold liveR TS.over at he
            dsimp only at he
            split at he
            · rename_i hpin
              simp only [Bool.and_eq_true, beq_iff_eq] at hpin
              obtain ⟨b, hb⟩ := Option.isSome_iff_exists.1 hpin.1
              obtain ⟨cs, hcs⟩ := hbox e b hb hpin.2
              rw [ho] at hcs; cases hcs
            · simp [Ob.kind] at he
        · cases hy
      · cases hy
    · cases hy
  | ref d g off v h1 h2 h3 => intro y hy; simp [AV.res, AV.pure] at hy
  | eref d g i o v h1 h2 h3 => intro y hy; simp [AV.res, AV.pure] at hy
  | ot d g i o v h1 h2 h3 => intro y hy; simp [AV.res, AV.pure] at hy
  | any v => intro y hy; simp [AV.res, AV.pure] at hy; subst hy; exact .any v
  | bool b => intro y hy; simp [AV.res, AV.pure] at hy; subst hy; exact .bool b
  | int k n => intro y hy; simp [AV.res, AV.pure] at hy; subst hy; exact .int k n
  | str s l hs => intro y hy; simp [AV.res, AV.pure] at hy; subst hy; exact .str s l hs
  | slice0 clip a cap hh => intro y hy; simp [AV.res] at hy; obtain ⟨_, rfl⟩ := hy; exact .slice0 clip a cap hh
  | slice clip b off cap sz xs f p0 p1 p2 p3 p4 p5 p6 p7 _ =>
    intro y hy; simp [AV.res] at hy; obtain ⟨_, rfl⟩ := hy
    exact (Rep.slice clip b off cap sz xs f p0 p1 p2 p3 p4 p5 p6 p7).mono hle
  | ro b off cs f p0 p1 p2 p3 _ =>
    intro y hy; simp [AV.res] at hy; obtain ⟨_, rfl⟩ := hy
    exact (Rep.ro b off cs f p0 p1 p2 p3).mono hle
  | nilp => intro y hy; simp [AV.res, AV.pure] at hy; subst hy; exact .nilp
  | clo fn f1 c1 f2 c2 p0 p1 p2 p3 _ _ =>
    intro y hy; simp [AV.res] at hy; obtain ⟨_, rfl⟩ := hy
    exact (Rep.clo fn f1 c1 f2 c2 p0 p1 p2 p3).mono hle
  | nilf => intro y hy; simp [AV.res, AV.pure] at hy; subst hy; exact .nilf
  | nilm => intro y hy; simp [AV.res, AV.pure] at hy; subst hy; exact .nilm
  | niface => intro y hy; simp [AV.res, AV.pure] at hy; subst hy; exact .niface
  | iface t v x hx _ =>
    intro y hy; simp [AV.res] at hy; obtain ⟨_, rfl⟩ := hy
    exact (Rep.iface t v x hx).mono hle

end Go.Proofs.Ytjmnokbbodcaaaa.Lg
