/- How a caller uses a contract. -/
import Derived.Test.YtjmnokbbodcaaaaLg12
namespace Go.Proofs.Ytjmnokbbodcaaaa.Lg
set_option linter.unusedVariables false
set_option linter.unusedSimpArgs false
open Go
variable {P : Program}

/-- An argument as the callee gets it: plain data; an array of the caller's own, read only. -/
def TS.toArgs (ts : TS) : List AV → Option (List AV × List Nat)
  | [] => some ([], [])
  | x :: r => match x.res ts, ts.toArgs r with
    | some y, some (ys, ds) => some (y.nrm :: ys, x.owns ++ ds)
    | _, _ => none

/-- What the caller may know of a result where arrays of its own were lent: it reaches no memory. -/
def Ret.flat : Ret → Bool
  | .val x => x.flat
  | .own _ xs => AV.flat.flatL xs

/-- The caller's state behind a call. -/
def afterK (ts : TS) (dst : Option Nat) (r : Ret) (K : TS → Prop) : Prop :=
  match r with
  | .val x => setK ts dst x K
  | .own sz xs => newArrK ts dst sz xs K

/-- Arrays of the caller's own become plain data. -/
def TS.killL (ts : TS) : List Nat → TS
  | [] => ts
  | d :: r => (ts.kill d).killL r
theorem liveR_killL {G : Ghost} {e : Nat} : ∀ {l : List Nat} {ts : TS}, liveR (ts.killL l) G e → e ∉ l ∧ liveR ts G e
  | [], _, h => ⟨by simp, h⟩
  | d :: r, ts, h => by
    obtain ⟨h1, h2⟩ := liveR_killL (l := r) h
    obtain ⟨h3, h4⟩ := liveR_kill h2
    exact ⟨by simp [h1, h3], h4⟩
theorem Rel.killL {E : Env} {G : Ghost} {a : Act} {w : World} : ∀ (l : List Nat) {ts : TS}, Rel E ts G a w → Rel E (ts.killL l) G a w
  | [], _, h => h
  | d :: r, _, h => Rel.killL r (h.kill d)

/-- The callee's environment. -/
def calleeEnv (E : Env) (ts : TS) (G : Ghost) (w : World) (lent : List Nat) : Env :=
  { w0 := w, X := fun _ => False, F := fun b => E.F b ∨ ∃ d, d ∉ lent ∧ liveR ts G d ∧ G.β d = b, pin := fun _ => none }

mutual
theorem Rep.lend {E : Env} {ts : TS} {G : Ghost} {a : Act} {w : World} (h : Rel E ts G a w) {c' : Ctx} (hw : c'.w = w) (hsub : ∀ ad u, ¬ (ctxOf E G ts w).M ad.block → w.cell? ad = some u → ¬ c'.M ad.block) :
    ∀ (x : AV) (v : Value) (y : AV), Rep (ctxOf E G ts w) v x → x.res ts = some y → (∀ d ∈ x.owns, liveR ts G d → ¬ c'.M (G.β d)) → Rep c' v y
  | .os d g len, v, y, hr, hy, ho => by
    simp only [AV.res] at hy
    split at hy
    · rename_i hg
      split at hy
      · rename_i sz xs hob
        split at hy
        · rename_i hcond
          cases hy
          exact Rep.plain h hw hsub hr hg hob hcond.1 hcond.2 (ho d (by simp [AV.owns]))
        · cases hy
      · cases hy
    · cases hy
  | .agg cs, v, y, hr, hy, ho => by
    simp only [AV.res, Option.map_eq_some_iff] at hy
    obtain ⟨l, h1, rfl⟩ := hy
    obtain ⟨vs, rfl, h2, h3⟩ := rep_agg hr
    have hl := (resL_spec ts cs l h1).1
    exact .agg vs l (h2.trans hl) (Rep.lendL h hw hsub cs (fun i => vs.getD i undef) l h3 h1 ho)
  | .tup cs, v, y, hr, hy, ho => by
    simp only [AV.res, Option.map_eq_some_iff] at hy
    obtain ⟨l, h1, rfl⟩ := hy
    obtain ⟨vs, rfl, h2, h3⟩ := rep_tup hr
    have hl := (resL_spec ts cs l h1).1
    exact .tup vs l (h2.trans hl) (Rep.lendL h hw hsub cs (fun i => vs.getD i undef) l h3 h1 ho)
  | .any, v, y, hr, hy, ho => by simp [AV.res, AV.pure] at hy; subst hy; exact .any _
  | .bool b, v, y, hr, hy, ho => by simp [AV.res, AV.pure] at hy; subst hy; exact Rep.mono_pure (fun ad u hM hcell => ⟨by rw [hw]; exact hcell, hsub ad u hM hcell⟩) hr rfl
  | .int k n, v, y, hr, hy, ho => by simp [AV.res, AV.pure] at hy; subst hy; exact Rep.mono_pure (fun ad u hM hcell => ⟨by rw [hw]; exact hcell, hsub ad u hM hcell⟩) hr rfl
  | .str s, v, y, hr, hy, ho => by simp [AV.res, AV.pure] at hy; subst hy; exact Rep.mono_pure (fun ad u hM hcell => ⟨by rw [hw]; exact hcell, hsub ad u hM hcell⟩) hr rfl
  | .nilp, v, y, hr, hy, ho => by simp [AV.res, AV.pure] at hy; subst hy; exact Rep.mono_pure (fun ad u hM hcell => ⟨by rw [hw]; exact hcell, hsub ad u hM hcell⟩) hr rfl
  | .nilf, v, y, hr, hy, ho => by simp [AV.res, AV.pure] at hy; subst hy; exact Rep.mono_pure (fun ad u hM hcell => ⟨by rw [hw]; exact hcell, hsub ad u hM hcell⟩) hr rfl
  | .nilm, v, y, hr, hy, ho => by simp [AV.res, AV.pure] at hy; subst hy; exact Rep.mono_pure (fun ad u hM hcell => ⟨by rw [hw]; exact hcell, hsub ad u hM hcell⟩) hr rfl
  | .niface, v, y, hr, hy, ho => by simp [AV.res, AV.pure] at hy; subst hy; exact Rep.mono_pure (fun ad u hM hcell => ⟨by rw [hw]; exact hcell, hsub ad u hM hcell⟩) hr rfl
  | .slice _ _, v, y, hr, hy, ho => by simp [AV.res] at hy; obtain ⟨h1, rfl⟩ := hy; exact Rep.mono_pure (fun ad u hM hcell => ⟨by rw [hw]; exact hcell, hsub ad u hM hcell⟩) hr h1
  | .ro _, v, y, hr, hy, ho => by simp [AV.res] at hy; obtain ⟨h1, rfl⟩ := hy; exact Rep.mono_pure (fun ad u hM hcell => ⟨by rw [hw]; exact hcell, hsub ad u hM hcell⟩) hr h1
  | .clo _ _ _, v, y, hr, hy, ho => by simp [AV.res] at hy; obtain ⟨h1, rfl⟩ := hy; exact Rep.mono_pure (fun ad u hM hcell => ⟨by rw [hw]; exact hcell, hsub ad u hM hcell⟩) hr h1
  | .iface _ _, v, y, hr, hy, ho => by simp [AV.res] at hy; obtain ⟨h1, rfl⟩ := hy; exact Rep.mono_pure (fun ad u hM hcell => ⟨by rw [hw]; exact hcell, hsub ad u hM hcell⟩) hr h1
  | .ref _ _ _, v, y, hr, hy, ho => by simp [AV.res, AV.pure] at hy
  | .eref _ _ _ _, v, y, hr, hy, ho => by simp [AV.res, AV.pure] at hy
  | .ot _ _ _ _, v, y, hr, hy, ho => by simp [AV.res, AV.pure] at hy
theorem Rep.lendL {E : Env} {ts : TS} {G : Ghost} {a : Act} {w : World} (h : Rel E ts G a w) {c' : Ctx} (hw : c'.w = w) (hsub : ∀ ad u, ¬ (ctxOf E G ts w).M ad.block → w.cell? ad = some u → ¬ c'.M ad.block) :
    ∀ (cs : List AV) (vs : Nat → Value) (l : List AV), (∀ i, Rep (ctxOf E G ts w) (vs i) (cs.getD i .any)) → AV.res.resL ts cs = some l → (∀ d ∈ AV.owns.ownsL cs, liveR ts G d → ¬ c'.M (G.β d)) → ∀ i, Rep c' (vs i) (l.getD i .any)
  | [], vs, l, hr, hl, ho, i => by simp [AV.res.resL] at hl; subst hl; exact .any _
  | x :: r, vs, l, hr, hl, ho, i => by
    simp only [AV.res.resL] at hl
    split at hl
    · rename_i y s h1 h2
      cases hl
      cases i with
      | zero => exact Rep.lend h hw hsub x (vs 0) y (by simpa using hr 0) h1 fun d hd => ho d (by simp [AV.owns.ownsL, hd])
      | succ i =>
        have := Rep.lendL h hw hsub r (fun i => vs (i + 1)) s (fun i => by simpa using hr (i + 1)) h2 (fun d hd => ho d (by simp [AV.owns.ownsL, hd])) i
        simpa using this
    · cases hl
end

theorem toArgs_spec {E : Env} {ts : TS} {G : Ghost} {a : Act} {w : World} (h : Rel E ts G a w) {c' : Ctx} (hw : c'.w = w) (lent : List Nat) (hc : ∀ b, c'.M b ↔ (E.F b ∨ ∃ d, d ∉ lent ∧ liveR ts G d ∧ G.β d = b)) :
    ∀ (vs : List Value) (xs ys : List AV) (ds : List Nat), vs.length = xs.length → (∀ i, Rep (ctxOf E G ts w) (vs.getD i undef) (xs.getD i .any)) → ts.toArgs xs = some (ys, ds) → (∀ d ∈ ds, d ∈ lent) →
      ys.length = xs.length ∧ (∀ i, Rep c' (vs.getD i undef) (ys.getD i .any)) ∧ ∀ y ∈ ys, y.pure = true
  | [], [], ys, ds, _, _, h3, _ => by simp [TS.toArgs] at h3; obtain ⟨rfl, _⟩ := h3; exact ⟨rfl, fun i => by simp; exact .any _, by simp⟩
  | v :: vs, x :: xs, ys, ds, h1, h2, h3, h4 => by
    have hsub : ∀ ad u, ¬ (ctxOf E G ts w).M ad.block → w.cell? ad = some u → ¬ c'.M ad.block := fun ad u hM _ hm => by
      rcases (hc _).1 hm with hF | ⟨d, _, hl, hb⟩
      · exact hM (.inl hF)
      · exact hM (.inr ⟨d, hl, hb⟩)
    simp only [TS.toArgs] at h3
    split at h3
    · rename_i y ys' ds' e1 e2
      cases h3
      obtain ⟨b1, b2, b3⟩ := toArgs_spec h hw lent hc vs xs ys' ds' (by simpa using h1) (fun i => by simpa using h2 (i + 1)) e2 fun e he => h4 e (by simp [he])
      have hx : Rep c' v y := Rep.lend h hw hsub x v y (by simpa using h2 0) e1 fun d hd hlive hm => by
        rcases (hc _).1 hm with hF | ⟨e, hne, hl, hb⟩
        · exact (h.own d hlive).2.1 hF
        · have := h.sep e d hl hlive hb
          subst this
          exact hne (h4 e (by simp [hd]))
      refine ⟨by simp [b1], fun i => ?_, fun z hz => ?_⟩
      · cases i with
        | zero => simpa using hx.nrm
        | succ i => simpa using b2 i
      · rcases List.mem_cons.1 hz with rfl | hz
        · rw [pure_nrm]; exact res_pure ts x y e1
        · exact b3 z hz
    · cases h3
  | [], x :: xs, _, _, h1, _, _, _ => by simp at h1
  | v :: vs, [], _, _, h1, _, _, _ => by simp at h1

theorem SpecO.call {o : Oper} {ts : TS} {K : TS → Prop} {fop : Operand} {xs : Array Operand} {at_ : Array TypeId} (ho : o.op = .call { callee := .value fop, args := xs, argTypes := at_ })
    {f : FuncId} {caps : List AV} (hf : ts.ev fop = .clo (.func f) [] caps) {args : List AV} {lent : List Nat} (hargs : ts.toArgs ((xs.toList.map ts.ev) ++ caps) = some (args, lent))
    {R : Ret → (Nat → List AV) → Prop} (hcall : CallV P f (args.map Arg.v) R) (hk : ∀ r io, R r io → ((lent = [] ∨ r.flat = true) ∧ afterK ts o.dst r K) ∨ afterK (ts.killL lent) o.dst r K) : SpecO P o ts K := by
  intro E G a w next Q hr hn
  have hvf := hr.ev fop
  rw [hf] at hvf
  have hfv : ∃ c1 : Array Value, a.eval fop = .func (.func f) #[] c1 ∧ c1.size = caps.length ∧ ∀ i, Rep (ctxOf E G ts w) (c1.getD i undef) (caps.getD i .any) := by
    generalize a.eval fop = q at hvf
    cases hvf with
    | clo _ f1 c1 _ _ p0 p1 p2 p3 =>
      have : f1 = #[] := Array.eq_empty_of_size_eq_zero (by simpa using p0)
      subst this
      exact ⟨c1, rfl, p1, p3⟩
  obtain ⟨c1, hfe, hc1, hc1r⟩ := hfv
  let vals : Array Value := xs.map a.eval ++ c1
  let E' := calleeEnv E ts G w lent
  let as : List Arg := args.map Arg.v
  have hM : ∀ b, (ctxOf E' G (argTS as as.length) w).M b ↔ (E.F b ∨ ∃ d, d ∉ lent ∧ liveR ts G d ∧ G.β d = b) := fun b => by
    simp only [ctxOf, E', calleeEnv]
    constructor
    · rintro (h1 | ⟨d, hl, _⟩)
      · exact h1
      · have hkind := hl.1
        simp only [argTS, as] at hkind
        split at hkind
        · rename_i cs hcs; simp at hcs
        · rename_i sz xs hcs; simp at hcs
        · simp [Ob.kind] at hkind
    · exact fun h1 => .inl h1
  have hvlen : vals.toList.length = ((xs.toList.map ts.ev) ++ caps).length := by simp [vals, hc1]
  have hvrep : ∀ i, Rep (ctxOf E G ts w) (vals.toList.getD i undef) (((xs.toList.map ts.ev) ++ caps).getD i .any) := fun i => by
    simp only [vals, Array.toList_append, Array.toList_map, List.getD_eq_getElem?_getD]
    by_cases hi : i < xs.size
    · rw [List.getElem?_append_left (by simpa using hi), List.getElem?_append_left (by simpa using hi)]
      simp only [List.getElem?_map, Array.getElem?_toList]
      rw [Array.getElem?_eq_getElem hi]
      exact hr.ev _
    · rw [List.getElem?_append_right (by simp; omega), List.getElem?_append_right (by simp; omega)]
      have := hc1r (i - xs.size)
      simpa using this
  obtain ⟨hlen, hargr, hpure⟩ := toArgs_spec hr (c' := ctxOf E' G (argTS as as.length) w) rfl lent hM vals.toList _ args lent hvlen hvrep hargs (fun d hd => hd)
  have hrel' : Rel E' (argTS as as.length) G ⟨vals, []⟩ w := by
    refine ⟨?_, rfl, fun t => ?_, fun d => ?_, fun d d' h1 _ _ => ?_, fun d h1 => ?_, fun b hb => ?_, Bel.refl _ _, fun j b hj => by simp [E', calleeEnv] at hj⟩
    · simp only [argTS, as, List.length_map]
      rw [hlen, ← hvlen]; simp
    · have := hargr t
      have e1 : vals.getD t undef = vals.toList.getD t undef := by simp
      have e2 : (argTS as as.length).tmp t = args.getD t .any := by
        simp only [argTS, as, List.getElem?_map, List.getD_eq_getElem?_getD]
        cases args[t]? <;> rfl
      rw [e1, e2]; exact this
    · have : (argTS as as.length).obj d = .dead := by
        simp only [argTS, as, List.getElem?_map]
        cases args[d]? <;> rfl
      rw [this]; trivial
    · have : (argTS as as.length).obj d = .dead := by
        simp only [argTS, as, List.getElem?_map]
        cases args[d]? <;> rfl
      simp [liveR, this, Ob.kind] at h1
    · have : (argTS as as.length).obj d = .dead := by
        simp only [argTS, as, List.getElem?_map]
        cases args[d]? <;> rfl
      simp [liveR, this, Ob.kind] at h1
    · rcases hb with h1 | ⟨d, _, hl, rfl⟩
      · exact hr.inF b h1
      · exact (hr.own d hl).2.2
  have hpin : ∀ j, (∃ cs, as[j]? = some (.io cs)) ↔ ∃ b, E'.pin j = some b := fun j => by
    constructor
    · rintro ⟨cs, hcs⟩; simp only [as, List.getElem?_map] at hcs; cases hh : args[j]? <;> rw [hh] at hcs <;> simp at hcs
    · rintro ⟨b, hb⟩; simp [E', calleeEnv] at hb
  have hC := hcall E' G vals w rfl hrel' hpin
  -- what the contract's end gives the caller
  have fin : ∀ (v : Value) (w' : World), Post E' R (.returned v) w' → next (a.put o.dst v) w' := by
    rintro v w' ⟨v', r, io, ts', G', hv', hR, hrel, _, hret⟩
    cases hv'
    obtain ⟨tsx, hrx, hlx, hfl, hK⟩ : ∃ tsx, Rel E tsx G a w ∧ (∀ d, liveR tsx G d → liveR ts G d) ∧ ((∀ d, liveR tsx G d → d ∉ lent) ∨ r.flat = true) ∧ afterK tsx o.dst r K := by
      rcases hk r io hR with ⟨hfl, hK⟩ | hK
      · refine ⟨ts, hr, fun _ h => h, ?_, hK⟩
        rcases hfl with rfl | hfl
        · exact .inl fun d _ => by simp
        · exact .inr hfl
      · exact ⟨ts.killL lent, hr.killL lent, fun d h => (liveR_killL h).2, .inl fun d h => (liveR_killL h).1, hK⟩
    have hbel := hrel.bel
    have hw : ∀ i, i < w.heap.size → w'.heap[i]? = w.heap[i]? := fun i hi => hbel.block i hi (fun f => f)
    have hbel' : Bel (fun _ => False) w w' := ⟨hbel.os, hbel.tape, hbel.output, hbel.size, hbel.block, hbel.drawn⟩
    have hv0 : Rep (ctxOf E' G' ts' w') v (ts'.tmp 0) := by have := hrel.tmp 0; simpa using this
    have hr2 : Rel E tsx G a w' := by
      have hle : (ctxOf E G tsx w).Le (ctxOf E G tsx w') :=
        { cell := fun ad u hMa hc => ⟨(World.cell_of_heap (hw _ (World.cell_lt hc))).trans hc, hMa⟩, gen := fun _ => Nat.le_refl _, kind := fun e k _ hk' => ⟨hk', rfl, rfl⟩ }
      refine ⟨hrx.size, hrx.defers, fun t => (hrx.tmp t).mono hle, fun d => ObOk.mono hle rfl rfl (fun h1 h2 => hw _ (hrx.own d ⟨h1, h2⟩).2.2) (hrx.obj d), hrx.sep, fun d hd => ?_, fun b hb => Nat.lt_of_lt_of_le (hrx.inF b hb) hbel.size, hrx.bel.trans ⟨hbel.os, hbel.tape, hbel.output, hbel.size, fun k hk' _ => hw k hk', hbel.drawn⟩, hrx.pin⟩
      obtain ⟨p, q, s⟩ := hrx.own d hd
      exact ⟨p, q, Nat.lt_of_lt_of_le s hbel.size⟩
    cases r with
    | val x =>
      obtain ⟨hxp, hx0⟩ := hret
      rw [hx0] at hv0
      have hxr : Rep (ctxOf E G tsx w') v x := by
        rcases hfl with hl0 | hfl
        · refine Rep.mono_pure (c := ctxOf E' G' ts' w') ?_ hv0 hxp
          intro ad u hMa hc
          refine ⟨hc, ?_⟩
          rintro (hF | ⟨d, hl, hb⟩)
          · exact hMa (.inl (.inl hF))
          · exact hMa (.inl (.inr ⟨d, hl0 d hl, hlx d hl, hb⟩))
        · exact Rep.mono_flat hv0 hfl
      simp only [afterK, setK] at hK
      cases hd : o.dst with
      | none => rw [hd] at hK; exact hn tsx G _ w' hK hr2
      | some d => rw [hd] at hK; exact hn _ G _ w' hK.2 (hr2.put hK.1 hxr)
    | own sz ys =>
      obtain ⟨d0, g0, ht0, hg0, ho0, hp0⟩ := hret
      simp only [afterK, newArrK] at hK
      cases hd : o.dst with
      | none => rw [hd] at hK; exact hK.elim
      | some d =>
        rw [hd] at hK
        rw [ht0] at hv0
        obtain ⟨_, _, hos⟩ := rep_os hv0
        have hos := hos hg0.symm (by simp [ctxOf, ho0, Ob.kind])
        have hob := hrel.obj d0
        rw [ho0] at hob
        obtain ⟨h0, hsz, hrest⟩ := hob
        -- the array's block is a new one
        unfold OsIs at hos
        cases hκ : (ctxOf E' G' ts' w').κ d0 with
        | none =>
          rw [hκ] at hos hrest
          subst hrest
          obtain ⟨_, ad, rfl⟩ := hos
          refine hn _ _ _ _ hK.2 (hrx.newObj (w' := w') hK.1 (.arr sz []) w.heap.size none (Nat.le_refl _) (fun h => absurd rfl h) hbel' ?_ ?_)
          · refine .os d _ _ _ rfl (by simp [ctxOf, TS.new]) fun _ _ => ?_
            unfold OsIs
            simp [ctxOf, Ghost.set]
          · refine ⟨h0, by simp, ?_⟩
            simp [ctxOf, Ghost.set]
        | some cap =>
          rw [hκ] at hos hrest
          obtain ⟨hv, hcap⟩ := hos
          obtain ⟨vs, T, hheap, hsize, hfit, hcell⟩ := hrest
          have hlive0 : liveR ts' G' d0 := ⟨by simp [ho0, Ob.kind], by rw [show G'.κ d0 = some cap from hκ]; simp⟩
          obtain ⟨hown, hnF, hlt⟩ := hrel.own d0 hlive0
          have hge : w.heap.size ≤ G'.β d0 := by
            rcases hown with h1 | h1
            · exact h1
            · exact h1.elim
          refine hn _ _ _ _ hK.2 (hrx.newObj (w' := w') hK.1 (.arr sz ys) (G'.β d0) (some cap) hge (fun _ => hlt) hbel' ?_ ?_)
          · refine .os d _ _ _ ?_ (by simp [ctxOf, TS.new]) fun _ _ => ?_
            · rw [hv]; rfl
            · unfold OsIs
              simp only [ctxOf, Ghost.set, upd_same]
              exact ⟨hv, hfit⟩
          · refine ⟨h0, hsz, ?_⟩
            simp only [ctxOf, Ghost.set, upd_same]
            refine ⟨vs, T, hheap, hsize, hfit, fun i j hi hj => ?_⟩
            rcases hfl with hl0 | hfl
            · refine Rep.mono_pure (c := ctxOf E' G' ts' w') ?_ (hcell i j hi hj) (pureL_getD _ _ (AV.pure_cells (pureL_getD ys i hp0)))
              intro ad u hMa hc
              refine ⟨hc, ?_⟩
              rintro (hF | ⟨e, hl, hb⟩)
              · exact hMa (.inl (.inl hF))
              · by_cases he : e = d
                · subst he
                  have : G'.β d0 = ad.block := by simpa [Ghost.set] using hb
                  exact hMa (.inr ⟨d0, hlive0, this⟩)
                · have hl' : liveR tsx G e := by simpa [liveR, TS.new, Ghost.set, upd, he] using hl
                  have hb' : G.β e = ad.block := by simpa [Ghost.set, upd, he] using hb
                  exact hMa (.inl (.inr ⟨e, hl0 e hl', hlx e hl', hb'⟩))
            · exact Rep.mono_flat (hcell i j hi hj) (flatL_getD _ _ (AV.flat_cells (flatL_getD ys i hfl)))
  have hexec : (execOp a.eval o).run P w = (callFunc f vals).run P w := by
    simp [execOp, ho, resolve, hfe, Deferred.ofValue, invoke, vals]
  unfold Oper.wp
  rw [hexec]
  split at hC
  · rename_i f' args' w1 heq
    rw [heq]
    show Calls P f' args' w1 _
    refine Calls.mono hC ?_
    rintro e w' ⟨v, r, io, ts', G', rfl, rest⟩
    exact fin v w' ⟨v, r, io, ts', G', rfl, rest⟩
  · rename_i v w1 heq
    rw [heq]
    exact fin v w1 hC
  · exact hC.elim

/-! ### An object of the caller's own goes to the callee -/
/-- What the callee may have done to the world, but for one block. -/
structure But (d : Nat) (ts : TS) (G : Ghost) (w w' : World) : Prop where
  os : w'.os = w.os
  tape : w'.tape = w.tape
  output : w'.output = w.output
  size : w.heap.size ≤ w'.heap.size
  drawn : w.drawn ≤ w'.drawn
  block : ∀ i, i < w.heap.size → (liveR ts G d → i ≠ G.β d) → w'.heap[i]? = w.heap[i]?

theorem But.bel {E : Env} {ts : TS} {G : Ghost} {a : Act} {w w' : World} {d : Nat} (h : Rel E ts G a w) (hb : But d ts G w w') : Bel E.X E.w0 w' :=
  ⟨hb.os.trans h.bel.os, hb.tape.trans h.bel.tape, hb.output.trans h.bel.output, Nat.le_trans h.bel.size hb.size, fun k hk hx =>
    (hb.block k (Nat.lt_of_lt_of_le hk h.bel.size) fun hl e => by
      rcases (h.own d hl).1 with h1 | h1
      · omega
      · exact hx (e ▸ h1)).trans (h.bel.block k hk hx), Nat.le_trans h.bel.drawn hb.drawn⟩

/-- The object is another one behind it, in its own block or a new one; or there is none. -/
theorem Rel.moved {E : Env} {ts : TS} {G : Ghost} {a : Act} {w w' : World} (h : Rel E ts G a w) {d d' : Nat} (hd' : d' < ts.n) (hbut : But d ts G w w') (o : Ob) (b : Nat) (k : Option Nat)
    (hb : k ≠ none → (w.heap.size ≤ b ∨ (liveR ts G d ∧ b = G.β d)) ∧ b < w'.heap.size) {v : Value} {x : AV}
    (hr : Rep (ctxOf E (G.set d' b k) ((ts.kill d).new d' o) w') v x) (ho : ObOk (ctxOf E (G.set d' b k) ((ts.kill d).new d' o) w') d' o) :
    Rel E (((ts.kill d).new d' o).put d' x) (G.set d' b k) (a.put (some d') v) w' := by
  have live : ∀ e, e ≠ d' → liveR ((ts.kill d).new d' o) (G.set d' b k) e → e ≠ d ∧ liveR ts G e := fun e he hl => by
    have : liveR (ts.kill d) G e := by simpa [liveR, Ghost.set, TS.new, upd, he] using hl
    exact liveR_kill this
  have hβ : ∀ e, e ≠ d' → (G.set d' b k).β e = G.β e := fun e he => by simp [Ghost.set, upd, he]
  have hβd : (G.set d' b k).β d' = b := by simp [Ghost.set]
  have hkl : liveR ((ts.kill d).new d' o) (G.set d' b k) d' → k ≠ none := fun hl => by have := hl.2; simpa [Ghost.set] using this
  have hle : (ctxOf E G ts w).Le (ctxOf E (G.set d' b k) ((ts.kill d).new d' o) w') :=
    { cell := fun ad u hM hc => by
        have hlt := World.cell_lt hc
        refine ⟨(World.cell_of_heap (hbut.block _ hlt fun hl e => hM (.inr ⟨d, hl, e.symm⟩))).trans hc, ?_⟩
        rintro (hF | ⟨e, he, hbe⟩)
        · exact hM (.inl hF)
        · by_cases hed : e = d'
          · subst hed
            have h1 : b = ad.block := by simpa [ctxOf, Ghost.set] using hbe
            rcases (hb (hkl he)).1 with h2 | ⟨h2, h3⟩
            · have : ad.block < w.heap.size := hlt
              omega
            · exact hM (.inr ⟨d, h2, by rw [← h3]; exact h1⟩)
          · exact hM (.inr ⟨e, (live e hed he).2, by simpa [ctxOf, hβ e hed] using hbe⟩)
      gen := fun e => by by_cases h : e = d' <;> simp [ctxOf, TS.new, TS.kill, TS.setObj, upd, h]
      kind := fun e k' hg hk => by
        by_cases h : e = d'
        · subst h; simp [ctxOf, TS.new, TS.kill, TS.setObj] at hg
        · by_cases h2 : e = d
          · subst h2; simp [ctxOf, TS.new, TS.kill, TS.setObj, upd, h, Ob.kind] at hk
          · simp only [ctxOf, TS.new, TS.kill, TS.setObj, Ghost.set, upd, h, h2, if_false] at hk ⊢
            exact ⟨hk, trivial, trivial⟩ }
  constructor
  · simp [Act.put, h.size, TS.put, TS.new, TS.kill, TS.setObj]
  · exact h.defers
  · intro t
    rw [getD_put a d' t v (by rw [h.size]; exact hd')]
    show Rep (ctxOf E (G.set d' b k) ((ts.kill d).new d' o) w') _ (upd ts.tmp d' x t)
    by_cases e : t = d'
    · subst e; simpa using hr
    · rw [if_neg e, upd_ne _ _ e]; exact (h.tmp t).mono hle
  · intro e
    show ObOk (ctxOf E (G.set d' b k) ((ts.kill d).new d' o) w') e ((upd (upd ts.obj d .dead) d' o) e)
    by_cases he : e = d'
    · subst he; simpa using ho
    · rw [upd_ne _ _ he]
      by_cases h2 : e = d
      · subst h2; simp [ObOk]
      · rw [upd_ne _ _ h2]
        refine ObOk.mono hle (by simp [ctxOf, Ghost.set, upd, he]) (by simp [ctxOf, Ghost.set, upd, he]) ?_ (h.obj e)
        intro hkind hk
        exact hbut.block _ (h.own e ⟨hkind, hk⟩).2.2 fun hl hbe => h2 (h.sep e d ⟨hkind, hk⟩ hl hbe)
  · intro e e' h1 h2 h3
    have aux : ∀ e, e ≠ d' → liveR ((ts.kill d).new d' o) (G.set d' b k) e → liveR ((ts.kill d).new d' o) (G.set d' b k) d' → G.β e ≠ b := fun e he hl hl' hbe => by
      obtain ⟨q1, q2⟩ := live e he hl
      rcases (hb (hkl hl')).1 with q3 | ⟨q3, q4⟩
      · have := (h.own e q2).2.2; omega
      · exact q1 (h.sep e d q2 q3 (by rw [hbe, q4]))
    by_cases he : e = d' <;> by_cases he' : e' = d'
    · rw [he, he']
    · subst he
      rw [hβd, hβ e' he'] at h3
      exact absurd h3.symm (aux e' he' h2 h1)
    · subst he'
      rw [hβd, hβ e he] at h3
      exact absurd h3 (aux e he h1 h2)
    · rw [hβ e he, hβ e' he'] at h3
      exact h.sep e e' (live e he h1).2 (live e' he' h2).2 h3
  · intro e h1
    by_cases he : e = d'
    · subst he
      rw [hβd]
      obtain ⟨q1, q2⟩ := hb (hkl h1)
      rcases q1 with q1 | ⟨q1, q3⟩
      · have := h.bel.size
        exact ⟨.inl (by omega), fun hF => by have := h.inF b hF; omega, q2⟩
      · obtain ⟨p, q, r⟩ := h.own d q1
        rw [q3]
        exact ⟨p, q, by rw [← q3]; exact q2⟩
    · rw [hβ e he]
      obtain ⟨p, q, r⟩ := h.own e (live e he h1).2
      exact ⟨p, q, Nat.lt_of_lt_of_le r hbut.size⟩
  · exact fun b hb => Nat.lt_of_lt_of_le (h.inF b hb) hbut.size
  · exact But.bel h hbut
  · intro j b' hj hg
    by_cases he : j = d'
    · subst he; simp [TS.put, TS.new] at hg
    · rw [hβ j he]; exact h.pin j b' hj (by simpa [TS.put, TS.new, TS.kill, TS.setObj, upd, he] using hg)

/-- The object is gone. -/
theorem Rel.gone {E : Env} {ts : TS} {G : Ghost} {a : Act} {w w' : World} (h : Rel E ts G a w) {d : Nat} (hbut : But d ts G w w') : Rel E (ts.kill d) G a w' := by
  have hle : (ctxOf E G ts w).Le (ctxOf E G (ts.kill d) w') :=
    { cell := fun ad u hM hc => by
        have hlt := World.cell_lt hc
        refine ⟨(World.cell_of_heap (hbut.block _ hlt fun hl e => hM (.inr ⟨d, hl, e.symm⟩))).trans hc, ?_⟩
        rintro (hF | ⟨e, he, hbe⟩)
        · exact hM (.inl hF)
        · exact hM (.inr ⟨e, (liveR_kill he).2, hbe⟩)
      gen := fun _ => Nat.le_refl _
      kind := fun e k' hg hk => by
        by_cases h2 : e = d
        · subst h2; simp [ctxOf, TS.kill, TS.setObj, Ob.kind] at hk
        · simp only [ctxOf, TS.kill, TS.setObj, upd, h2, if_false] at hk; exact ⟨hk, rfl, rfl⟩ }
  refine ⟨h.size, h.defers, fun t => (h.tmp t).mono hle, fun e => ?_, fun e e' h1 h2 h3 => h.sep e e' (liveR_kill h1).2 (liveR_kill h2).2 h3, fun e h1 => ?_, fun b hb => Nat.lt_of_lt_of_le (h.inF b hb) hbut.size, But.bel h hbut, h.pin⟩
  · show ObOk _ e ((upd ts.obj d .dead) e)
    by_cases he : e = d
    · subst he; simp [ObOk]
    · rw [upd_ne _ _ he]
      exact ObOk.mono hle rfl rfl (fun hkind hk => hbut.block _ (h.own e ⟨hkind, hk⟩).2.2 fun hl hbe => he (h.sep e d ⟨hkind, hk⟩ hl hbe)) (h.obj e)
  · obtain ⟨p, q, r⟩ := h.own e (liveR_kill h1).2
    exact ⟨p, q, Nat.lt_of_lt_of_le r hbut.size⟩

/-- The object's content is another one. -/
theorem Rel.turned {E : Env} {ts : TS} {G : Ghost} {a : Act} {w w' : World} (h : Rel E ts G a w) {d : Nat} (hbut : But d ts G w w') (o : Ob) (hk : o.kind = (ts.obj d).kind) (ho : ObOk (ctxOf E G (ts.setObj d o) w') d o) : Rel E (ts.setObj d o) G a w' := by
  have hle : (ctxOf E G ts w).Le (ctxOf E G (ts.setObj d o) w') :=
    { cell := fun ad u hM hc => by
        have hlt := World.cell_lt hc
        refine ⟨(World.cell_of_heap (hbut.block _ hlt fun hl e => hM (.inr ⟨d, hl, e.symm⟩))).trans hc, ?_⟩
        rintro (hF | ⟨e, he, hbe⟩)
        · exact hM (.inl hF)
        · exact hM (.inr ⟨e, (liveR_setObj hk e).1 he, hbe⟩)
      gen := fun _ => Nat.le_refl _
      kind := fun e k' _ hk' => by
        by_cases he : e = d
        · subst he; simp only [ctxOf, TS.setObj, upd_same, hk] at hk'; exact ⟨hk', rfl, rfl⟩
        · simp only [ctxOf, TS.setObj, upd, he, if_false] at hk'; exact ⟨hk', rfl, rfl⟩ }
  refine ⟨h.size, h.defers, fun t => (h.tmp t).mono hle, fun e => ?_, fun e e' h1 h2 h3 => h.sep e e' ((liveR_setObj hk e).1 h1) ((liveR_setObj hk e').1 h2) h3, fun e h1 => ?_, fun b hb => Nat.lt_of_lt_of_le (h.inF b hb) hbut.size, But.bel h hbut, h.pin⟩
  · show ObOk _ e ((upd ts.obj d o) e)
    by_cases he : e = d
    · subst he; simpa using ho
    · rw [upd_ne _ _ he]
      exact ObOk.mono hle rfl rfl (fun hkind hk => hbut.block _ (h.own e ⟨hkind, hk⟩).2.2 fun hl hbe => he (h.sep e d ⟨hkind, hk⟩ hl hbe)) (h.obj e)
  · obtain ⟨p, q, r⟩ := h.own e ((liveR_setObj hk e).1 h1)
    exact ⟨p, q, Nat.lt_of_lt_of_le r hbut.size⟩

/-- The callee's environment where it gets an object of the caller's. -/
def calleeEnv1 (E : Env) (ts : TS) (G : Ghost) (w : World) (d : Nat) (io : Bool) : Env :=
  { w0 := w, X := fun b => liveR ts G d ∧ b = G.β d, F := fun b => E.F b ∨ ∃ e, e ≠ d ∧ liveR ts G e ∧ G.β e = b, pin := fun j => if j = 0 ∧ io = true then some (G.β d) else none }

/-- The first argument an object of the caller's own: what the callee finds. -/
theorem call1_rel {E : Env} {ts : TS} {G : Ghost} {a : Act} {w : World} (hr : Rel E ts G a w) {d : Nat} {ob ob' : Ob} {x0 : AV} {arg : Arg} {io : Bool} (hob : ts.obj d = ob) (hkind : ob.kind ≠ none) (hkind' : ob'.kind = ob.kind)
    {v0 : Value} {vs : List Value} {rest as : List AV} (hvs : vs.length = rest.length) (hrep : ∀ i, Rep (ctxOf E G ts w) (vs.getD i undef) (rest.getD i .any)) (hargs : ts.toArgs rest = some (as, []))
    (harg : ∀ n, (argTS (arg :: as.map Arg.v) n).tmp 0 = x0 ∧ (argTS (arg :: as.map Arg.v) n).obj 0 = ob')
    (hv0 : Rep (ctxOf (calleeEnv1 E ts G w d io) (G.set 0 (G.β d) (G.κ d)) (argTS (arg :: as.map Arg.v) (as.length + 1)) w) v0 x0)
    (hob' : ∀ c' : Ctx, c'.w = w → c'.κ 0 = G.κ d → c'.β 0 = G.β d → (∀ b, c'.M b → (ctxOf E G ts w).M b) → ObOk c' 0 ob') (hio : io = true → G.κ d ≠ none) :
    Rel (calleeEnv1 E ts G w d io) (argTS (arg :: as.map Arg.v) (arg :: as.map Arg.v).length) (G.set 0 (G.β d) (G.κ d)) ⟨(v0 :: vs).toArray, []⟩ w := by
  have hlenA : (arg :: as.map Arg.v).length = as.length + 1 := by simp
  rw [hlenA]
  have hG0 : (G.set 0 (G.β d) (G.κ d)).β 0 = G.β d ∧ (G.set 0 (G.β d) (G.κ d)).κ 0 = G.κ d := by simp [Ghost.set]
  have hdead : ∀ e, e ≠ 0 → (argTS (arg :: as.map Arg.v) (as.length + 1)).obj e = .dead := fun e he => by
    obtain ⟨q, rfl⟩ : ∃ q, e = q + 1 := ⟨e - 1, by omega⟩
    simp only [argTS, List.getElem?_cons_succ, List.getElem?_map]
    cases as[q]? <;> rfl
  have hlive : ∀ e, liveR (argTS (arg :: as.map Arg.v) (as.length + 1)) (G.set 0 (G.β d) (G.κ d)) e ↔ e = 0 ∧ liveR ts G d := fun e => by
    unfold liveR
    by_cases he : e = 0
    · subst he
      rw [(harg _).2, hG0.2, hkind', hob]
      simp
    · rw [hdead e he]; simp [Ob.kind, he]
  have hM : ∀ b, (ctxOf (calleeEnv1 E ts G w d io) (G.set 0 (G.β d) (G.κ d)) (argTS (arg :: as.map Arg.v) (as.length + 1)) w).M b ↔ (E.F b ∨ ∃ e, e ∉ ([] : List Nat) ∧ liveR ts G e ∧ G.β e = b) := fun b => by
    simp only [ctxOf, calleeEnv1, List.not_mem_nil, not_false_eq_true, true_and]
    constructor
    · rintro ((h1 | ⟨e, _, hl, hb⟩) | ⟨e, hl, hb⟩)
      · exact .inl h1
      · exact .inr ⟨e, hl, hb⟩
      · obtain ⟨rfl, hl'⟩ := (hlive e).1 hl
        exact .inr ⟨d, hl', by rw [← hG0.1]; exact hb⟩
    · rintro (h1 | ⟨e, hl, hb⟩)
      · exact .inl (.inl h1)
      · by_cases hed : e = d
        · subst hed; exact .inr ⟨0, (hlive 0).2 ⟨rfl, hl⟩, by rw [hG0.1]; exact hb⟩
        · exact .inl (.inr ⟨e, hed, hl, hb⟩)
  obtain ⟨hlen, hargr, hpure⟩ := toArgs_spec hr (c' := ctxOf (calleeEnv1 E ts G w d io) (G.set 0 (G.β d) (G.κ d)) (argTS (arg :: as.map Arg.v) (as.length + 1)) w) rfl [] hM vs rest as [] hvs hrep hargs (fun _ h => h)
  refine ⟨by simp [argTS, hvs, hlen], rfl, fun t => ?_, fun e => ?_, fun e e' h1 h2 _ => ?_, fun e h1 => ?_, fun b hb => ?_, Bel.refl _ _, fun j b hj hg => ?_⟩
  · cases t with
    | zero => rw [(harg _).1]; simpa using hv0
    | succ t =>
      have e2 : (argTS (arg :: as.map Arg.v) (as.length + 1)).tmp (t + 1) = as.getD t .any := by
        simp only [argTS, List.getElem?_cons_succ, List.getElem?_map, List.getD_eq_getElem?_getD]
        cases as[t]? <;> rfl
      rw [e2]
      simpa using hargr t
  · by_cases he : e = 0
    · subst he
      rw [(harg _).2]
      refine hob' _ rfl hG0.2 hG0.1 fun b hb => ?_
      rcases (hM b).1 hb with h1 | ⟨e, _, hl, hb⟩
      · exact .inl h1
      · exact .inr ⟨e, hl, hb⟩
    · rw [hdead e he]; trivial
  · rw [((hlive e).1 h1).1, ((hlive e').1 h2).1]
  · obtain ⟨rfl, hl⟩ := (hlive e).1 h1
    rw [hG0.1]
    refine ⟨.inr ⟨hl, rfl⟩, ?_, (hr.own d hl).2.2⟩
    rintro (h2 | ⟨e, hne, hle, hb⟩)
    · exact (hr.own d hl).2.1 h2
    · exact hne (hr.sep e d hle hl hb)
  · rcases hb with h1 | ⟨e, _, hl, rfl⟩
    · exact hr.inF b h1
    · exact (hr.own e hl).2.2
  · simp only [calleeEnv1] at hj
    split at hj
    · rename_i hc; cases hj; rw [hc.1, hG0.1]
    · cases hj

theorem take_rep {c : Ctx} {d sz : Nat} {xs : List AV} (h : ObOk c d (.arr sz xs)) (n : Nat) : ObOk c d (.arr sz (xs.take n)) := by
  obtain ⟨h0, h1, h2⟩ := h
  refine ⟨h0, fun x hx => h1 x (List.mem_of_mem_take hx), ?_⟩
  cases hκ : c.κ d with
  | none => rw [hκ] at h2; simp [h2]
  | some cap =>
    rw [hκ] at h2
    obtain ⟨vs, T, g1, g2, g3, g4⟩ := h2
    refine ⟨vs, T, g1, g2, by simp; omega, fun i j hi hj => ?_⟩
    have hi' : i < xs.length ∧ i < n := by simp at hi; omega
    have e : (xs.take n).getD i .any = xs.getD i .any := by simp [List.getElem?_take, hi'.2]
    rw [e]; exact g4 i j hi'.1 hj

/-- An object of plain data is the same in every reading that forbids no more. -/
theorem ObOk.plain {c c' : Ctx} {d d' : Nat} {o : Ob} (hp : (match o with | .box cs => AV.pure.pureL cs | .arr _ xs => AV.pure.pureL xs | .dead => true) = true) (hw : c'.w = c.w) (hM : ∀ b, c'.M b → c.M b) (hκ : c'.κ d' = c.κ d) (hβ : c'.β d' = c.β d) (h : ObOk c d o) : ObOk c' d' o := by
  have hmono : ∀ {v x}, Rep c v x → x.pure = true → Rep c' v x := fun hr hx => Rep.mono_pure (fun ad u hm hc => ⟨by rw [hw]; exact hc, fun h => hm (hM _ h)⟩) hr hx
  cases o with
  | dead => trivial
  | box cs =>
    obtain ⟨h0, vs, T, h1, h2, h3⟩ := h
    exact ⟨by rw [hκ]; exact h0, vs, T, by rw [hw, hβ]; exact h1, h2, fun i => hmono (h3 i) (pureL_getD cs i hp)⟩
  | arr sz xs =>
    obtain ⟨h0, h1, h2⟩ := h
    refine ⟨h0, h1, ?_⟩
    rw [hκ]
    cases hc : c.κ d with
    | none => rw [hc] at h2; exact h2
    | some cap =>
      rw [hc] at h2
      obtain ⟨vs, T, h3, h4, h5, h6⟩ := h2
      exact ⟨vs, T, by rw [hw, hβ]; exact h3, h4, h5, fun i j hi hj => hmono (h6 i j hi hj) (pureL_getD _ _ (AV.pure_cells (pureL_getD xs i hp)))⟩

/-- A CALL THAT TAKES AN ARRAY OVER. -/
theorem SpecO.callM {o : Oper} {ts : TS} {K : TS → Prop} {fop : Operand} {xs : Array Operand} {at_ : Array TypeId} (ho : o.op = .call { callee := .value fop, args := xs, argTypes := at_ })
    {f : FuncId} {caps : List AV} (hf : ts.ev fop = .clo (.func f) [] caps) {d g len sz : Nat} {zs rest as : List AV} (hvs : (xs.toList.map ts.ev) ++ caps = .os d g len :: rest) (hg : g = ts.gen d) (hob : ts.obj d = .arr sz zs) (hlen : len ≤ zs.length)
    (hpure : AV.pure.pureL zs = true) (hargs : ts.toArgs rest = some (as, [])) {r : Ret} (hcall : CallV P f (.own sz (zs.take len) :: as.map Arg.v) fun r' _ => r' = r) (hk : afterK (ts.kill d) o.dst r K) : SpecO P o ts K := by
  intro E G a w next Q hr hn
  have hvf := hr.ev fop
  rw [hf] at hvf
  have hfv : ∃ c1 : Array Value, a.eval fop = .func (.func f) #[] c1 ∧ c1.size = caps.length ∧ ∀ i, Rep (ctxOf E G ts w) (c1.getD i undef) (caps.getD i .any) := by
    generalize a.eval fop = q at hvf
    cases hvf with
    | clo _ f1 c1 _ _ p0 p1 p2 p3 =>
      have : f1 = #[] := Array.eq_empty_of_size_eq_zero (by simpa using p0)
      subst this
      exact ⟨c1, rfl, p1, p3⟩
  obtain ⟨c1, hfe, hc1, hc1r⟩ := hfv
  let vals : Array Value := xs.map a.eval ++ c1
  have hvlen : vals.toList.length = (AV.os d g len :: rest).length := by rw [← hvs]; simp [vals, hc1]
  have hvrep : ∀ i, Rep (ctxOf E G ts w) (vals.toList.getD i undef) ((AV.os d g len :: rest).getD i .any) := fun i => by
    rw [← hvs]
    simp only [vals, Array.toList_append, Array.toList_map, List.getD_eq_getElem?_getD]
    by_cases hi : i < xs.size
    · rw [List.getElem?_append_left (by simpa using hi), List.getElem?_append_left (by simpa using hi)]
      simp only [List.getElem?_map, Array.getElem?_toList]
      rw [Array.getElem?_eq_getElem hi]
      exact hr.ev _
    · rw [List.getElem?_append_right (by simp; omega), List.getElem?_append_right (by simp; omega)]
      have := hc1r (i - xs.size)
      simpa using this
  obtain ⟨v0, vs, hv0⟩ : ∃ v0 vs, vals.toList = v0 :: vs := by
    cases hv : vals.toList with
    | nil => rw [hv] at hvlen; simp at hvlen
    | cons v0 vs => exact ⟨v0, vs, rfl⟩
  rw [hv0] at hvlen hvrep
  have hvals : vals = (v0 :: vs).toArray := by rw [← hv0]
  have h00 : Rep (ctxOf E G ts w) v0 (.os d g len) := by simpa using hvrep 0
  obtain ⟨h1c, hgl, hos⟩ := rep_os h00
  have hos := hos hg (by simp [ctxOf, hob, Ob.kind])
  have hobk := hr.obj d
  rw [hob] at hobk
  have htl : (zs.take len).length = len := by simp; omega
  have hpt : AV.pure.pureL (zs.take len) = true := pureL_take zs len hpure
  have hrel' := call1_rel (io := false) (arg := .own sz (zs.take len)) (ob' := .arr sz (zs.take len)) (x0 := .os 0 0 len) (v0 := v0) hr hob (by simp [Ob.kind]) rfl (vs := vs) (rest := rest) (as := as) (by simpa using hvlen) (fun i => by simpa using hvrep (i + 1)) hargs
    (fun n => ⟨by simp [argTS, htl], by simp [argTS]⟩) (.os 0 0 len v0 h1c (Nat.zero_le _) fun _ _ => by
      unfold OsIs at hos ⊢
      simpa [ctxOf, Ghost.set] using hos)
    (fun c' hw hκ hβ hM => ObOk.plain (c := ctxOf E G ts w) (d := d) hpt hw hM hκ hβ (take_rep hobk len)) (by simp)
  have hC := hcall (calleeEnv1 E ts G w d false) (G.set 0 (G.β d) (G.κ d)) (v0 :: vs).toArray w rfl hrel' fun j => by
    constructor
    · rintro ⟨cs, hcs⟩
      cases j with
      | zero => simp at hcs
      | succ j => simp only [List.getElem?_cons_succ, List.getElem?_map] at hcs; cases hh : as[j]? <;> rw [hh] at hcs <;> simp at hcs
    · rintro ⟨b, hb⟩; simp [calleeEnv1] at hb
  have fin : ∀ (v : Value) (w' : World), Post (calleeEnv1 E ts G w d false) (fun r' _ => r' = r) (.returned v) w' → next (a.put o.dst v) w' := by
    rintro v w' ⟨v', r', io, ts', G', hv', hR, hrel, _, hret⟩
    cases hv'
    subst hR
    have hbel := hrel.bel
    have hbut : But d ts G w w' := ⟨hbel.os, hbel.tape, hbel.output, hbel.size, hbel.drawn, fun i hi hne => hbel.block i hi fun hx => hne hx.1 hx.2⟩
    have hv0' : Rep (ctxOf (calleeEnv1 E ts G w d false) G' ts' w') v (ts'.tmp 0) := by have := hrel.tmp 0; simpa using this
    cases r' with
    | val x =>
      obtain ⟨hxp, hx0⟩ := hret
      rw [hx0] at hv0'
      have hr2 := Rel.gone (d := d) hr hbut
      have hxr : Rep (ctxOf E G (ts.kill d) w') v x := by
        refine Rep.mono_pure (c := ctxOf (calleeEnv1 E ts G w d false) G' ts' w') (c' := ctxOf E G (ts.kill d) w') ?_ hv0' hxp
        intro ad u hMa hc
        refine ⟨hc, ?_⟩
        rintro (hF | ⟨e, hl, hb⟩)
        · exact hMa (.inl (.inl hF))
        · exact hMa (.inl (.inr ⟨e, (liveR_kill hl).1, (liveR_kill hl).2, hb⟩))
      simp only [afterK, setK] at hk
      cases hd : o.dst with
      | none => rw [hd] at hk; exact hn _ G _ w' hk hr2
      | some d' => rw [hd] at hk; exact hn _ G _ w' hk.2 (hr2.put hk.1 hxr)
    | own sz' ys =>
      obtain ⟨d0, g0, ht0, hg0, ho0, hp0⟩ := hret
      simp only [afterK, newArrK] at hk
      cases hd : o.dst with
      | none => rw [hd] at hk; exact hk.elim
      | some d' =>
        rw [hd] at hk
        rw [ht0] at hv0'
        obtain ⟨_, _, hos'⟩ := rep_os hv0'
        have hos' := hos' hg0.symm (by simp [ctxOf, ho0, Ob.kind])
        have hob' := hrel.obj d0
        rw [ho0] at hob'
        unfold OsIs at hos'
        have hgen : (ts.kill d).gen = ts.gen := rfl
        have hn' : d' < ts.n := hk.1
        cases hκ : (ctxOf (calleeEnv1 E ts G w d false) G' ts' w').κ d0 with
        | none =>
          rw [hκ] at hos'
          obtain ⟨h0, hsz, hrest⟩ := hob'
          rw [hκ] at hrest
          subst hrest
          obtain ⟨_, ad, rfl⟩ := hos'
          refine hn _ _ _ _ hk.2 (hr.moved (w' := w') hn' hbut (.arr sz' []) w.heap.size none (fun h => absurd rfl h) ?_ ?_)
          · refine .os d' _ _ _ rfl (by simp [ctxOf, TS.new]) fun _ _ => ?_
            unfold OsIs
            simp [ctxOf, Ghost.set]
          · refine ⟨h0, by simp, ?_⟩
            simp [ctxOf, Ghost.set]
        | some cap =>
          rw [hκ] at hos'
          obtain ⟨hv, hcap⟩ := hos'
          have hκ' : G'.κ d0 = some cap := hκ
          have hlive0 : liveR ts' G' d0 := ⟨by simp [ho0, Ob.kind], by rw [hκ']; simp⟩
          obtain ⟨hown, hnF, hlt⟩ := hrel.own d0 hlive0
          refine hn _ _ _ _ hk.2 (hr.moved (w' := w') hn' hbut (.arr sz' ys) (G'.β d0) (some cap) (fun _ => ⟨hown, hlt⟩) ?_ ?_)
          · refine .os d' _ _ _ ?_ (by simp [ctxOf, TS.new]) fun _ _ => ?_
            · rw [hv]; rfl
            · unfold OsIs
              simp only [ctxOf, Ghost.set, upd_same]
              exact ⟨hv, hcap⟩
          · refine ObOk.plain (c := ctxOf (calleeEnv1 E ts G w d false) G' ts' w') (d := d0) hp0 rfl (fun b hb => ?_) (by simp [ctxOf, Ghost.set, hκ']) (by simp [ctxOf, Ghost.set]) hob'
            rcases hb with hF | ⟨e, hl, hb⟩
            · exact .inl (.inl hF)
            · by_cases he : e = d'
              · subst he
                have : G'.β d0 = b := by simpa [Ghost.set, ctxOf] using hb
                exact .inr ⟨d0, hlive0, this⟩
              · have hl' : liveR (ts.kill d) G e := by simpa [liveR, TS.new, Ghost.set, upd, he] using hl
                have hb' : G.β e = b := by simpa [Ghost.set, upd, he] using hb
                exact .inl (.inr ⟨e, (liveR_kill hl').1, (liveR_kill hl').2, hb'⟩)
  have hexec : (execOp a.eval o).run P w = (callFunc f (v0 :: vs).toArray).run P w := by
    rw [← hvals]
    simp [execOp, ho, resolve, hfe, Deferred.ofValue, invoke, vals]
  unfold Oper.wp
  rw [hexec]
  split at hC
  · rename_i f' args' w1 heq
    rw [heq]
    show Calls P f' args' w1 _
    refine Calls.mono hC ?_
    rintro e w' ⟨v, r, io, ts', G', rfl, rest⟩
    exact fin v w' ⟨v, r, io, ts', G', rfl, rest⟩
  · rename_i v w1 heq
    rw [heq]
    exact fin v w1 hC
  · exact hC.elim

/-- A CALL THAT GETS A POINTER TO A BOX of the caller's own, and may write there. -/
theorem SpecO.callI {o : Oper} {ts : TS} {K : TS → Prop} {fop : Operand} {xs : Array Operand} {at_ : Array TypeId} (ho : o.op = .call { callee := .value fop, args := xs, argTypes := at_ })
    {f : FuncId} {caps : List AV} (hf : ts.ev fop = .clo (.func f) [] caps) {d g : Nat} {cs cs' rest as : List AV} (hvs : (xs.toList.map ts.ev) ++ caps = .ref d g 0 :: rest) (hg : g = ts.gen d) (hob : ts.obj d = .box cs)
    (hpure : AV.pure.pureL cs = true) (hargs : ts.toArgs rest = some (as, [])) {x : AV} (hcall : CallV P f (.io cs :: as.map Arg.v) fun r' io => r' = .val x ∧ io 0 = cs') (hk : setK (ts.setObj d (.box cs')) o.dst x K) : SpecO P o ts K := by
  intro E G a w next Q hr hn
  have hvf := hr.ev fop
  rw [hf] at hvf
  have hfv : ∃ c1 : Array Value, a.eval fop = .func (.func f) #[] c1 ∧ c1.size = caps.length ∧ ∀ i, Rep (ctxOf E G ts w) (c1.getD i undef) (caps.getD i .any) := by
    generalize a.eval fop = q at hvf
    cases hvf with
    | clo _ f1 c1 _ _ p0 p1 p2 p3 =>
      have : f1 = #[] := Array.eq_empty_of_size_eq_zero (by simpa using p0)
      subst this
      exact ⟨c1, rfl, p1, p3⟩
  obtain ⟨c1, hfe, hc1, hc1r⟩ := hfv
  let vals : Array Value := xs.map a.eval ++ c1
  have hvlen : vals.toList.length = (AV.ref d g 0 :: rest).length := by rw [← hvs]; simp [vals, hc1]
  have hvrep : ∀ i, Rep (ctxOf E G ts w) (vals.toList.getD i undef) ((AV.ref d g 0 :: rest).getD i .any) := fun i => by
    rw [← hvs]
    simp only [vals, Array.toList_append, Array.toList_map, List.getD_eq_getElem?_getD]
    by_cases hi : i < xs.size
    · rw [List.getElem?_append_left (by simpa using hi), List.getElem?_append_left (by simpa using hi)]
      simp only [List.getElem?_map, Array.getElem?_toList]
      rw [Array.getElem?_eq_getElem hi]
      exact hr.ev _
    · rw [List.getElem?_append_right (by simp; omega), List.getElem?_append_right (by simp; omega)]
      have := hc1r (i - xs.size)
      simpa using this
  obtain ⟨v0, vs, hv0⟩ : ∃ v0 vs, vals.toList = v0 :: vs := by
    cases hv : vals.toList with
    | nil => rw [hv] at hvlen; simp at hvlen
    | cons v0 vs => exact ⟨v0, vs, rfl⟩
  rw [hv0] at hvlen hvrep
  have hvals : vals = (v0 :: vs).toArray := by rw [← hv0]
  have h00 : Rep (ctxOf E G ts w) v0 (.ref d g 0) := by simpa using hvrep 0
  obtain ⟨h1c, hgl, hos⟩ := rep_ref h00
  have hos := hos hg (by simp [ctxOf, hob, Ob.kind])
  have hobk := hr.obj d
  rw [hob] at hobk
  have hκd : G.κ d ≠ none := hobk.1
  have hlive : liveR ts G d := ⟨by simp [hob, Ob.kind], hκd⟩
  have hrel' := call1_rel (io := true) (arg := .io cs) (ob' := .box cs) (x0 := .ref 0 0 0) (v0 := v0) hr hob (by simp [Ob.kind]) rfl (vs := vs) (rest := rest) (as := as) (by simpa using hvlen) (fun i => by simpa using hvrep (i + 1)) hargs
    (fun n => ⟨by simp [argTS], by simp [argTS]⟩) (.ref 0 0 0 v0 h1c (Nat.zero_le _) fun _ _ => by simpa [ctxOf, Ghost.set] using hos)
    (fun c' hw hκ hβ hM => ObOk.plain (c := ctxOf E G ts w) (d := d) hpure hw hM hκ hβ hobk) (fun _ => hκd)
  have hC := hcall (calleeEnv1 E ts G w d true) (G.set 0 (G.β d) (G.κ d)) (v0 :: vs).toArray w rfl hrel' fun j => by
    constructor
    · rintro ⟨cs, hcs⟩
      cases j with
      | zero => exact ⟨G.β d, by simp [calleeEnv1]⟩
      | succ j => simp only [List.getElem?_cons_succ, List.getElem?_map] at hcs; cases hh : as[j]? <;> rw [hh] at hcs <;> simp at hcs
    · rintro ⟨b, hb⟩
      cases j with
      | zero => exact ⟨cs, by simp⟩
      | succ j => simp [calleeEnv1] at hb
  have fin : ∀ (v : Value) (w' : World), Post (calleeEnv1 E ts G w d true) (fun r' io => r' = .val x ∧ io 0 = cs') (.returned v) w' → next (a.put o.dst v) w' := by
    rintro v w' ⟨v', r', io, ts', G', hv', hR, hrel, hio, hret⟩
    cases hv'
    obtain ⟨hR, hio0⟩ := hR
    subst hR
    obtain ⟨q1, q2, q3⟩ := hio 0 (G.β d) (by simp [calleeEnv1])
    rw [hio0] at q2 q3
    have hpin := hrel.pin 0 (G.β d) (by simp [calleeEnv1]) q1
    have hbel := hrel.bel
    have hbut : But d ts G w w' := ⟨hbel.os, hbel.tape, hbel.output, hbel.size, hbel.drawn, fun i hi hne => hbel.block i hi fun hx => hne hx.1 hx.2⟩
    have hv0' : Rep (ctxOf (calleeEnv1 E ts G w d true) G' ts' w') v (ts'.tmp 0) := by have := hrel.tmp 0; simpa using this
    have hob0 := hrel.obj 0
    rw [q2] at hob0
    have hlive0 : liveR ts' G' 0 := ⟨by simp [q2, Ob.kind], hob0.1⟩
    have hkd : (Ob.box cs').kind = (ts.obj d).kind := by rw [hob]; rfl
    have hM2 : ∀ b, (ctxOf E G (ts.setObj d (.box cs')) w').M b → (ctxOf (calleeEnv1 E ts G w d true) G' ts' w').M b := fun b hb => by
      rcases hb with hF | ⟨e, hl, hb⟩
      · exact .inl (.inl hF)
      · have hl' := (liveR_setObj hkd e).1 hl
        by_cases he : e = d
        · subst he; exact .inr ⟨0, hlive0, by rw [hpin]; exact hb⟩
        · exact .inl (.inr ⟨e, he, hl', hb⟩)
    have hr2 := Rel.turned (d := d) hr hbut (.box cs') hkd (by
      obtain ⟨_, us, T, h1, h2, h3⟩ := hob0
      refine ⟨hκd, us, T, ?_, h2, fun i => Rep.mono_pure (c := ctxOf (calleeEnv1 E ts G w d true) G' ts' w') (c' := ctxOf E G (ts.setObj d (.box cs')) w') (fun ad u hm hc => ⟨hc, fun h => hm (hM2 _ h)⟩) (h3 i) (pureL_getD cs' i q3)⟩
      show w'.heap[G.β d]? = _
      rw [← hpin]; exact h1)
    obtain ⟨hxp, hx0⟩ := hret
    rw [hx0] at hv0'
    have hxr : Rep (ctxOf E G (ts.setObj d (.box cs')) w') v x := Rep.mono_pure (c := ctxOf (calleeEnv1 E ts G w d true) G' ts' w') (c' := ctxOf E G (ts.setObj d (.box cs')) w') (fun ad u hm hc => ⟨hc, fun h => hm (hM2 _ h)⟩) hv0' hxp
    simp only [setK] at hk
    cases hd : o.dst with
    | none => rw [hd] at hk; exact hn _ G _ w' hk hr2
    | some d' => rw [hd] at hk; exact hn _ G _ w' hk.2 (hr2.put hk.1 hxr)
  have hexec : (execOp a.eval o).run P w = (callFunc f (v0 :: vs).toArray).run P w := by
    rw [← hvals]
    simp [execOp, ho, resolve, hfe, Deferred.ofValue, invoke, vals]
  unfold Oper.wp
  rw [hexec]
  split at hC
  · rename_i f' args' w1 heq
    rw [heq]
    show Calls P f' args' w1 _
    refine Calls.mono hC ?_
    rintro e w' ⟨v, r, io, ts', G', rfl, rest⟩
    exact fin v w' ⟨v, r, io, ts', G', rfl, rest⟩
  · rename_i v w1 heq
    rw [heq]
    exact fin v w1 hC
  · exact hC.elim

/-- A contract of a function that turns an array that is the caller's in place (f: slices.SortFunc at a plain function g). -/
def CallA (P : Program) (f g : FuncId) (sz : Nat) (zs zs' : List AV) : Prop :=
  ∀ (E : Env) (ts : TS) (G : Ghost) (a : Act) (w : World) (d : Nat) (v0 : Value), Rel E ts G a w → ts.obj d = .arr sz zs → OsIs (ctxOf E G ts w) d zs.length v0 →
    match (callFunc f #[v0, .func (.func g) #[] #[]]).run P w with
    | .ok (.enter f' args') w1 => Calls P f' args' w1 fun e w' => e = .returned (.tuple #[]) ∧ But d ts G w w' ∧ ObOk (ctxOf E G (ts.setObj d (.arr sz zs')) w') d (.arr sz zs')
    | _ => False

theorem SpecO.callA {o : Oper} {ts : TS} {K : TS → Prop} {fop : Operand} {xs : Array Operand} {at_ : Array TypeId} (ho : o.op = .call { callee := .value fop, args := xs, argTypes := at_ })
    {f : FuncId} {caps : List AV} (hf : ts.ev fop = .clo (.func f) [] caps) {d g fg sz : Nat} {zs zs' : List AV} (hvs : (xs.toList.map ts.ev) ++ caps = [.os d g zs.length, .clo (.func fg) [] []]) (hg : g = ts.gen d) (hob : ts.obj d = .arr sz zs)
    (hcall : CallA P f fg sz zs zs') (hk : setK (ts.setObj d (.arr sz zs')) o.dst (.tup []) K) : SpecO P o ts K := by
  intro E G a w next Q hr hn
  have hvf := hr.ev fop
  rw [hf] at hvf
  have hfv : ∃ c1 : Array Value, a.eval fop = .func (.func f) #[] c1 ∧ c1.size = caps.length ∧ ∀ i, Rep (ctxOf E G ts w) (c1.getD i undef) (caps.getD i .any) := by
    generalize a.eval fop = q at hvf
    cases hvf with
    | clo _ f1 c1 _ _ p0 p1 p2 p3 =>
      have : f1 = #[] := Array.eq_empty_of_size_eq_zero (by simpa using p0)
      subst this
      exact ⟨c1, rfl, p1, p3⟩
  obtain ⟨c1, hfe, hc1, hc1r⟩ := hfv
  let vals : Array Value := xs.map a.eval ++ c1
  have hvlen : vals.toList.length = 2 := by
    have e : ((xs.toList.map ts.ev) ++ caps).length = 2 := by rw [hvs]; rfl
    rw [← e]; simp [vals, hc1]
  have hvrep : ∀ i, Rep (ctxOf E G ts w) (vals.toList.getD i undef) (([.os d g zs.length, .clo (.func fg) [] []] : List AV).getD i .any) := fun i => by
    rw [← hvs]
    simp only [vals, Array.toList_append, Array.toList_map, List.getD_eq_getElem?_getD]
    by_cases hi : i < xs.size
    · rw [List.getElem?_append_left (by simpa using hi), List.getElem?_append_left (by simpa using hi)]
      simp only [List.getElem?_map, Array.getElem?_toList]
      rw [Array.getElem?_eq_getElem hi]
      exact hr.ev _
    · rw [List.getElem?_append_right (by simp; omega), List.getElem?_append_right (by simp; omega)]
      have := hc1r (i - xs.size)
      simpa using this
  obtain ⟨v0, v1, hv0⟩ : ∃ v0 v1, vals.toList = [v0, v1] := by
    match hv : vals.toList, hvlen with
    | [v0, v1], _ => exact ⟨v0, v1, rfl⟩
  rw [hv0] at hvrep
  have hvals : vals = #[v0, v1] := by
    have : vals = vals.toList.toArray := rfl
    rw [this, hv0]
  have h00 : Rep (ctxOf E G ts w) v0 (.os d g zs.length) := by simpa using hvrep 0
  have h01 : Rep (ctxOf E G ts w) v1 (.clo (.func fg) [] []) := by simpa using hvrep 1
  have hv1 : v1 = .func (.func fg) #[] #[] := by
    cases h01 with
    | clo _ f1 c1 _ _ p0 p1 p2 p3 =>
      have e1 : f1 = #[] := Array.eq_empty_of_size_eq_zero (by simpa using p0)
      have e2 : c1 = #[] := Array.eq_empty_of_size_eq_zero (by simpa using p1)
      rw [e1, e2]
  subst hv1
  obtain ⟨h1c, hgl, hos⟩ := rep_os h00
  have hos := hos hg (by simp [ctxOf, hob, Ob.kind])
  have hC := hcall E ts G a w d v0 hr hob hos
  have hexec : (execOp a.eval o).run P w = (callFunc f #[v0, .func (.func fg) #[] #[]]).run P w := by
    rw [← hvals]
    simp [execOp, ho, resolve, hfe, Deferred.ofValue, invoke, vals]
  unfold Oper.wp
  rw [hexec]
  split at hC
  · rename_i f' args' w1 heq
    rw [heq]
    show Calls P f' args' w1 _
    refine Calls.mono hC ?_
    rintro e w' ⟨rfl, hbut, hok⟩
    have hr2 := Rel.turned (d := d) hr hbut (.arr sz zs') (by rw [hob]; rfl) hok
    simp only [setK] at hk
    cases hd : o.dst with
    | none => rw [hd] at hk; exact hn _ G _ w' hk hr2
    | some d' =>
      rw [hd] at hk
      refine hn _ G _ w' hk.2 (hr2.put hk.1 ?_)
      exact .tup _ _ rfl fun i => by simpa using Rep.any _
  · exact hC.elim

end Go.Proofs.Ytjmnokbbodcaaaa.Lg
