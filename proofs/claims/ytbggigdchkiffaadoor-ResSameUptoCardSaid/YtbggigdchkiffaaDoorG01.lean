/- Parts of the proof, one behind the other. -/
import Derived.Laws.StructEq
import Derived.Test.YtbggigdchkiffaaDoorG00
/- How a caller uses a contract. -/
namespace Go.Proofs.YtbggigdchkiffaaDoor.Lg
set_option linter.unusedVariables false
set_option linter.unusedSimpArgs false
open Go
variable {P : Program}

/-- An argument as the callee gets it: plain data; an array of the caller's own, read only. -/
def TS.toArgs (ts : TS) : List AV → Option (List AV × List Nat)
  | [] => some ([], [])
  | x :: r => match x.res ts, ts.toArgs r with
    | some y, some (ys, ds) => some (y.nrm :: ys, x.owns ++ ds)
    | _, _ => none

/-- What the caller may know of a result where arrays of its own were lent: it reaches no memory. -/
def Ret.flat : Ret → Bool
  | .val x => x.flat
  | .own _ xs => AV.flat.flatL xs

/-- The caller's state behind a call. -/
def afterK (ts : TS) (dst : Option Nat) (r : Ret) (K : TS → Prop) : Prop :=
  match r with
  | .val x => setK ts dst x K
  | .own sz xs => newArrK ts dst sz xs K

/-- Arrays of the caller's own become plain data. -/
def TS.killL (ts : TS) : List Nat → TS
  | [] => ts
  | d :: r => (ts.kill d).killL r
theorem liveR_killL {G : Ghost} {e : Nat} : ∀ {l : List Nat} {ts : TS}, liveR (ts.killL l) G e → e ∉ l ∧ liveR ts G e
  | [], _, h => ⟨by simp, h⟩
  | d :: r, ts, h => by
    obtain ⟨h1, h2⟩ := liveR_killL (l := r) h
    obtain ⟨h3, h4⟩ := liveR_kill h2
    exact ⟨by simp [h1, h3], h4⟩
theorem Rel.killL {E : Env} {G : Ghost} {a : Act} {w : World} : ∀ (l : List Nat) {ts : TS}, Rel E ts G a w → Rel E (ts.killL l) G a w
  | [], _, h => h
  | d :: r, _, h => Rel.killL r (h.kill d)

/-- The callee's environment. -/
def calleeEnv (E : Env) (ts : TS) (G : Ghost) (w : World) (lent : List Nat) : Env :=
  { w0 := w, X := fun _ => False, F := fun b => E.F b ∨ ∃ d, d ∉ lent ∧ liveR ts G d ∧ G.β d = b, pin := fun _ => none }

mutual
theorem Rep.lend {E : Env} {ts : TS} {G : Ghost} {a : Act} {w : World} (h : Rel E ts G a w) {c' : Ctx} (hw : c'.w = w) (hsub : ∀ ad u, ¬ (ctxOf E G ts w).M ad.block → w.cell? ad = some u → ¬ c'.M ad.block) :
    ∀ (x : AV) (v : Value) (y : AV), Rep (ctxOf E G ts w) v x → x.res ts = some y → (∀ d ∈ x.owns, liveR ts G d → ¬ c'.M (G.β d)) → Rep c' v y
  | .os d g len, v, y, hr, hy, ho => by
    simp only [AV.res] at hy
    split at hy
    · rename_i hg
      split at hy
      · rename_i sz xs hob
        split at hy
        · rename_i hcond
          cases hy
          exact Rep.plain h hw hsub hr hg hob hcond.1 hcond.2 (ho d (by simp [AV.owns]))
        · cases hy
      · cases hy
    · cases hy
  | .agg cs, v, y, hr, hy, ho => by
    simp only [AV.res, Option.map_eq_some_iff] at hy
    obtain ⟨l, h1, rfl⟩ := hy
    obtain ⟨vs, rfl, h2, h3⟩ := rep_agg hr
    have hl := (resL_spec ts cs l h1).1
    exact .agg vs l (h2.trans hl) (Rep.lendL h hw hsub cs (fun i => vs.getD i undef) l h3 h1 ho)
  | .tup cs, v, y, hr, hy, ho => by
    simp only [AV.res, Option.map_eq_some_iff] at hy
    obtain ⟨l, h1, rfl⟩ := hy
    obtain ⟨vs, rfl, h2, h3⟩ := rep_tup hr
    have hl := (resL_spec ts cs l h1).1
    exact .tup vs l (h2.trans hl) (Rep.lendL h hw hsub cs (fun i => vs.getD i undef) l h3 h1 ho)
  | .any, v, y, hr, hy, ho => by simp [AV.res, AV.pure] at hy; subst hy; exact .any _
  | .bool b, v, y, hr, hy, ho => by simp [AV.res, AV.pure] at hy; subst hy; exact Rep.mono_pure (fun ad u hM hcell => ⟨by rw [hw]; exact hcell, hsub ad u hM hcell⟩) hr rfl
  | .int k n, v, y, hr, hy, ho => by simp [AV.res, AV.pure] at hy; subst hy; exact Rep.mono_pure (fun ad u hM hcell => ⟨by rw [hw]; exact hcell, hsub ad u hM hcell⟩) hr rfl
  | .str s, v, y, hr, hy, ho => by simp [AV.res, AV.pure] at hy; subst hy; exact Rep.mono_pure (fun ad u hM hcell => ⟨by rw [hw]; exact hcell, hsub ad u hM hcell⟩) hr rfl
  | .nilp, v, y, hr, hy, ho => by simp [AV.res, AV.pure] at hy; subst hy; exact Rep.mono_pure (fun ad u hM hcell => ⟨by rw [hw]; exact hcell, hsub ad u hM hcell⟩) hr rfl
  | .nilf, v, y, hr, hy, ho => by simp [AV.res, AV.pure] at hy; subst hy; exact Rep.mono_pure (fun ad u hM hcell => ⟨by rw [hw]; exact hcell, hsub ad u hM hcell⟩) hr rfl
  | .nilm, v, y, hr, hy, ho => by simp [AV.res, AV.pure] at hy; subst hy; exact Rep.mono_pure (fun ad u hM hcell => ⟨by rw [hw]; exact hcell, hsub ad u hM hcell⟩) hr rfl
  | .niface, v, y, hr, hy, ho => by simp [AV.res, AV.pure] at hy; subst hy; exact Rep.mono_pure (fun ad u hM hcell => ⟨by rw [hw]; exact hcell, hsub ad u hM hcell⟩) hr rfl
  | .slice _ _, v, y, hr, hy, ho => by simp [AV.res] at hy; obtain ⟨h1, rfl⟩ := hy; exact Rep.mono_pure (fun ad u hM hcell => ⟨by rw [hw]; exact hcell, hsub ad u hM hcell⟩) hr h1
  | .ro _, v, y, hr, hy, ho => by simp [AV.res] at hy; obtain ⟨h1, rfl⟩ := hy; exact Rep.mono_pure (fun ad u hM hcell => ⟨by rw [hw]; exact hcell, hsub ad u hM hcell⟩) hr h1
  | .clo _ _ _, v, y, hr, hy, ho => by simp [AV.res] at hy; obtain ⟨h1, rfl⟩ := hy; exact Rep.mono_pure (fun ad u hM hcell => ⟨by rw [hw]; exact hcell, hsub ad u hM hcell⟩) hr h1
  | .iface _ _, v, y, hr, hy, ho => by simp [AV.res] at hy; obtain ⟨h1, rfl⟩ := hy; exact Rep.mono_pure (fun ad u hM hcell => ⟨by rw [hw]; exact hcell, hsub ad u hM hcell⟩) hr h1
  | .ref _ _ _, v, y, hr, hy, ho => by simp [AV.res, AV.pure] at hy
  | .eref _ _ _ _, v, y, hr, hy, ho => by simp [AV.res, AV.pure] at hy
  | .ot _ _ _ _, v, y, hr, hy, ho => by simp [AV.res, AV.pure] at hy
theorem Rep.lendL {E : Env} {ts : TS} {G : Ghost} {a : Act} {w : World} (h : Rel E ts G a w) {c' : Ctx} (hw : c'.w = w) (hsub : ∀ ad u, ¬ (ctxOf E G ts w).M ad.block → w.cell? ad = some u → ¬ c'.M ad.block) :
    ∀ (cs : List AV) (vs : Nat → Value) (l : List AV), (∀ i, Rep (ctxOf E G ts w) (vs i) (cs.getD i .any)) → AV.res.resL ts cs = some l → (∀ d ∈ AV.owns.ownsL cs, liveR ts G d → ¬ c'.M (G.β d)) → ∀ i, Rep c' (vs i) (l.getD i .any)
  | [], vs, l, hr, hl, ho, i => by simp [AV.res.resL] at hl; subst hl; exact .any _
  | x :: r, vs, l, hr, hl, ho, i => by
    simp only [AV.res.resL] at hl
    split at hl
    · rename_i y s h1 h2
      cases hl
      cases i with
      | zero => exact Rep.lend h hw hsub x (vs 0) y (by simpa using hr 0) h1 fun d hd => ho d (by simp [AV.owns.ownsL, hd])
      | succ i =>
        have := Rep.lendL h hw hsub r (fun i => vs (i + 1)) s (fun i => by simpa using hr (i + 1)) h2 (fun d hd => ho d (by simp [AV.owns.ownsL, hd])) i
        simpa using this
    · cases hl
end

theorem toArgs_spec {E : Env} {ts : TS} {G : Ghost} {a : Act} {w : World} (h : Rel E ts G a w) {c' : Ctx} (hw : c'.w = w) (lent : List Nat) (hc : ∀ b, c'.M b ↔ (E.F b ∨ ∃ d, d ∉ lent ∧ liveR ts G d ∧ G.β d = b)) :
    ∀ (vs : List Value) (xs ys : List AV) (ds : List Nat), vs.length = xs.length → (∀ i, Rep (ctxOf E G ts w) (vs.getD i undef) (xs.getD i .any)) → ts.toArgs xs = some (ys, ds) → (∀ d ∈ ds, d ∈ lent) →
      ys.length = xs.length ∧ (∀ i, Rep c' (vs.getD i undef) (ys.getD i .any)) ∧ ∀ y ∈ ys, y.pure = true
  | [], [], ys, ds, _, _, h3, _ => by simp [TS.toArgs] at h3; obtain ⟨rfl, _⟩ := h3; exact ⟨rfl, fun i => by simp; exact .any _, by simp⟩
  | v :: vs, x :: xs, ys, ds, h1, h2, h3, h4 => by
    have hsub : ∀ ad u, ¬ (ctxOf E G ts w).M ad.block → w.cell? ad = some u → ¬ c'.M ad.block := fun ad u hM _ hm => by
      rcases (hc _).1 hm with hF | ⟨d, _, hl, hb⟩
      · exact hM (.inl hF)
      · exact hM (.inr ⟨d, hl, hb⟩)
    simp only [TS.toArgs] at h3
    split at h3
    · rename_i y ys' ds' e1 e2
      cases h3
      obtain ⟨b1, b2, b3⟩ := toArgs_spec h hw lent hc vs xs ys' ds' (by simpa using h1) (fun i => by simpa using h2 (i + 1)) e2 fun e he => h4 e (by simp [he])
      have hx : Rep c' v y := Rep.lend h hw hsub x v y (by simpa using h2 0) e1 fun d hd hlive hm => by
        rcases (hc _).1 hm with hF | ⟨e, hne, hl, hb⟩
        · exact (h.own d hlive).2.1 hF
        · have := h.sep e d hl hlive hb
          subst this
          exact hne (h4 e (by simp [hd]))
      refine ⟨by simp [b1], fun i => ?_, fun z hz => ?_⟩
      · cases i with
        | zero => simpa using hx.nrm
        | succ i => simpa using b2 i
      · rcases List.mem_cons.1 hz with rfl | hz
        · rw [pure_nrm]; exact res_pure ts x y e1
        · exact b3 z hz
    · cases h3
  | [], x :: xs, _, _, h1, _, _, _ => by simp at h1
  | v :: vs, [], _, _, h1, _, _, _ => by simp at h1

theorem SpecO.call {o : Oper} {ts : TS} {K : TS → Prop} {fop : Operand} {xs : Array Operand} {at_ : Array TypeId} (ho : o.op = .call { callee := .value fop, args := xs, argTypes := at_ })
    {f : FuncId} {caps : List AV} (hf : ts.ev fop = .clo (.func f) [] caps) {args : List AV} {lent : List Nat} (hargs : ts.toArgs ((xs.toList.map ts.ev) ++ caps) = some (args, lent))
    {R : Ret → (Nat → List AV) → Prop} (hcall : CallV P f (args.map Arg.v) R) (hk : ∀ r io, R r io → ((lent = [] ∨ r.flat = true) ∧ afterK ts o.dst r K) ∨ afterK (ts.killL lent) o.dst r K) : SpecO P o ts K := by
  intro E G a w next Q hr hn
  have hvf := hr.ev fop
  rw [hf] at hvf
  have hfv : ∃ c1 : Array Value, a.eval fop = .func (.func f) #[] c1 ∧ c1.size = caps.length ∧ ∀ i, Rep (ctxOf E G ts w) (c1.getD i undef) (caps.getD i .any) := by
    generalize a.eval fop = q at hvf
    cases hvf with
    | clo _ f1 c1 _ _ p0 p1 p2 p3 =>
      have : f1 = #[] := Array.eq_empty_of_size_eq_zero (by simpa using p0)
      subst this
      exact ⟨c1, rfl, p1, p3⟩
  obtain ⟨c1, hfe, hc1, hc1r⟩ := hfv
  let vals : Array Value := xs.map a.eval ++ c1
  let E' := calleeEnv E ts G w lent
  let as : List Arg := args.map Arg.v
  have hM : ∀ b, (ctxOf E' G (argTS as as.length) w).M b ↔ (E.F b ∨ ∃ d, d ∉ lent ∧ liveR ts G d ∧ G.β d = b) := fun b => by
    simp only [ctxOf, E', calleeEnv]
    constructor
    · rintro (h1 | ⟨d, hl, _⟩)
      · exact h1
      · have hkind := hl.1
        simp only [argTS, as] at hkind
        split at hkind
        · rename_i cs hcs; simp at hcs
        · rename_i sz xs hcs; simp at hcs
        · simp [Ob.kind] at hkind
    · exact fun h1 => .inl h1
  have hvlen : vals.toList.length = ((xs.toList.map ts.ev) ++ caps).length := by simp [vals, hc1]
  have hvrep : ∀ i, Rep (ctxOf E G ts w) (vals.toList.getD i undef) (((xs.toList.map ts.ev) ++ caps).getD i .any) := fun i => by
    simp only [vals, Array.toList_append, Array.toList_map, List.getD_eq_getElem?_getD]
    by_cases hi : i < xs.size
    · rw [List.getElem?_append_left (by simpa using hi), List.getElem?_append_left (by simpa using hi)]
      simp only [List.getElem?_map, Array.getElem?_toList]
      rw [Array.getElem?_eq_getElem hi]
      exact hr.ev _
    · rw [List.getElem?_append_right (by simp; omega), List.getElem?_append_right (by simp; omega)]
      have := hc1r (i - xs.size)
      simpa using this
  obtain ⟨hlen, hargr, hpure⟩ := toArgs_spec hr (c' := ctxOf E' G (argTS as as.length) w) rfl lent hM vals.toList _ args lent hvlen hvrep hargs (fun d hd => hd)
  have hrel' : Rel E' (argTS as as.length) G ⟨vals, []⟩ w := by
    refine ⟨?_, rfl, fun t => ?_, fun d => ?_, fun d d' h1 _ _ => ?_, fun d h1 => ?_, fun b hb => ?_, Bel.refl _ _, fun j b hj => by simp [E', calleeEnv] at hj⟩
    · simp only [argTS, as, List.length_map]
      rw [hlen, ← hvlen]; simp
    · have := hargr t
      have e1 : vals.getD t undef = vals.toList.getD t undef := by simp
      have e2 : (argTS as as.length).tmp t = args.getD t .any := by
        simp only [argTS, as, List.getElem?_map, List.getD_eq_getElem?_getD]
        cases args[t]? <;> rfl
      rw [e1, e2]; exact this
    · have : (argTS as as.length).obj d = .dead := by
        simp only [argTS, as, List.getElem?_map]
        cases args[d]? <;> rfl
      rw [this]; trivial
    · have : (argTS as as.length).obj d = .dead := by
        simp only [argTS, as, List.getElem?_map]
        cases args[d]? <;> rfl
      simp [liveR, this, Ob.kind] at h1
    · have : (argTS as as.length).obj d = .dead := by
        simp only [argTS, as, List.getElem?_map]
        cases args[d]? <;> rfl
      simp [liveR, this, Ob.kind] at h1
    · rcases hb with h1 | ⟨d, _, hl, rfl⟩
      · exact hr.inF b h1
      · exact (hr.own d hl).2.2
  have hpin : ∀ j, (∃ cs, as[j]? = some (.io cs)) ↔ ∃ b, E'.pin j = some b := fun j => by
    constructor
    · rintro ⟨cs, hcs⟩; simp only [as, List.getElem?_map] at hcs; cases hh : args[j]? <;> rw [hh] at hcs <;> simp at hcs
    · rintro ⟨b, hb⟩; simp [E', calleeEnv] at hb
  have hC := hcall E' G vals w rfl hrel' hpin
  -- what the contract's end gives the caller
  have fin : ∀ (v : Value) (w' : World), Post E' R (.returned v) w' → next (a.put o.dst v) w' := by
    rintro v w' ⟨v', r, io, ts', G', hv', hR, hrel, _, hret⟩
    cases hv'
    obtain ⟨tsx, hrx, hlx, hfl, hK⟩ : ∃ tsx, Rel E tsx G a w ∧ (∀ d, liveR tsx G d → liveR ts G d) ∧ ((∀ d, liveR tsx G d → d ∉ lent) ∨ r.flat = true) ∧ afterK tsx o.dst r K := by
      rcases hk r io hR with ⟨hfl, hK⟩ | hK
      · refine ⟨ts, hr, fun _ h => h, ?_, hK⟩
        rcases hfl with rfl | hfl
        · exact .inl fun d _ => by simp
        · exact .inr hfl
      · exact ⟨ts.killL lent, hr.killL lent, fun d h => (liveR_killL h).2, .inl fun d h => (liveR_killL h).1, hK⟩
    have hbel := hrel.bel
    have hw : ∀ i, i < w.heap.size → w'.heap[i]? = w.heap[i]? := fun i hi => hbel.block i hi (fun f => f)
    have hbel' : Bel (fun _ => False) w w' := ⟨hbel.os, hbel.tape, hbel.output, hbel.size, hbel.block, hbel.drawn⟩
    have hv0 : Rep (ctxOf E' G' ts' w') v (ts'.tmp 0) := by have := hrel.tmp 0; simpa using this
    have hr2 : Rel E tsx G a w' := by
      have hle : (ctxOf E G tsx w).Le (ctxOf E G tsx w') :=
        { cell := fun ad u hMa hc => ⟨(World.cell_of_heap (hw _ (World.cell_lt hc))).trans hc, hMa⟩, gen := fun _ => Nat.le_refl _, kind := fun e k _ hk' => ⟨hk', rfl, rfl⟩ }
      refine ⟨hrx.size, hrx.defers, fun t => (hrx.tmp t).mono hle, fun d => ObOk.mono hle rfl rfl (fun h1 h2 => hw _ (hrx.own d ⟨h1, h2⟩).2.2) (hrx.obj d), hrx.sep, fun d hd => ?_, fun b hb => Nat.lt_of_lt_of_le (hrx.inF b hb) hbel.size, hrx.bel.trans ⟨hbel.os, hbel.tape, hbel.output, hbel.size, fun k hk' _ => hw k hk', hbel.drawn⟩, hrx.pin⟩
      obtain ⟨p, q, s⟩ := hrx.own d hd
      exact ⟨p, q, Nat.lt_of_lt_of_le s hbel.size⟩
    cases r with
    | val x =>
      obtain ⟨hxp, hx0⟩ := hret
      rw [hx0] at hv0
      have hxr : Rep (ctxOf E G tsx w') v x := by
        rcases hfl with hl0 | hfl
        · refine Rep.mono_pure (c := ctxOf E' G' ts' w') ?_ hv0 hxp
          intro ad u hMa hc
          refine ⟨hc, ?_⟩
          rintro (hF | ⟨d, hl, hb⟩)
          · exact hMa (.inl (.inl hF))
          · exact hMa (.inl (.inr ⟨d, hl0 d hl, hlx d hl, hb⟩))
        · exact Rep.mono_flat hv0 hfl
      simp only [afterK, setK] at hK
      cases hd : o.dst with
      | none => rw [hd] at hK; exact hn tsx G _ w' hK hr2
      | some d => rw [hd] at hK; exact hn _ G _ w' hK.2 (hr2.put hK.1 hxr)
    | own sz ys =>
      obtain ⟨d0, g0, ht0, hg0, ho0, hp0⟩ := hret
      simp only [afterK, newArrK] at hK
      cases hd : o.dst with
      | none => rw [hd] at hK; exact hK.elim
      | some d =>
        rw [hd] at hK
        rw [ht0] at hv0
        obtain ⟨_, _, hos⟩ := rep_os hv0
        have hos := hos hg0.symm (by simp [ctxOf, ho0, Ob.kind])
        have hob := hrel.obj d0
        rw [ho0] at hob
        obtain ⟨h0, hsz, hrest⟩ := hob
        -- the array's block is a new one
        unfold OsIs at hos
        cases hκ : (ctxOf E' G' ts' w').κ d0 with
        | none =>
          rw [hκ] at hos hrest
          subst hrest
          obtain ⟨_, ad, rfl⟩ := hos
          refine hn _ _ _ _ hK.2 (hrx.newObj (w' := w') hK.1 (.arr sz []) w.heap.size none (Nat.le_refl _) (fun h => absurd rfl h) hbel' ?_ ?_)
          · refine .os d _ _ _ rfl (by simp [ctxOf, TS.new]) fun _ _ => ?_
            unfold OsIs
            simp [ctxOf, Ghost.set]
          · refine ⟨h0, by simp, ?_⟩
            simp [ctxOf, Ghost.set]
        | some cap =>
          rw [hκ] at hos hrest
          obtain ⟨hv, hcap⟩ := hos
          obtain ⟨vs, T, hheap, hsize, hfit, hcell⟩ := hrest
          have hlive0 : liveR ts' G' d0 := ⟨by simp [ho0, Ob.kind], by rw [show G'.κ d0 = some cap from hκ]; simp⟩
          obtain ⟨hown, hnF, hlt⟩ := hrel.own d0 hlive0
          have hge : w.heap.size ≤ G'.β d0 := by
            rcases hown with h1 | h1
            · exact h1
            · exact h1.elim
          refine hn _ _ _ _ hK.2 (hrx.newObj (w' := w') hK.1 (.arr sz ys) (G'.β d0) (some cap) hge (fun _ => hlt) hbel' ?_ ?_)
          · refine .os d _ _ _ ?_ (by simp [ctxOf, TS.new]) fun _ _ => ?_
            · rw [hv]; rfl
            · unfold OsIs
              simp only [ctxOf, Ghost.set, upd_same]
              exact ⟨hv, hfit⟩
          · refine ⟨h0, hsz, ?_⟩
            simp only [ctxOf, Ghost.set, upd_same]
            refine ⟨vs, T, hheap, hsize, hfit, fun i j hi hj => ?_⟩
            rcases hfl with hl0 | hfl
            · refine Rep.mono_pure (c := ctxOf E' G' ts' w') ?_ (hcell i j hi hj) (pureL_getD _ _ (AV.pure_cells (pureL_getD ys i hp0)))
              intro ad u hMa hc
              refine ⟨hc, ?_⟩
              rintro (hF | ⟨e, hl, hb⟩)
              · exact hMa (.inl (.inl hF))
              · by_cases he : e = d
                · subst he
                  have : G'.β d0 = ad.block := by simpa [Ghost.set] using hb
                  exact hMa (.inr ⟨d0, hlive0, this⟩)
                · have hl' : liveR tsx G e := by simpa [liveR, TS.new, Ghost.set, upd, he] using hl
                  have hb' : G.β e = ad.block := by simpa [Ghost.set, upd, he] using hb
                  exact hMa (.inl (.inr ⟨e, hl0 e hl', hlx e hl', hb'⟩))
            · exact Rep.mono_flat (hcell i j hi hj) (flatL_getD _ _ (AV.flat_cells (flatL_getD ys i hfl)))
  have hexec : (execOp a.eval o).run P w = (callFunc f vals).run P w := by
    simp [execOp, ho, resolve, hfe, Deferred.ofValue, invoke, vals]
  unfold Oper.wp
  rw [hexec]
  split at hC
  · rename_i f' args' w1 heq
    rw [heq]
    show Calls P f' args' w1 _
    refine Calls.mono hC ?_
    rintro e w' ⟨v, r, io, ts', G', rfl, rest⟩
    exact fin v w' ⟨v, r, io, ts', G', rfl, rest⟩
  · rename_i v w1 heq
    rw [heq]
    exact fin v w1 hC
  · exact hC.elim

/-! ### An object of the caller's own goes to the callee -/
/-- What the callee may have done to the world, but for one block. -/
structure But (d : Nat) (ts : TS) (G : Ghost) (w w' : World) : Prop where
  os : w'.os = w.os
  tape : w'.tape = w.tape
  output : w'.output = w.output
  size : w.heap.size ≤ w'.heap.size
  drawn : w.drawn ≤ w'.drawn
  block : ∀ i, i < w.heap.size → (liveR ts G d → i ≠ G.β d) → w'.heap[i]? = w.heap[i]?

theorem But.bel {E : Env} {ts : TS} {G : Ghost} {a : Act} {w w' : World} {d : Nat} (h : Rel E ts G a w) (hb : But d ts G w w') : Bel E.X E.w0 w' :=
  ⟨hb.os.trans h.bel.os, hb.tape.trans h.bel.tape, hb.output.trans h.bel.output, Nat.le_trans h.bel.size hb.size, fun k hk hx =>
    (hb.block k (Nat.lt_of_lt_of_le hk h.bel.size) fun hl e => by
      rcases (h.own d hl).1 with h1 | h1
      · omega
      · exact hx (e ▸ h1)).trans (h.bel.block k hk hx), Nat.le_trans h.bel.drawn hb.drawn⟩

/-- The object is another one behind it, in its own block or a new one; or there is none. -/
theorem Rel.moved {E : Env} {ts : TS} {G : Ghost} {a : Act} {w w' : World} (h : Rel E ts G a w) {d d' : Nat} (hd' : d' < ts.n) (hbut : But d ts G w w') (o : Ob) (b : Nat) (k : Option Nat)
    (hb : k ≠ none → (w.heap.size ≤ b ∨ (liveR ts G d ∧ b = G.β d)) ∧ b < w'.heap.size) {v : Value} {x : AV}
    (hr : Rep (ctxOf E (G.set d' b k) ((ts.kill d).new d' o) w') v x) (ho : ObOk (ctxOf E (G.set d' b k) ((ts.kill d).new d' o) w') d' o) :
    Rel E (((ts.kill d).new d' o).put d' x) (G.set d' b k) (a.put (some d') v) w' := by
  have live : ∀ e, e ≠ d' → liveR ((ts.kill d).new d' o) (G.set d' b k) e → e ≠ d ∧ liveR ts G e := fun e he hl => by
    have : liveR (ts.kill d) G e := by simpa [liveR, Ghost.set, TS.new, upd, he] using hl
    exact liveR_kill this
  have hβ : ∀ e, e ≠ d' → (G.set d' b k).β e = G.β e := fun e he => by simp [Ghost.set, upd, he]
  have hβd : (G.set d' b k).β d' = b := by simp [Ghost.set]
  have hkl : liveR ((ts.kill d).new d' o) (G.set d' b k) d' → k ≠ none := fun hl => by have := hl.2; simpa [Ghost.set] using this
  have hle : (ctxOf E G ts w).Le (ctxOf E (G.set d' b k) ((ts.kill d).new d' o) w') :=
    { cell := fun ad u hM hc => by
        have hlt := World.cell_lt hc
        refine ⟨(World.cell_of_heap (hbut.block _ hlt fun hl e => hM (.inr ⟨d, hl, e.symm⟩))).trans hc, ?_⟩
        rintro (hF | ⟨e, he, hbe⟩)
        · exact hM (.inl hF)
        · by_cases hed : e = d'
          · subst hed
            have h1 : b = ad.block := by simpa [ctxOf, Ghost.set] using hbe
            rcases (hb (hkl he)).1 with h2 | ⟨h2, h3⟩
            · have : ad.block < w.heap.size := hlt
              omega
            · exact hM (.inr ⟨d, h2, by rw [← h3]; exact h1⟩)
          · exact hM (.inr ⟨e, (live e hed he).2, by simpa [ctxOf, hβ e hed] using hbe⟩)
      gen := fun e => by by_cases h : e = d' <;> simp [ctxOf, TS.new, TS.kill, TS.setObj, upd, h]
      kind := fun e k' hg hk => by
        by_cases h : e = d'
        · subst h; simp [ctxOf, TS.new, TS.kill, TS.setObj] at hg
        · by_cases h2 : e = d
          · subst h2; simp [ctxOf, TS.new, TS.kill, TS.setObj, upd, h, Ob.kind] at hk
          · simp only [ctxOf, TS.new, TS.kill, TS.setObj, Ghost.set, upd, h, h2, if_false] at hk ⊢
            exact ⟨hk, trivial, trivial⟩ }
  constructor
  · simp [Act.put, h.size, TS.put, TS.new, TS.kill, TS.setObj]
  · exact h.defers
  · intro t
    rw [getD_put a d' t v (by rw [h.size]; exact hd')]
    show Rep (ctxOf E (G.set d' b k) ((ts.kill d).new d' o) w') _ (upd ts.tmp d' x t)
    by_cases e : t = d'
    · subst e; simpa using hr
    · rw [if_neg e, upd_ne _ _ e]; exact (h.tmp t).mono hle
  · intro e
    show ObOk (ctxOf E (G.set d' b k) ((ts.kill d).new d' o) w') e ((upd (upd ts.obj d .dead) d' o) e)
    by_cases he : e = d'
    · subst he; simpa using ho
    · rw [upd_ne _ _ he]
      by_cases h2 : e = d
      · subst h2; simp [ObOk]
      · rw [upd_ne _ _ h2]
        refine ObOk.mono hle (by simp [ctxOf, Ghost.set, upd, he]) (by simp [ctxOf, Ghost.set, upd, he]) ?_ (h.obj e)
        intro hkind hk
        exact hbut.block _ (h.own e ⟨hkind, hk⟩).2.2 fun hl hbe => h2 (h.sep e d ⟨hkind, hk⟩ hl hbe)
  · intro e e' h1 h2 h3
    have aux : ∀ e, e ≠ d' → liveR ((ts.kill d).new d' o) (G.set d' b k) e → liveR ((ts.kill d).new d' o) (G.set d' b k) d' → G.β e ≠ b := fun e he hl hl' hbe => by
      obtain ⟨q1, q2⟩ := live e he hl
      rcases (hb (hkl hl')).1 with q3 | ⟨q3, q4⟩
      · have := (h.own e q2).2.2; omega
      · exact q1 (h.sep e d q2 q3 (by rw [hbe, q4]))
    by_cases he : e = d' <;> by_cases he' : e' = d'
    · rw [he, he']
    · subst he
      rw [hβd, hβ e' he'] at h3
      exact absurd h3.symm (aux e' he' h2 h1)
    · subst he'
      rw [hβd, hβ e he] at h3
      exact absurd h3 (aux e he h1 h2)
    · rw [hβ e he, hβ e' he'] at h3
      exact h.sep e e' (live e he h1).2 (live e' he' h2).2 h3
  · intro e h1
    by_cases he : e = d'
    · subst he
      rw [hβd]
      obtain ⟨q1, q2⟩ := hb (hkl h1)
      rcases q1 with q1 | ⟨q1, q3⟩
      · have := h.bel.size
        exact ⟨.inl (by omega), fun hF => by have := h.inF b hF; omega, q2⟩
      · obtain ⟨p, q, r⟩ := h.own d q1
        rw [q3]
        exact ⟨p, q, by rw [← q3]; exact q2⟩
    · rw [hβ e he]
      obtain ⟨p, q, r⟩ := h.own e (live e he h1).2
      exact ⟨p, q, Nat.lt_of_lt_of_le r hbut.size⟩
  · exact fun b hb => Nat.lt_of_lt_of_le (h.inF b hb) hbut.size
  · exact But.bel h hbut
  · intro j b' hj hg
    by_cases he : j = d'
    · subst he; simp [TS.put, TS.new] at hg
    · rw [hβ j he]; exact h.pin j b' hj (by simpa [TS.put, TS.new, TS.kill, TS.setObj, upd, he] using hg)

/-- The object is gone. -/
theorem Rel.gone {E : Env} {ts : TS} {G : Ghost} {a : Act} {w w' : World} (h : Rel E ts G a w) {d : Nat} (hbut : But d ts G w w') : Rel E (ts.kill d) G a w' := by
  have hle : (ctxOf E G ts w).Le (ctxOf E G (ts.kill d) w') :=
    { cell := fun ad u hM hc => by
        have hlt := World.cell_lt hc
        refine ⟨(World.cell_of_heap (hbut.block _ hlt fun hl e => hM (.inr ⟨d, hl, e.symm⟩))).trans hc, ?_⟩
        rintro (hF | ⟨e, he, hbe⟩)
        · exact hM (.inl hF)
        · exact hM (.inr ⟨e, (liveR_kill he).2, hbe⟩)
      gen := fun _ => Nat.le_refl _
      kind := fun e k' hg hk => by
        by_cases h2 : e = d
        · subst h2; simp [ctxOf, TS.kill, TS.setObj, Ob.kind] at hk
        · simp only [ctxOf, TS.kill, TS.setObj, upd, h2, if_false] at hk; exact ⟨hk, rfl, rfl⟩ }
  refine ⟨h.size, h.defers, fun t => (h.tmp t).mono hle, fun e => ?_, fun e e' h1 h2 h3 => h.sep e e' (liveR_kill h1).2 (liveR_kill h2).2 h3, fun e h1 => ?_, fun b hb => Nat.lt_of_lt_of_le (h.inF b hb) hbut.size, But.bel h hbut, h.pin⟩
  · show ObOk _ e ((upd ts.obj d .dead) e)
    by_cases he : e = d
    · subst he; simp [ObOk]
    · rw [upd_ne _ _ he]
      exact ObOk.mono hle rfl rfl (fun hkind hk => hbut.block _ (h.own e ⟨hkind, hk⟩).2.2 fun hl hbe => he (h.sep e d ⟨hkind, hk⟩ hl hbe)) (h.obj e)
  · obtain ⟨p, q, r⟩ := h.own e (liveR_kill h1).2
    exact ⟨p, q, Nat.lt_of_lt_of_le r hbut.size⟩

/-- The object's content is another one. -/
theorem Rel.turned {E : Env} {ts : TS} {G : Ghost} {a : Act} {w w' : World} (h : Rel E ts G a w) {d : Nat} (hbut : But d ts G w w') (o : Ob) (hk : o.kind = (ts.obj d).kind) (ho : ObOk (ctxOf E G (ts.setObj d o) w') d o) : Rel E (ts.setObj d o) G a w' := by
  have hle : (ctxOf E G ts w).Le (ctxOf E G (ts.setObj d o) w') :=
    { cell := fun ad u hM hc => by
        have hlt := World.cell_lt hc
        refine ⟨(World.cell_of_heap (hbut.block _ hlt fun hl e => hM (.inr ⟨d, hl, e.symm⟩))).trans hc, ?_⟩
        rintro (hF | ⟨e, he, hbe⟩)
        · exact hM (.inl hF)
        · exact hM (.inr ⟨e, (liveR_setObj hk e).1 he, hbe⟩)
      gen := fun _ => Nat.le_refl _
      kind := fun e k' _ hk' => by
        by_cases he : e = d
        · subst he; simp only [ctxOf, TS.setObj, upd_same, hk] at hk'; exact ⟨hk', rfl, rfl⟩
        · simp only [ctxOf, TS.setObj, upd, he, if_false] at hk'; exact ⟨hk', rfl, rfl⟩ }
  refine ⟨h.size, h.defers, fun t => (h.tmp t).mono hle, fun e => ?_, fun e e' h1 h2 h3 => h.sep e e' ((liveR_setObj hk e).1 h1) ((liveR_setObj hk e').1 h2) h3, fun e h1 => ?_, fun b hb => Nat.lt_of_lt_of_le (h.inF b hb) hbut.size, But.bel h hbut, h.pin⟩
  · show ObOk _ e ((upd ts.obj d o) e)
    by_cases he : e = d
    · subst he; simpa using ho
    · rw [upd_ne _ _ he]
      exact ObOk.mono hle rfl rfl (fun hkind hk => hbut.block _ (h.own e ⟨hkind, hk⟩).2.2 fun hl hbe => he (h.sep e d ⟨hkind, hk⟩ hl hbe)) (h.obj e)
  · obtain ⟨p, q, r⟩ := h.own e ((liveR_setObj hk e).1 h1)
    exact ⟨p, q, Nat.lt_of_lt_of_le r hbut.size⟩

/-- The callee's environment where it gets an object of the caller's. -/
def calleeEnv1 (E : Env) (ts : TS) (G : Ghost) (w : World) (d : Nat) (io : Bool) : Env :=
  { w0 := w, X := fun b => liveR ts G d ∧ b = G.β d, F := fun b => E.F b ∨ ∃ e, e ≠ d ∧ liveR ts G e ∧ G.β e = b, pin := fun j => if j = 0 ∧ io = true then some (G.β d) else none }

/-- The first argument an object of the caller's own: what the callee finds. -/
theorem call1_rel {E : Env} {ts : TS} {G : Ghost} {a : Act} {w : World} (hr : Rel E ts G a w) {d : Nat} {ob ob' : Ob} {x0 : AV} {arg : Arg} {io : Bool} (hob : ts.obj d = ob) (hkind : ob.kind ≠ none) (hkind' : ob'.kind = ob.kind)
    {v0 : Value} {vs : List Value} {rest as : List AV} (hvs : vs.length = rest.length) (hrep : ∀ i, Rep (ctxOf E G ts w) (vs.getD i undef) (rest.getD i .any)) (hargs : ts.toArgs rest = some (as, []))
    (harg : ∀ n, (argTS (arg :: as.map Arg.v) n).tmp 0 = x0 ∧ (argTS (arg :: as.map Arg.v) n).obj 0 = ob')
    (hv0 : Rep (ctxOf (calleeEnv1 E ts G w d io) (G.set 0 (G.β d) (G.κ d)) (argTS (arg :: as.map Arg.v) (as.length + 1)) w) v0 x0)
    (hob' : ∀ c' : Ctx, c'.w = w → c'.κ 0 = G.κ d → c'.β 0 = G.β d → (∀ b, c'.M b → (ctxOf E G ts w).M b) → ObOk c' 0 ob') (hio : io = true → G.κ d ≠ none) :
    Rel (calleeEnv1 E ts G w d io) (argTS (arg :: as.map Arg.v) (arg :: as.map Arg.v).length) (G.set 0 (G.β d) (G.κ d)) ⟨(v0 :: vs).toArray, []⟩ w := by
  have hlenA : (arg :: as.map Arg.v).length = as.length + 1 := by simp
  rw [hlenA]
  have hG0 : (G.set 0 (G.β d) (G.κ d)).β 0 = G.β d ∧ (G.set 0 (G.β d) (G.κ d)).κ 0 = G.κ d := by simp [Ghost.set]
  have hdead : ∀ e, e ≠ 0 → (argTS (arg :: as.map Arg.v) (as.length + 1)).obj e = .dead := fun e he => by
    obtain ⟨q, rfl⟩ : ∃ q, e = q + 1 := ⟨e - 1, by omega⟩
    simp only [argTS, List.getElem?_cons_succ, List.getElem?_map]
    cases as[q]? <;> rfl
  have hlive : ∀ e, liveR (argTS (arg :: as.map Arg.v) (as.length + 1)) (G.set 0 (G.β d) (G.κ d)) e ↔ e = 0 ∧ liveR ts G d := fun e => by
    unfold liveR
    by_cases he : e = 0
    · subst he
      rw [(harg _).2, hG0.2, hkind', hob]
      simp
    · rw [hdead e he]; simp [Ob.kind, he]
  have hM : ∀ b, (ctxOf (calleeEnv1 E ts G w d io) (G.set 0 (G.β d) (G.κ d)) (argTS (arg :: as.map Arg.v) (as.length + 1)) w).M b ↔ (E.F b ∨ ∃ e, e ∉ ([] : List Nat) ∧ liveR ts G e ∧ G.β e = b) := fun b => by
    simp only [ctxOf, calleeEnv1, List.not_mem_nil, not_false_eq_true, true_and]
    constructor
    · rintro ((h1 | ⟨e, _, hl, hb⟩) | ⟨e, hl, hb⟩)
      · exact .inl h1
      · exact .inr ⟨e, hl, hb⟩
      · obtain ⟨rfl, hl'⟩ := (hlive e).1 hl
        exact .inr ⟨d, hl', by rw [← hG0.1]; exact hb⟩
    · rintro (h1 | ⟨e, hl, hb⟩)
      · exact .inl (.inl h1)
      · by_cases hed : e = d
        · subst hed; exact .inr ⟨0, (hlive 0).2 ⟨rfl, hl⟩, by rw [hG0.1]; exact hb⟩
        · exact .inl (.inr ⟨e, hed, hl, hb⟩)
  obtain ⟨hlen, hargr, hpure⟩ := toArgs_spec hr (c' := ctxOf (calleeEnv1 E ts G w d io) (G.set 0 (G.β d) (G.κ d)) (argTS (arg :: as.map Arg.v) (as.length + 1)) w) rfl [] hM vs rest as [] hvs hrep hargs (fun _ h => h)
  refine ⟨by simp [argTS, hvs, hlen], rfl, fun t => ?_, fun e => ?_, fun e e' h1 h2 _ => ?_, fun e h1 => ?_, fun b hb => ?_, Bel.refl _ _, fun j b hj hg => ?_⟩
  · cases t with
    | zero => rw [(harg _).1]; simpa using hv0
    | succ t =>
      have e2 : (argTS (arg :: as.map Arg.v) (as.length + 1)).tmp (t + 1) = as.getD t .any := by
        simp only [argTS, List.getElem?_cons_succ, List.getElem?_map, List.getD_eq_getElem?_getD]
        cases as[t]? <;> rfl
      rw [e2]
      simpa using hargr t
  · by_cases he : e = 0
    · subst he
      rw [(harg _).2]
      refine hob' _ rfl hG0.2 hG0.1 fun b hb => ?_
      rcases (hM b).1 hb with h1 | ⟨e, _, hl, hb⟩
      · exact .inl h1
      · exact .inr ⟨e, hl, hb⟩
    · rw [hdead e he]; trivial
  · rw [((hlive e).1 h1).1, ((hlive e').1 h2).1]
  · obtain ⟨rfl, hl⟩ := (hlive e).1 h1
    rw [hG0.1]
    refine ⟨.inr ⟨hl, rfl⟩, ?_, (hr.own d hl).2.2⟩
    rintro (h2 | ⟨e, hne, hle, hb⟩)
    · exact (hr.own d hl).2.1 h2
    · exact hne (hr.sep e d hle hl hb)
  · rcases hb with h1 | ⟨e, _, hl, rfl⟩
    · exact hr.inF b h1
    · exact (hr.own e hl).2.2
  · simp only [calleeEnv1] at hj
    split at hj
    · rename_i hc; cases hj; rw [hc.1, hG0.1]
    · cases hj

theorem take_rep {c : Ctx} {d sz : Nat} {xs : List AV} (h : ObOk c d (.arr sz xs)) (n : Nat) : ObOk c d (.arr sz (xs.take n)) := by
  obtain ⟨h0, h1, h2⟩ := h
  refine ⟨h0, fun x hx => h1 x (List.mem_of_mem_take hx), ?_⟩
  cases hκ : c.κ d with
  | none => rw [hκ] at h2; simp [h2]
  | some cap =>
    rw [hκ] at h2
    obtain ⟨vs, T, g1, g2, g3, g4⟩ := h2
    refine ⟨vs, T, g1, g2, by simp; omega, fun i j hi hj => ?_⟩
    have hi' : i < xs.length ∧ i < n := by simp at hi; omega
    have e : (xs.take n).getD i .any = xs.getD i .any := by simp [List.getElem?_take, hi'.2]
    rw [e]; exact g4 i j hi'.1 hj

/-- An object of plain data is the same in every reading that forbids no more. -/
theorem ObOk.plain {c c' : Ctx} {d d' : Nat} {o : Ob} (hp : (match o with | .box cs => AV.pure.pureL cs | .arr _ xs => AV.pure.pureL xs | .dead => true | .iter _ _ => true) = true) (hw : c'.w = c.w) (hM : ∀ b, c'.M b → c.M b) (hκ : c'.κ d' = c.κ d) (hβ : c'.β d' = c.β d) (h : ObOk c d o) : ObOk c' d' o := by
  have hmono : ∀ {v x}, Rep c v x → x.pure = true → Rep c' v x := fun hr hx => Rep.mono_pure (fun ad u hm hc => ⟨by rw [hw]; exact hc, fun h => hm (hM _ h)⟩) hr hx
  cases o with
  | dead => trivial
  | box cs =>
    obtain ⟨h0, vs, T, h1, h2, h3⟩ := h
    exact ⟨by rw [hκ]; exact h0, vs, T, by rw [hw, hβ]; exact h1, h2, fun i => hmono (h3 i) (pureL_getD cs i hp)⟩
  | arr sz xs =>
    obtain ⟨h0, h1, h2⟩ := h
    refine ⟨h0, h1, ?_⟩
    rw [hκ]
    cases hc : c.κ d with
    | none => rw [hc] at h2; exact h2
    | some cap =>
      rw [hc] at h2
      obtain ⟨vs, T, h3, h4, h5, h6⟩ := h2
      exact ⟨vs, T, by rw [hw, hβ]; exact h3, h4, h5, fun i j hi hj => hmono (h6 i j hi hj) (pureL_getD _ _ (AV.pure_cells (pureL_getD xs i hp)))⟩
  | iter l p =>
    obtain ⟨h0, s, h1, h2⟩ := h
    exact ⟨by rw [hκ]; exact h0, s, by rw [hw, hβ]; exact h1, h2⟩

/-- A CALL THAT TAKES AN ARRAY OVER. -/
theorem SpecO.callM {o : Oper} {ts : TS} {K : TS → Prop} {fop : Operand} {xs : Array Operand} {at_ : Array TypeId} (ho : o.op = .call { callee := .value fop, args := xs, argTypes := at_ })
    {f : FuncId} {caps : List AV} (hf : ts.ev fop = .clo (.func f) [] caps) {d g len sz : Nat} {zs rest as : List AV} (hvs : (xs.toList.map ts.ev) ++ caps = .os d g len :: rest) (hg : g = ts.gen d) (hob : ts.obj d = .arr sz zs) (hlen : len ≤ zs.length)
    (hpure : AV.pure.pureL zs = true) (hargs : ts.toArgs rest = some (as, [])) {r : Ret} (hcall : CallV P f (.own sz (zs.take len) :: as.map Arg.v) fun r' _ => r' = r) (hk : afterK (ts.kill d) o.dst r K) : SpecO P o ts K := by
  intro E G a w next Q hr hn
  have hvf := hr.ev fop
  rw [hf] at hvf
  have hfv : ∃ c1 : Array Value, a.eval fop = .func (.func f) #[] c1 ∧ c1.size = caps.length ∧ ∀ i, Rep (ctxOf E G ts w) (c1.getD i undef) (caps.getD i .any) := by
    generalize a.eval fop = q at hvf
    cases hvf with
    | clo _ f1 c1 _ _ p0 p1 p2 p3 =>
      have : f1 = #[] := Array.eq_empty_of_size_eq_zero (by simpa using p0)
      subst this
      exact ⟨c1, rfl, p1, p3⟩
  obtain ⟨c1, hfe, hc1, hc1r⟩ := hfv
  let vals : Array Value := xs.map a.eval ++ c1
  have hvlen : vals.toList.length = (AV.os d g len :: rest).length := by rw [← hvs]; simp [vals, hc1]
  have hvrep : ∀ i, Rep (ctxOf E G ts w) (vals.toList.getD i undef) ((AV.os d g len :: rest).getD i .any) := fun i => by
    rw [← hvs]
    simp only [vals, Array.toList_append, Array.toList_map, List.getD_eq_getElem?_getD]
    by_cases hi : i < xs.size
    · rw [List.getElem?_append_left (by simpa using hi), List.getElem?_append_left (by simpa using hi)]
      simp only [List.getElem?_map, Array.getElem?_toList]
      rw [Array.getElem?_eq_getElem hi]
      exact hr.ev _
    · rw [List.getElem?_append_right (by simp; omega), List.getElem?_append_right (by simp; omega)]
      have := hc1r (i - xs.size)
      simpa using this
  obtain ⟨v0, vs, hv0⟩ : ∃ v0 vs, vals.toList = v0 :: vs := by
    cases hv : vals.toList with
    | nil => rw [hv] at hvlen; simp at hvlen
    | cons v0 vs => exact ⟨v0, vs, rfl⟩
  rw [hv0] at hvlen hvrep
  have hvals : vals = (v0 :: vs).toArray := by rw [← hv0]
  have h00 : Rep (ctxOf E G ts w) v0 (.os d g len) := by simpa using hvrep 0
  obtain ⟨h1c, hgl, hos⟩ := rep_os h00
  have hos := hos hg (by simp [ctxOf, hob, Ob.kind])
  have hobk := hr.obj d
  rw [hob] at hobk
  have htl : (zs.take len).length = len := by simp; omega
  have hpt : AV.pure.pureL (zs.take len) = true := pureL_take zs len hpure
  have hrel' := call1_rel (io := false) (arg := .own sz (zs.take len)) (ob' := .arr sz (zs.take len)) (x0 := .os 0 0 len) (v0 := v0) hr hob (by simp [Ob.kind]) rfl (vs := vs) (rest := rest) (as := as) (by simpa using hvlen) (fun i => by simpa using hvrep (i + 1)) hargs
    (fun n => ⟨by simp [argTS, htl], by simp [argTS]⟩) (.os 0 0 len v0 h1c (Nat.zero_le _) fun _ _ => by
      unfold OsIs at hos ⊢
      simpa [ctxOf, Ghost.set] using hos)
    (fun c' hw hκ hβ hM => ObOk.plain (c := ctxOf E G ts w) (d := d) hpt hw hM hκ hβ (take_rep hobk len)) (by simp)
  have hC := hcall (calleeEnv1 E ts G w d false) (G.set 0 (G.β d) (G.κ d)) (v0 :: vs).toArray w rfl hrel' fun j => by
    constructor
    · rintro ⟨cs, hcs⟩
      cases j with
      | zero => simp at hcs
      | succ j => simp only [List.getElem?_cons_succ, List.getElem?_map] at hcs; cases hh : as[j]? <;> rw [hh] at hcs <;> simp at hcs
    · rintro ⟨b, hb⟩; simp [calleeEnv1] at hb
  have fin : ∀ (v : Value) (w' : World), Post (calleeEnv1 E ts G w d false) (fun r' _ => r' = r) (.returned v) w' → next (a.put o.dst v) w' := by
    rintro v w' ⟨v', r', io, ts', G', hv', hR, hrel, _, hret⟩
    cases hv'
    subst hR
    have hbel := hrel.bel
    have hbut : But d ts G w w' := ⟨hbel.os, hbel.tape, hbel.output, hbel.size, hbel.drawn, fun i hi hne => hbel.block i hi fun hx => hne hx.1 hx.2⟩
    have hv0' : Rep (ctxOf (calleeEnv1 E ts G w d false) G' ts' w') v (ts'.tmp 0) := by have := hrel.tmp 0; simpa using this
    cases r' with
    | val x =>
      obtain ⟨hxp, hx0⟩ := hret
      rw [hx0] at hv0'
      have hr2 := Rel.gone (d := d) hr hbut
      have hxr : Rep (ctxOf E G (ts.kill d) w') v x := by
        refine Rep.mono_pure (c := ctxOf (calleeEnv1 E ts G w d false) G' ts' w') (c' := ctxOf E G (ts.kill d) w') ?_ hv0' hxp
        intro ad u hMa hc
        refine ⟨hc, ?_⟩
        rintro (hF | ⟨e, hl, hb⟩)
        · exact hMa (.inl (.inl hF))
        · exact hMa (.inl (.inr ⟨e, (liveR_kill hl).1, (liveR_kill hl).2, hb⟩))
      simp only [afterK, setK] at hk
      cases hd : o.dst with
      | none => rw [hd] at hk; exact hn _ G _ w' hk hr2
      | some d' => rw [hd] at hk; exact hn _ G _ w' hk.2 (hr2.put hk.1 hxr)
    | own sz' ys =>
      obtain ⟨d0, g0, ht0, hg0, ho0, hp0⟩ := hret
      simp only [afterK, newArrK] at hk
      cases hd : o.dst with
      | none => rw [hd] at hk; exact hk.elim
      | some d' =>
        rw [hd] at hk
        rw [ht0] at hv0'
        obtain ⟨_, _, hos'⟩ := rep_os hv0'
        have hos' := hos' hg0.symm (by simp [ctxOf, ho0, Ob.kind])
        have hob' := hrel.obj d0
        rw [ho0] at hob'
        unfold OsIs at hos'
        have hgen : (ts.kill d).gen = ts.gen := rfl
        have hn' : d' < ts.n := hk.1
        cases hκ : (ctxOf (calleeEnv1 E ts G w d false) G' ts' w').κ d0 with
        | none =>
          rw [hκ] at hos'
          obtain ⟨h0, hsz, hrest⟩ := hob'
          rw [hκ] at hrest
          subst hrest
          obtain ⟨_, ad, rfl⟩ := hos'
          refine hn _ _ _ _ hk.2 (hr.moved (w' := w') hn' hbut (.arr sz' []) w.heap.size none (fun h => absurd rfl h) ?_ ?_)
          · refine .os d' _ _ _ rfl (by simp [ctxOf, TS.new]) fun _ _ => ?_
            unfold OsIs
            simp [ctxOf, Ghost.set]
          · refine ⟨h0, by simp, ?_⟩
            simp [ctxOf, Ghost.set]
        | some cap =>
          rw [hκ] at hos'
          obtain ⟨hv, hcap⟩ := hos'
          have hκ' : G'.κ d0 = some cap := hκ
          have hlive0 : liveR ts' G' d0 := ⟨by simp [ho0, Ob.kind], by rw [hκ']; simp⟩
          obtain ⟨hown, hnF, hlt⟩ := hrel.own d0 hlive0
          refine hn _ _ _ _ hk.2 (hr.moved (w' := w') hn' hbut (.arr sz' ys) (G'.β d0) (some cap) (fun _ => ⟨hown, hlt⟩) ?_ ?_)
          · refine .os d' _ _ _ ?_ (by simp [ctxOf, TS.new]) fun _ _ => ?_
            · rw [hv]; rfl
            · unfold OsIs
              simp only [ctxOf, Ghost.set, upd_same]
              exact ⟨hv, hcap⟩
          · refine ObOk.plain (c := ctxOf (calleeEnv1 E ts G w d false) G' ts' w') (d := d0) hp0 rfl (fun b hb => ?_) (by simp [ctxOf, Ghost.set, hκ']) (by simp [ctxOf, Ghost.set]) hob'
            rcases hb with hF | ⟨e, hl, hb⟩
            · exact .inl (.inl hF)
            · by_cases he : e = d'
              · subst he
                have : G'.β d0 = b := by simpa [Ghost.set, ctxOf] using hb
                exact .inr ⟨d0, hlive0, this⟩
              · have hl' : liveR (ts.kill d) G e := by simpa [liveR, TS.new, Ghost.set, upd, he] using hl
                have hb' : G.β e = b := by simpa [Ghost.set, upd, he] using hb
                exact .inl (.inr ⟨e, (liveR_kill hl').1, (liveR_kill hl').2, hb'⟩)
  have hexec : (execOp a.eval o).run P w = (callFunc f (v0 :: vs).toArray).run P w := by
    rw [← hvals]
    simp [execOp, ho, resolve, hfe, Deferred.ofValue, invoke, vals]
  unfold Oper.wp
  rw [hexec]
  split at hC
  · rename_i f' args' w1 heq
    rw [heq]
    show Calls P f' args' w1 _
    refine Calls.mono hC ?_
    rintro e w' ⟨v, r, io, ts', G', rfl, rest⟩
    exact fin v w' ⟨v, r, io, ts', G', rfl, rest⟩
  · rename_i v w1 heq
    rw [heq]
    exact fin v w1 hC
  · exact hC.elim

/-- A CALL THAT GETS A POINTER TO A BOX of the caller's own, and may write there. -/
theorem SpecO.callI {o : Oper} {ts : TS} {K : TS → Prop} {fop : Operand} {xs : Array Operand} {at_ : Array TypeId} (ho : o.op = .call { callee := .value fop, args := xs, argTypes := at_ })
    {f : FuncId} {caps : List AV} (hf : ts.ev fop = .clo (.func f) [] caps) {d g : Nat} {cs cs' rest as : List AV} (hvs : (xs.toList.map ts.ev) ++ caps = .ref d g 0 :: rest) (hg : g = ts.gen d) (hob : ts.obj d = .box cs)
    (hpure : AV.pure.pureL cs = true) (hargs : ts.toArgs rest = some (as, [])) {x : AV} (hcall : CallV P f (.io cs :: as.map Arg.v) fun r' io => r' = .val x ∧ io 0 = cs') (hk : setK (ts.setObj d (.box cs')) o.dst x K) : SpecO P o ts K := by
  intro E G a w next Q hr hn
  have hvf := hr.ev fop
  rw [hf] at hvf
  have hfv : ∃ c1 : Array Value, a.eval fop = .func (.func f) #[] c1 ∧ c1.size = caps.length ∧ ∀ i, Rep (ctxOf E G ts w) (c1.getD i undef) (caps.getD i .any) := by
    generalize a.eval fop = q at hvf
    cases hvf with
    | clo _ f1 c1 _ _ p0 p1 p2 p3 =>
      have : f1 = #[] := Array.eq_empty_of_size_eq_zero (by simpa using p0)
      subst this
      exact ⟨c1, rfl, p1, p3⟩
  obtain ⟨c1, hfe, hc1, hc1r⟩ := hfv
  let vals : Array Value := xs.map a.eval ++ c1
  have hvlen : vals.toList.length = (AV.ref d g 0 :: rest).length := by rw [← hvs]; simp [vals, hc1]
  have hvrep : ∀ i, Rep (ctxOf E G ts w) (vals.toList.getD i undef) ((AV.ref d g 0 :: rest).getD i .any) := fun i => by
    rw [← hvs]
    simp only [vals, Array.toList_append, Array.toList_map, List.getD_eq_getElem?_getD]
    by_cases hi : i < xs.size
    · rw [List.getElem?_append_left (by simpa using hi), List.getElem?_append_left (by simpa using hi)]
      simp only [List.getElem?_map, Array.getElem?_toList]
      rw [Array.getElem?_eq_getElem hi]
      exact hr.ev _
    · rw [List.getElem?_append_right (by simp; omega), List.getElem?_append_right (by simp; omega)]
      have := hc1r (i - xs.size)
      simpa using this
  obtain ⟨v0, vs, hv0⟩ : ∃ v0 vs, vals.toList = v0 :: vs := by
    cases hv : vals.toList with
    | nil => rw [hv] at hvlen; simp at hvlen
    | cons v0 vs => exact ⟨v0, vs, rfl⟩
  rw [hv0] at hvlen hvrep
  have hvals : vals = (v0 :: vs).toArray := by rw [← hv0]
  have h00 : Rep (ctxOf E G ts w) v0 (.ref d g 0) := by simpa using hvrep 0
  obtain ⟨h1c, hgl, hos⟩ := rep_ref h00
  have hos := hos hg (by simp [ctxOf, hob, Ob.kind])
  have hobk := hr.obj d
  rw [hob] at hobk
  have hκd : G.κ d ≠ none := hobk.1
  have hlive : liveR ts G d := ⟨by simp [hob, Ob.kind], hκd⟩
  have hrel' := call1_rel (io := true) (arg := .io cs) (ob' := .box cs) (x0 := .ref 0 0 0) (v0 := v0) hr hob (by simp [Ob.kind]) rfl (vs := vs) (rest := rest) (as := as) (by simpa using hvlen) (fun i => by simpa using hvrep (i + 1)) hargs
    (fun n => ⟨by simp [argTS], by simp [argTS]⟩) (.ref 0 0 0 v0 h1c (Nat.zero_le _) fun _ _ => by simpa [ctxOf, Ghost.set] using hos)
    (fun c' hw hκ hβ hM => ObOk.plain (c := ctxOf E G ts w) (d := d) hpure hw hM hκ hβ hobk) (fun _ => hκd)
  have hC := hcall (calleeEnv1 E ts G w d true) (G.set 0 (G.β d) (G.κ d)) (v0 :: vs).toArray w rfl hrel' fun j => by
    constructor
    · rintro ⟨cs, hcs⟩
      cases j with
      | zero => exact ⟨G.β d, by simp [calleeEnv1]⟩
      | succ j => simp only [List.getElem?_cons_succ, List.getElem?_map] at hcs; cases hh : as[j]? <;> rw [hh] at hcs <;> simp at hcs
    · rintro ⟨b, hb⟩
      cases j with
      | zero => exact ⟨cs, by simp⟩
      | succ j => simp [calleeEnv1] at hb
  have fin : ∀ (v : Value) (w' : World), Post (calleeEnv1 E ts G w d true) (fun r' io => r' = .val x ∧ io 0 = cs') (.returned v) w' → next (a.put o.dst v) w' := by
    rintro v w' ⟨v', r', io, ts', G', hv', hR, hrel, hio, hret⟩
    cases hv'
    obtain ⟨hR, hio0⟩ := hR
    subst hR
    obtain ⟨q1, q2, q3⟩ := hio 0 (G.β d) (by simp [calleeEnv1])
    rw [hio0] at q2 q3
    have hpin := hrel.pin 0 (G.β d) (by simp [calleeEnv1]) q1
    have hbel := hrel.bel
    have hbut : But d ts G w w' := ⟨hbel.os, hbel.tape, hbel.output, hbel.size, hbel.drawn, fun i hi hne => hbel.block i hi fun hx => hne hx.1 hx.2⟩
    have hv0' : Rep (ctxOf (calleeEnv1 E ts G w d true) G' ts' w') v (ts'.tmp 0) := by have := hrel.tmp 0; simpa using this
    have hob0 := hrel.obj 0
    rw [q2] at hob0
    have hlive0 : liveR ts' G' 0 := ⟨by simp [q2, Ob.kind], hob0.1⟩
    have hkd : (Ob.box cs').kind = (ts.obj d).kind := by rw [hob]; rfl
    have hM2 : ∀ b, (ctxOf E G (ts.setObj d (.box cs')) w').M b → (ctxOf (calleeEnv1 E ts G w d true) G' ts' w').M b := fun b hb => by
      rcases hb with hF | ⟨e, hl, hb⟩
      · exact .inl (.inl hF)
      · have hl' := (liveR_setObj hkd e).1 hl
        by_cases he : e = d
        · subst he; exact .inr ⟨0, hlive0, by rw [hpin]; exact hb⟩
        · exact .inl (.inr ⟨e, he, hl', hb⟩)
    have hr2 := Rel.turned (d := d) hr hbut (.box cs') hkd (by
      obtain ⟨_, us, T, h1, h2, h3⟩ := hob0
      refine ⟨hκd, us, T, ?_, h2, fun i => Rep.mono_pure (c := ctxOf (calleeEnv1 E ts G w d true) G' ts' w') (c' := ctxOf E G (ts.setObj d (.box cs')) w') (fun ad u hm hc => ⟨hc, fun h => hm (hM2 _ h)⟩) (h3 i) (pureL_getD cs' i q3)⟩
      show w'.heap[G.β d]? = _
      rw [← hpin]; exact h1)
    obtain ⟨hxp, hx0⟩ := hret
    rw [hx0] at hv0'
    have hxr : Rep (ctxOf E G (ts.setObj d (.box cs')) w') v x := Rep.mono_pure (c := ctxOf (calleeEnv1 E ts G w d true) G' ts' w') (c' := ctxOf E G (ts.setObj d (.box cs')) w') (fun ad u hm hc => ⟨hc, fun h => hm (hM2 _ h)⟩) hv0' hxp
    simp only [setK] at hk
    cases hd : o.dst with
    | none => rw [hd] at hk; exact hn _ G _ w' hk hr2
    | some d' => rw [hd] at hk; exact hn _ G _ w' hk.2 (hr2.put hk.1 hxr)
  have hexec : (execOp a.eval o).run P w = (callFunc f (v0 :: vs).toArray).run P w := by
    rw [← hvals]
    simp [execOp, ho, resolve, hfe, Deferred.ofValue, invoke, vals]
  unfold Oper.wp
  rw [hexec]
  split at hC
  · rename_i f' args' w1 heq
    rw [heq]
    show Calls P f' args' w1 _
    refine Calls.mono hC ?_
    rintro e w' ⟨v, r, io, ts', G', rfl, rest⟩
    exact fin v w' ⟨v, r, io, ts', G', rfl, rest⟩
  · rename_i v w1 heq
    rw [heq]
    exact fin v w1 hC
  · exact hC.elim

/-- A contract of a function that turns an array that is the caller's in place (f: slices.SortFunc at a plain function g). -/
def CallA (P : Program) (f g : FuncId) (sz : Nat) (zs zs' : List AV) : Prop :=
  ∀ (E : Env) (ts : TS) (G : Ghost) (a : Act) (w : World) (d : Nat) (v0 : Value), Rel E ts G a w → ts.obj d = .arr sz zs → OsIs (ctxOf E G ts w) d zs.length v0 →
    match (callFunc f #[v0, .func (.func g) #[] #[]]).run P w with
    | .ok (.enter f' args') w1 => Calls P f' args' w1 fun e w' => e = .returned (.tuple #[]) ∧ But d ts G w w' ∧ ObOk (ctxOf E G (ts.setObj d (.arr sz zs')) w') d (.arr sz zs')
    | _ => False

theorem SpecO.callA {o : Oper} {ts : TS} {K : TS → Prop} {fop : Operand} {xs : Array Operand} {at_ : Array TypeId} (ho : o.op = .call { callee := .value fop, args := xs, argTypes := at_ })
    {f : FuncId} {caps : List AV} (hf : ts.ev fop = .clo (.func f) [] caps) {d g fg sz : Nat} {zs zs' : List AV} (hvs : (xs.toList.map ts.ev) ++ caps = [.os d g zs.length, .clo (.func fg) [] []]) (hg : g = ts.gen d) (hob : ts.obj d = .arr sz zs)
    (hcall : CallA P f fg sz zs zs') (hk : setK (ts.setObj d (.arr sz zs')) o.dst (.tup []) K) : SpecO P o ts K := by
  intro E G a w next Q hr hn
  have hvf := hr.ev fop
  rw [hf] at hvf
  have hfv : ∃ c1 : Array Value, a.eval fop = .func (.func f) #[] c1 ∧ c1.size = caps.length ∧ ∀ i, Rep (ctxOf E G ts w) (c1.getD i undef) (caps.getD i .any) := by
    generalize a.eval fop = q at hvf
    cases hvf with
    | clo _ f1 c1 _ _ p0 p1 p2 p3 =>
      have : f1 = #[] := Array.eq_empty_of_size_eq_zero (by simpa using p0)
      subst this
      exact ⟨c1, rfl, p1, p3⟩
  obtain ⟨c1, hfe, hc1, hc1r⟩ := hfv
  let vals : Array Value := xs.map a.eval ++ c1
  have hvlen : vals.toList.length = 2 := by
    have e : ((xs.toList.map ts.ev) ++ caps).length = 2 := by rw [hvs]; rfl
    rw [← e]; simp [vals, hc1]
  have hvrep : ∀ i, Rep (ctxOf E G ts w) (vals.toList.getD i undef) (([.os d g zs.length, .clo (.func fg) [] []] : List AV).getD i .any) := fun i => by
    rw [← hvs]
    simp only [vals, Array.toList_append, Array.toList_map, List.getD_eq_getElem?_getD]
    by_cases hi : i < xs.size
    · rw [List.getElem?_append_left (by simpa using hi), List.getElem?_append_left (by simpa using hi)]
      simp only [List.getElem?_map, Array.getElem?_toList]
      rw [Array.getElem?_eq_getElem hi]
      exact hr.ev _
    · rw [List.getElem?_append_right (by simp; omega), List.getElem?_append_right (by simp; omega)]
      have := hc1r (i - xs.size)
      simpa using this
  obtain ⟨v0, v1, hv0⟩ : ∃ v0 v1, vals.toList = [v0, v1] := by
    match hv : vals.toList, hvlen with
    | [v0, v1], _ => exact ⟨v0, v1, rfl⟩
  rw [hv0] at hvrep
  have hvals : vals = #[v0, v1] := by
    have : vals = vals.toList.toArray := rfl
    rw [this, hv0]
  have h00 : Rep (ctxOf E G ts w) v0 (.os d g zs.length) := by simpa using hvrep 0
  have h01 : Rep (ctxOf E G ts w) v1 (.clo (.func fg) [] []) := by simpa using hvrep 1
  have hv1 : v1 = .func (.func fg) #[] #[] := by
    cases h01 with
    | clo _ f1 c1 _ _ p0 p1 p2 p3 =>
      have e1 : f1 = #[] := Array.eq_empty_of_size_eq_zero (by simpa using p0)
      have e2 : c1 = #[] := Array.eq_empty_of_size_eq_zero (by simpa using p1)
      rw [e1, e2]
  subst hv1
  obtain ⟨h1c, hgl, hos⟩ := rep_os h00
  have hos := hos hg (by simp [ctxOf, hob, Ob.kind])
  have hC := hcall E ts G a w d v0 hr hob hos
  have hexec : (execOp a.eval o).run P w = (callFunc f #[v0, .func (.func fg) #[] #[]]).run P w := by
    rw [← hvals]
    simp [execOp, ho, resolve, hfe, Deferred.ofValue, invoke, vals]
  unfold Oper.wp
  rw [hexec]
  split at hC
  · rename_i f' args' w1 heq
    rw [heq]
    show Calls P f' args' w1 _
    refine Calls.mono hC ?_
    rintro e w' ⟨rfl, hbut, hok⟩
    have hr2 := Rel.turned (d := d) hr hbut (.arr sz zs') (by rw [hob]; rfl) hok
    simp only [setK] at hk
    cases hd : o.dst with
    | none => rw [hd] at hk; exact hn _ G _ w' hk hr2
    | some d' =>
      rw [hd] at hk
      refine hn _ G _ w' hk.2 (hr2.put hk.1 ?_)
      exact .tup _ _ rfl fun i => by simpa using Rep.any _
  · exact hC.elim

end Go.Proofs.YtbggigdchkiffaaDoor.Lg

/- Slices of slices and strings; bytes of strings; closures; equality of small structs. -/
namespace Go.Proofs.YtbggigdchkiffaaDoor.Lg
set_option linter.unusedVariables false
set_option linter.unusedSimpArgs false
open Go
variable {P : Program}

/-- An operand that is a whole number, or is not there. -/
def TS.optI (ts : TS) (x : Option Operand) (dflt : Int) : Option Int :=
  match x with
  | none => some dflt
  | some y => match ts.ev y with
    | .int _ n => some n
    | _ => none

theorem optI_some {E : Env} {ts : TS} {G : Ghost} {a : Act} {w : World} (h : Rel E ts G a w) {x : Operand} {d n : Int} (hn : ts.optI (some x) d = some n) : ∃ k, a.eval x = .int k n := by
  unfold TS.optI at hn
  simp only at hn
  have := h.ev x
  split at hn
  · rename_i k m e
    cases hn
    rw [e] at this
    exact ⟨k, rep_int this⟩
  · cases hn

theorem run_bounds (isS : Bool) (w : World) {E : Env} {ts : TS} {G : Ghost} {a : Act} (h : Rel E ts G a w) (len cap : Nat) (hcap : len ≤ cap) (lo hi : Option Operand) {l u : Int} (hl : ts.optI lo 0 = some l) (hu : ts.optI hi len = some u)
    (h0 : 0 ≤ l) (h1 : l ≤ u) (h2 : u ≤ cap) : (Instr.sliceBounds isS len cap (lo.map a.eval) (hi.map a.eval) none).run P w = .ok (l.toNat, u.toNat, cap) w := by
  cases hi with
  | none =>
    simp [TS.optI] at hu
    subst hu
    cases lo with
    | none => simp [TS.optI] at hl; subst hl; simp [Instr.sliceBounds]
    | some y =>
      obtain ⟨k, hk⟩ := optI_some h hl
      have : 0 ≤ l ∧ l ≤ (len : Int) := ⟨h0, h1⟩
      simp [Instr.sliceBounds, Instr.sliceBound, asIntOf, hk, this]
  | some z =>
    obtain ⟨k', hk'⟩ := optI_some h hu
    have hc : 0 ≤ u ∧ u ≤ (cap : Int) := ⟨by omega, h2⟩
    cases lo with
    | none => simp [TS.optI] at hl; subst hl; cases isS <;> simp [Instr.sliceBounds, Instr.sliceBound, asIntOf, hk', hc]
    | some y =>
      obtain ⟨k, hk⟩ := optI_some h hl
      have hlu : 0 ≤ l ∧ l ≤ ((u.toNat : Nat) : Int) := ⟨h0, by omega⟩
      cases isS <;> simp [Instr.sliceBounds, Instr.sliceBound, asIntOf, hk, hk', hc] <;> (intro q1; have := q1 h0; omega)

theorem run_bounds3 (w : World) {E : Env} {ts : TS} {G : Ghost} {a : Act} (h : Rel E ts G a w) (len cap : Nat) (lo : Option Operand) (hi mx : Operand) {l u m : Int} (hl : ts.optI lo 0 = some l) (hu : ts.optI (some hi) len = some u) (hm : ts.optI (some mx) 0 = some m)
    (h0 : 0 ≤ l) (h1 : l ≤ u) (h2 : u ≤ m) (h3 : m ≤ cap) : (Instr.sliceBounds true len cap (lo.map a.eval) (some (a.eval hi)) (some (a.eval mx))).run P w = .ok (l.toNat, u.toNat, m.toNat) w := by
  obtain ⟨k', hk'⟩ := optI_some h hu
  obtain ⟨k'', hk''⟩ := optI_some h hm
  have hc : 0 ≤ m ∧ m ≤ (cap : Int) := ⟨by omega, h3⟩
  have hum : 0 ≤ u ∧ u ≤ ((m.toNat : Nat) : Int) := ⟨by omega, by omega⟩
  cases lo with
  | none =>
    simp [TS.optI] at hl; subst hl
    simp only [Instr.sliceBounds, Instr.sliceBound, asIntOf, hk', hk'', Sem.run_bind, Sem.run_pure, Result.andThen_ok, if_pos hc, if_pos hum, Option.map_none]
    rfl
  | some y =>
    obtain ⟨k, hk⟩ := optI_some h hl
    have hlu : 0 ≤ l ∧ l ≤ ((u.toNat : Nat) : Int) := ⟨h0, by omega⟩
    simp only [Instr.sliceBounds, Instr.sliceBound, asIntOf, hk, hk', hk'', Sem.run_bind, Sem.run_pure, Result.andThen_ok, if_pos hc, if_pos hum, if_pos hlu, Option.map_some, Option.isSome_some, if_true]

/-- A piece of a slice that nobody writes. -/
theorem Rep.piece {c : Ctx} {v : Value} {clip : Bool} {xs : List AV} (h : Rep c v (.slice clip xs)) {sz : Nat} (hsz : ∀ x ∈ xs, x.cells.length = sz) {l u m : Nat} (h1 : l ≤ u) (h2 : u ≤ xs.length) (hum : u ≤ m) (clip' : Bool) (hcl : clip' = true → m = u) :
    ∃ a cap, v = .slice a xs.length cap ∧ Rep c (.slice (if m = l then a else a.map (·.add (l * sz))) (u - l) (m - l)) (.slice clip' ((xs.take u).drop l)) := by
  have hlen : ((xs.take u).drop l).length = u - l := by simp; omega
  have hempty : u - l = 0 → (xs.take u).drop l = [] := fun e => List.eq_nil_of_length_eq_zero (by rw [hlen, e])
  cases h with
  | slice0 _ a cap hc =>
    refine ⟨a, cap, rfl, ?_⟩
    have hu0 : u = 0 := by simpa using h2
    rw [hempty (by omega)]
    rw [show u - l = 0 by omega]
    exact .slice0 clip' _ _ (fun e => by have := hcl e; omega)
  | slice _ b off cap sz' _ f p0 p1 hM hcap hclip hsz' hc hr =>
    refine ⟨_, cap, rfl, ?_⟩
    by_cases hlu : u - l = 0
    · rw [hempty hlu, hlu]
      exact .slice0 clip' _ _ (fun e => by have := hcl e; omega)
    · have : sz' = sz := by
        have hm := List.getElem_mem (List.length_pos_iff.2 p0)
        rw [← hsz' _ hm, hsz _ hm]
      subst this
      rw [if_neg (by omega)]
      simp only [Option.map_some, Addr.add0]
      have hgd : ∀ i, i < u - l → ((xs.take u).drop l).getD i .any = xs.getD (l + i) .any := fun i hi => by
        simp only [List.getD_eq_getElem?_getD, List.getElem?_drop, List.getElem?_take]
        rw [if_pos (by omega)]
      suffices key : Rep c (.slice (some ⟨b, off + l * sz', none⟩) ((xs.take u).drop l).length (m - l)) (.slice clip' ((xs.take u).drop l)) by
        rw [hlen] at key; exact key
      refine .slice clip' b (off + l * sz') (m - l) sz' _ (fun i j => if i < u - l then f (l + i) j else undef) (by intro e; rw [e] at hlen; simp at hlen; omega) p1 hM (by rw [hlen]; omega) (fun e => by rw [hlen]; have := hcl e; omega)
        (fun x hx => hsz' x (List.mem_of_mem_take (List.mem_of_mem_drop hx))) (fun i j hi hj => ?_) fun i j => ?_
      · rw [hlen] at hi
        rw [if_pos hi]
        have := hc (l + i) j (by omega) hj
        rw [Nat.add_mul] at this
        rw [show off + l * sz' + i * sz' + j = off + (l * sz' + i * sz') + j by omega]
        exact this
      · by_cases hi : i < u - l
        · rw [if_pos hi, hgd i hi]; exact hr (l + i) j
        · rw [if_neg hi]
          have : ((xs.take u).drop l).getD i .any = .any := by
            simp only [List.getD_eq_getElem?_getD]; rw [List.getElem?_eq_none (by rw [hlen]; omega)]; rfl
          rw [this]
          simp only [AV.cells]
          cases j <;> (simp; exact .any _)

theorem SpecO.sliceS {T : Tys P} {o : Oper} {ts : TS} {K : TS → Prop} {t e : TypeId} {x : Operand} {lo hi : Option Operand} (ho : o.op = .slice t x lo hi none) (ht : (T.ty t).k = .slice e) (he : (T.ty e).k ≠ .unk)
    {clip : Bool} {xs : List AV} (hx : ts.ev x = .slice clip xs) (hsz : ∀ x ∈ xs, x.cells.length = (T.ty e).sz) {l u : Int} (hl : ts.optI lo 0 = some l) (hu : ts.optI hi xs.length = some u) (h0 : 0 ≤ l) (h1 : l ≤ u) (h2 : u ≤ xs.length)
    (hk : setK ts o.dst (.slice (clip && (u == xs.length)) ((xs.take u.toNat).drop l.toNat)) K) : SpecO P o ts K :=
  SpecO.val hk fun E G a w hr => by
    have hut := Tys.slice ht
    have hv := hr.ev x
    rw [hx] at hv
    obtain ⟨ad0, cap0, hq0, hcap⟩ := sl_len (ts := ts) (xs := xs) rfl hv
    have hcapclip : clip = true → cap0 = xs.length := by
      intro ec
      rw [hq0] at hv
      generalize hqq : Value.slice ad0 xs.length cap0 = q at hv
      cases hv with
      | slice0 _ a cap hc => simp at hqq; rw [hqq.2]; simpa using hc ec
      | slice _ b off cap sz' _ f p0 p1 hM hcap' hclip => simp at hqq; rw [hqq.2]; exact hclip ec
    obtain ⟨ad, cap, hq, hrep⟩ := Rep.piece hv hsz (l := l.toNat) (u := u.toNat) (m := cap0) (by omega) (by omega) (by omega) (clip && (u == xs.length)) (fun e => by
      simp only [Bool.and_eq_true, beq_iff_eq] at e
      have := hcapclip e.1
      omega)
    have : ad = ad0 ∧ cap = cap0 := by rw [hq0] at hq; simp at hq; exact ⟨hq.1.symm, hq.2.symm⟩
    obtain ⟨rfl, rfl⟩ := this
    refine ⟨_, ?_, hrep⟩
    have hb := run_bounds (P := P) true w hr xs.length cap hcap lo hi hl hu h0 h1 (by omega)
    simp only [execOp, ho, Instr.sliceAt, Sem.run_bind, run_underlying hut, Result.andThen_ok, hq, Instr.slice, Option.map_none, hb, Tys.run_sizeOf he, Sem.run_pure]

theorem SpecO.slice3 {T : Tys P} {o : Oper} {ts : TS} {K : TS → Prop} {t e : TypeId} {x hi mx : Operand} {lo : Option Operand} (ho : o.op = .slice t x lo (some hi) (some mx)) (ht : (T.ty t).k = .slice e) (he : (T.ty e).k ≠ .unk)
    {clip : Bool} {xs : List AV} (hx : ts.ev x = .slice clip xs) (hsz : ∀ x ∈ xs, x.cells.length = (T.ty e).sz) {l u m : Int} (hl : ts.optI lo 0 = some l) (hu : ts.optI (some hi) xs.length = some u) (hm : ts.optI (some mx) 0 = some m) (h0 : 0 ≤ l) (h1 : l ≤ u) (h2 : u ≤ m) (h3 : m ≤ xs.length)
    (hk : setK ts o.dst (.slice (m == u) ((xs.take u.toNat).drop l.toNat)) K) : SpecO P o ts K :=
  SpecO.val hk fun E G a w hr => by
    have hut := Tys.slice ht
    have hv := hr.ev x
    rw [hx] at hv
    obtain ⟨ad0, cap0, hq0, hcap⟩ := sl_len (ts := ts) (xs := xs) rfl hv
    obtain ⟨ad, cap, hq, hrep⟩ := Rep.piece hv hsz (l := l.toNat) (u := u.toNat) (m := m.toNat) (by omega) (by omega) (by omega) (m == u) (fun e => by simp only [beq_iff_eq] at e; omega)
    have : ad = ad0 ∧ cap = cap0 := by rw [hq0] at hq; simp at hq; exact ⟨hq.1.symm, hq.2.symm⟩
    obtain ⟨rfl, rfl⟩ := this
    refine ⟨_, ?_, hrep⟩
    have hb := run_bounds3 (P := P) w hr xs.length cap lo hi mx hl hu hm h0 h1 h2 (by omega)
    simp only [execOp, ho, Instr.sliceAt, Sem.run_bind, run_underlying hut, Result.andThen_ok, hq, Instr.slice, Option.map_some, hb, Tys.run_sizeOf he, Sem.run_pure]

/-- The head of an array of the frame's own. -/
theorem SpecO.sliceO {T : Tys P} {o : Oper} {ts : TS} {K : TS → Prop} {t e : TypeId} {x : Operand} {lo hi : Option Operand} (ho : o.op = .slice t x lo hi none) (ht : (T.ty t).k = .slice e) (he : (T.ty e).k ≠ .unk)
    {d g len : Nat} (hx : ts.ev x = .os d g len) (hlive : ts.live d g = true) (hl : ts.optI lo 0 = some 0) {u : Int} (hu : ts.optI hi len = some u) (h1 : 0 ≤ u) (h2 : u ≤ len)
    (hk : setK ts o.dst (.os d g u.toNat) K) : SpecO P o ts K :=
  SpecO.val hk fun E G a w hr => by
    have hut := Tys.slice ht
    have hv := hr.ev x
    rw [hx] at hv
    obtain ⟨_, hg, hh⟩ := rep_os hv
    simp only [TS.live, Bool.and_eq_true, beq_iff_eq] at hlive
    have hos := hh hlive.1 (by intro e; have := hlive.2; simp [show (ts.obj d).kind = none from e] at this)
    unfold OsIs at hos
    split at hos
    · rename_i cap hκ
      have hb := run_bounds (P := P) true w hr len cap hos.2 lo hi hl hu (Int.le_refl 0) h1 (by omega)
      refine ⟨.slice (some ⟨(ctxOf E G ts w).β d, 0, none⟩) u.toNat cap, ?_, .os d g _ _ rfl hg fun _ _ => ?_⟩
      · simp only [execOp, ho, Instr.sliceAt, Sem.run_bind, run_underlying hut, Result.andThen_ok, hos.1, Instr.slice, Option.map_none, hb, Tys.run_sizeOf he, Sem.run_pure]
        simp [Addr.add0]
      · unfold OsIs; rw [hκ]; exact ⟨rfl, by omega⟩
    · rename_i hκ
      obtain ⟨h0, ad, hq⟩ := hos
      subst h0
      have hb := run_bounds (P := P) true w hr 0 0 (Nat.le_refl _) lo hi hl hu (Int.le_refl 0) h1 h2
      have hu0 : u = 0 := by simp at h2; omega
      subst hu0
      refine ⟨.slice ad 0 0, ?_, .os d g _ _ rfl hg fun _ _ => ?_⟩
      · simp only [execOp, ho, Instr.sliceAt, Sem.run_bind, run_underlying hut, Result.andThen_ok, hq, Instr.slice, Option.map_none, hb, Tys.run_sizeOf he, Sem.run_pure]
        simp
      · unfold OsIs; rw [hκ]; exact ⟨rfl, ad, rfl⟩

/-- A piece of an array of the frame's own. -/
theorem SpecO.sliceOt {T : Tys P} {o : Oper} {ts : TS} {K : TS → Prop} {t e : TypeId} {x : Operand} {lo hi mx : Option Operand} (ho : o.op = .slice t x lo hi mx) (ht : (T.ty t).k = .slice e) (he : (T.ty e).k ≠ .unk)
    {d g len : Nat} {xs : List AV} (hx : ts.ev x = .os d g len) (hg : g = ts.gen d) (hob : ts.obj d = .arr (T.ty e).sz xs) {l u : Int} (hl : ts.optI lo 0 = some l) (hu : ts.optI hi len = some u) (h0 : 0 ≤ l) (h1 : l ≤ u) (h2 : u ≤ xs.length)
    (hm : ∀ m, mx = some m → hi.isSome = true ∧ ∃ n, ts.optI (some m) 0 = some n ∧ u ≤ n ∧ n ≤ xs.length)
    (hk : setK ts o.dst (.ot d g l.toNat (u.toNat - l.toNat)) K) : SpecO P o ts K :=
  SpecO.val hk fun E G a w hr => by
    have hut := Tys.slice ht
    have hv := hr.ev x
    rw [hx] at hv
    obtain ⟨_, hgl, hh⟩ := rep_os hv
    have hos := hh hg (by simp [ctxOf, hob, Ob.kind])
    have hobk := hr.obj d
    rw [hob] at hobk
    obtain ⟨_, _, hrest⟩ := hobk
    unfold OsIs at hos
    have main : ∃ ad cap, a.eval x = .slice ad len cap ∧ len ≤ cap ∧ xs.length ≤ cap ∧ (0 < xs.length → ad = some ⟨G.β d, 0, none⟩ ∧ G.κ d = some cap) := by
      cases hκ : (ctxOf E G ts w).κ d with
      | none =>
        rw [hκ] at hos hrest
        obtain ⟨hl0, ad, hq⟩ := hos
        subst hrest hl0
        exact ⟨ad, 0, hq, Nat.le_refl _, Nat.le_refl _, fun h => by simp at h⟩
      | some cap =>
        rw [hκ] at hos hrest
        obtain ⟨vs, tt, _, _, hfit, _⟩ := hrest
        exact ⟨_, cap, hos.1, hos.2, hfit, fun _ => ⟨rfl, hκ⟩⟩
    obtain ⟨ad, cap, hq, hlc, hxc, hreal⟩ := main
    have hb : ∃ mm : Nat, u.toNat ≤ mm ∧ mm ≤ cap ∧ (Instr.sliceBounds true len cap (lo.map a.eval) (hi.map a.eval) (mx.map a.eval)).run P w = .ok (l.toNat, u.toNat, mm) w := by
      cases hmx : mx with
      | none => exact ⟨cap, by omega, Nat.le_refl _, run_bounds (P := P) true w hr len cap hlc lo hi hl hu h0 h1 (by omega)⟩
      | some m =>
        obtain ⟨his, n, hn, hun, hnx⟩ := hm m hmx
        obtain ⟨hh', rfl⟩ := Option.isSome_iff_exists.1 his
        exact ⟨n.toNat, by omega, by omega, run_bounds3 (P := P) w hr len cap lo hh' m hl hu hn h0 h1 hun (by omega)⟩
    obtain ⟨mm, hm1, hm2, hb⟩ := hb
    refine ⟨.slice (if mm = l.toNat then ad else ad.map (·.add (l.toNat * (T.ty e).sz))) (u.toNat - l.toNat) (mm - l.toNat), ?_, .ot d g _ _ _ rfl hgl fun sz _ hk' => ?_⟩
    · simp only [execOp, ho, Instr.sliceAt, Sem.run_bind, run_underlying hut, Result.andThen_ok, hq, Instr.slice, hb, Tys.run_sizeOf he, Sem.run_pure]
    · have hsz : sz = (T.ty e).sz := by simp [ctxOf, hob, Ob.kind] at hk'; exact hk'.symm
      subst hsz
      refine ⟨_, _, rfl, by omega, fun hpos => ?_⟩
      obtain ⟨had, hκ⟩ := hreal (by omega)
      subst had
      refine ⟨by rw [if_neg (by omega)]; simp [ctxOf, Addr.add0], cap, hκ, by omega⟩

/-- What a cleared piece of an array holds. -/
def zeroA (k : TyK) (zs : List AV) : AV := if k.agg then .agg zs else zs.getD 0 .any
def clrL (xs : List AV) (off len : Nat) (z : AV) : List AV := xs.take off ++ List.replicate len z ++ xs.drop (off + len)

theorem SpecO.clear {T : Tys P} {o : Oper} {ts : TS} {K : TS → Prop} {t e : TypeId} {x : Operand} (ho : o.op = .call { callee := .builtin .clear, args := #[x], argTypes := #[t] }) (ht : (T.ty t).k = .slice e) (he : (T.ty e).k ≠ .unk) (h0 : 0 < (T.ty e).sz)
    {d g off len : Nat} {xs : List AV} (hx : ts.ev x = .ot d g off len) (hg : g = ts.gen d) (hob : ts.obj d = .arr (T.ty e).sz xs) (hfits : off + len ≤ xs.length) (hd : o.dst = none)
    (hz : (zeroA (T.ty e).k (T.ty e).zero).cells = (T.ty e).zero) (hz1 : (T.ty e).zero.all AV.one = true)
    (hk : K (ts.setObj d (.arr (T.ty e).sz (clrL xs off len (zeroA (T.ty e).k (T.ty e).zero))))) : SpecO P o ts K := by
  intro E G a w next Q hr hnext
  have hut := Tys.slice ht
  obtain ⟨ti, hi, hsz, hby, ⟨z, hzv, hzm, hzs⟩, _⟩ := Tys.get (T := T) he
  obtain ⟨hzsz, hzr⟩ := rep_zero (c := ctxOf E G ts w) hzm
  have hzl : (T.ty e).zero.length = (T.ty e).sz := by rw [← hzsz, hzs, hsz]
  have hv := hr.ev x
  rw [hx] at hv
  obtain ⟨_, hgl, hh⟩ := rep_ot hv
  obtain ⟨ad, cap', hq, hcap', hp⟩ := hh (T.ty e).sz hg (by simp [ctxOf, hob, Ob.kind])
  have hex : ∀ w', (Builtin.clear_ #[t] o.type #[.slice ad len cap']).run P w = .ok (.tuple #[]) w' → (execOp a.eval o).run P w = .ok (.value (.tuple #[])) w' := fun w' h => by
    simp [execOp, ho, resolve, invoke, builtin, hq, h]
  unfold Oper.wp
  rcases Nat.eq_zero_or_pos len with hl0 | hpos
  · subst hl0
    rw [hex w (by cases ad <;> simp [Builtin.clear_, run_underlying hut])]
    show next (a.put o.dst _) w
    rw [hd]
    refine hnext _ G _ _ hk ?_
    have e1 : ts.setObj d (.arr (T.ty e).sz (clrL xs off 0 (zeroA (T.ty e).k (T.ty e).zero))) = ts := by
      have : clrL xs off 0 (zeroA (T.ty e).k (T.ty e).zero) = xs := by simp [clrL]
      rw [this]
      simp only [TS.setObj]
      cases ts
      simp only at hob
      congr 1
      funext q
      by_cases hq : q = d
      · subst hq; simp [hob]
      · simp [upd, hq]
    rw [e1]
    exact hr
  · obtain ⟨had, cap, hκ, hfc⟩ := hp hpos
    subst had
    have hobk := hr.obj d
    rw [hob] at hobk
    obtain ⟨_, hszs, hrest⟩ := hobk
    rw [hκ] at hrest
    obtain ⟨vs, et, hheap, hsize, hfit, hcell⟩ := hrest
    have hκ' : G.κ d = some cap := hκ
    have hlive : liveR ts G d := ⟨by simp [hob, Ob.kind], by rw [hκ']; simp⟩
    have hzc : (Builtin.zeroCells z.cells len).toList.length = len * (T.ty e).sz := by
      have := size_zeroCells z.cells len
      simp only [Array.length_toList, this, hzs, hsz]
    have hspl : off * (T.ty e).sz + (Builtin.zeroCells z.cells len).toList.length ≤ vs.toList.length := by
      rw [hzc, ← Nat.add_mul, Array.length_toList, hsize]
      exact Nat.mul_le_mul_right _ hfc
    have hone : ∀ v ∈ (Builtin.zeroCells z.cells len).toList, v.oneCell' = true := fun v hv => by
      have hzz : ∀ v ∈ z.cells.toList, v.oneCell' = true := fun v hv => by
        refine (rep_ofV (ctxOf E G ts w) v).one ?_
        have : ofV v ∈ (T.ty e).zero := by rw [← hzm]; exact List.mem_map_of_mem hv
        exact List.all_eq_true.1 hz1 _ this
      unfold Builtin.zeroCells at hv
      simp only [Array.toList_map, List.mem_map] at hv
      obtain ⟨p, _, rfl⟩ := hv
      have hpos' : 0 < z.cells.size := by rw [hzs, hsz]; exact h0
      have hlt := Nat.mod_lt p hpos'
      rw [getElem!_pos z.cells _ hlt]
      exact hzz _ (by simp)
    have hst := run_storeCells_at P (G.β d) (off * (T.ty e).sz) et (Builtin.zeroCells z.cells len).toList 0 vs w hheap (by simpa using hspl) hone
    simp only [Nat.add_zero] at hst
    have hzval : ∀ w, (zeroValue e).run P w = .ok z w := fun w => by simp [zeroValue, typeInfo, hi, hzv]
    obtain ⟨m, rfl⟩ : ∃ m, len = m + 1 := ⟨len - 1, by omega⟩
    rw [hex (w.setRow (G.β d) (vs.toList.take (off * (T.ty e).sz) ++ (Builtin.zeroCells z.cells (m + 1)).toList ++ vs.toList.drop (off * (T.ty e).sz + (Builtin.zeroCells z.cells (m + 1)).toList.length)).toArray) (by simp [Builtin.clear_, run_underlying hut, hzval, ctxOf, hst])]
    show next (a.put o.dst _) _
    rw [hd]
    have hcl : (zeroA (T.ty e).k (T.ty e).zero).cells.length = (T.ty e).sz := by rw [hz, hzl]
    have hlen2 : (clrL xs off (m + 1) (zeroA (T.ty e).k (T.ty e).zero)).length = xs.length := by
      have := splice_length xs (List.replicate (m + 1) (zeroA (T.ty e).k (T.ty e).zero)) off (by simpa using hfits)
      simpa [clrL] using this
    refine hnext _ G _ _ hk (hr.setObj (w' := (w.setRow (G.β d) (vs.toList.take (off * (T.ty e).sz) ++ (Builtin.zeroCells z.cells (m + 1)).toList ++ vs.toList.drop (off * (T.ty e).sz + (Builtin.zeroCells z.cells (m + 1)).toList.length)).toArray)) d _ (by simp [hob, Ob.kind]) hlive rfl rfl rfl (by simp [World.setRow]) (fun i hi => setRow_other w _ i _ hi) ?_)
    have hle := le_setObj E G ts w (w.setRow (G.β d) (vs.toList.take (off * (T.ty e).sz) ++ (Builtin.zeroCells z.cells (m + 1)).toList ++ vs.toList.drop (off * (T.ty e).sz + (Builtin.zeroCells z.cells (m + 1)).toList.length)).toArray) d (.arr (T.ty e).sz (clrL xs off (m + 1) (zeroA (T.ty e).k (T.ty e).zero))) (by simp [hob, Ob.kind]) hlive (fun i hi => setRow_other w _ i _ hi)
    refine ⟨h0, fun q hq' => ?_, ?_⟩
    · unfold clrL at hq'
      rcases List.mem_append.1 hq' with hq' | hq'
      · rcases List.mem_append.1 hq' with hq' | hq'
        · exact hszs q (List.mem_of_mem_take hq')
        · rw [List.eq_of_mem_replicate hq']; exact hcl
      · exact hszs q (List.mem_of_mem_drop hq')
    · show match G.κ d with | none => _ | some cap => _
      rw [hκ']
      refine ⟨_, et, setRow_heap w _ vs _ et _ hheap, ?_, by rw [hlen2]; exact hfit, fun i j hi hj => ?_⟩
      · simp only [List.size_toArray, splice_length _ _ _ hspl]; simpa using hsize
      · rw [hlen2] at hi
        have eA : ∀ (l : List Value) (k : Nat), l.toArray.getD k undef = l.getD k undef := fun l k => by simp
        rw [eA, splice_getD _ _ _ _ _ hspl]
        have eC : (clrL xs off (m + 1) (zeroA (T.ty e).k (T.ty e).zero)).getD i .any = if off ≤ i ∧ i < off + (m + 1) then zeroA (T.ty e).k (T.ty e).zero else xs.getD i .any := by
          have := splice_getD xs (List.replicate (m + 1) (zeroA (T.ty e).k (T.ty e).zero)) off i .any (by simpa using hfits)
          simp only [List.length_replicate] at this
          unfold clrL
          rw [this]
          split
          · rename_i hc
            simp [show i - off < m + 1 by omega]
          · rfl
        rw [eC]
        have hm1 : off * (T.ty e).sz ≤ i * (T.ty e).sz + j ↔ off ≤ i := by
          constructor
          · intro h
            by_cases hc : off ≤ i
            · exact hc
            · have : (i + 1) * (T.ty e).sz ≤ off * (T.ty e).sz := Nat.mul_le_mul_right _ (by omega)
              rw [Nat.add_mul, Nat.one_mul] at this
              omega
          · intro h
            have := Nat.mul_le_mul_right (T.ty e).sz h
            omega
        have hm2 : i * (T.ty e).sz + j < off * (T.ty e).sz + (Builtin.zeroCells z.cells (m + 1)).toList.length ↔ i < off + (m + 1) := by
          rw [hzc, ← Nat.add_mul]
          constructor
          · intro h
            by_cases hc : i < off + (m + 1)
            · exact hc
            · have := Nat.mul_le_mul_right (T.ty e).sz (show off + (m + 1) ≤ i by omega)
              omega
          · intro h; exact row_lt h (Nat.le_refl _) hj
        by_cases hin : off ≤ i ∧ i < off + (m + 1)
        · rw [if_pos ⟨hm1.2 hin.1, hm2.2 hin.2⟩, if_pos hin]
          have e2 : i * (T.ty e).sz + j - off * (T.ty e).sz = (i - off) * (T.ty e).sz + j := by
            have := Nat.mul_le_mul_right (T.ty e).sz hin.1
            rw [Nat.sub_mul]; omega
          have e3 : (Builtin.zeroCells z.cells (m + 1)).toList.getD ((i - off) * (T.ty e).sz + j) undef = z.cells.getD j undef := by
            have hlt : (i - off) * (T.ty e).sz + j < (m + 1) * z.cells.size := by rw [hzs, hsz]; exact row_lt (by omega) (Nat.le_refl _) hj
            have hjz : j < z.cells.size := by rw [hzs, hsz]; exact hj
            have hmod : ((i - off) * (T.ty e).sz + j) % z.cells.size = j := by
              rw [hzs, hsz, Nat.mul_add_mod_self_right]; exact Nat.mod_eq_of_lt hj
            simp [Builtin.zeroCells, hlt, hmod, hjz]
          rw [e2, e3, hz]
          exact (hzr j).mono hle
        · rw [if_neg (fun h => hin ⟨hm1.1 h.1, hm2.1 h.2⟩), if_neg hin]
          have := (hcell i j hi hj).mono hle
          simpa using this

/-- A piece of a string. -/
theorem SpecO.sliceStr {T : Tys P} {o : Oper} {ts : TS} {K : TS → Prop} {t : TypeId} {x : Operand} {lo hi : Option Operand} (ho : o.op = .slice t x lo hi none) (ht : (T.ty t).k = .str)
    {s : List UInt8} (hx : ts.ev x = .str s) {l u : Int} (hl : ts.optI lo 0 = some l) (hu : ts.optI hi s.length = some u) (h0 : 0 ≤ l) (h1 : l ≤ u) (h2 : u ≤ s.length)
    (hk : setK ts o.dst (.str ((s.take u.toNat).drop l.toNat)) K) : SpecO P o ts K :=
  SpecO.val hk fun E G a w hr => by
    have hut := Tys.strT ht
    have hv := hr.ev x
    rw [hx] at hv
    obtain ⟨b, hq, rfl⟩ := rep_str hv
    have hlen : b.data.toList.length = b.size := by cases b; rfl
    rw [hlen] at hu h2
    have hb := run_bounds (P := P) false w hr b.size b.size (Nat.le_refl _) lo hi hl hu h0 h1 h2
    refine ⟨.string (b.extract l.toNat u.toNat), ?_, .str _ _ ?_⟩
    · simp only [execOp, ho, Instr.sliceAt, Sem.run_bind, run_underlying hut, Result.andThen_ok, hq, Instr.slice, Option.map_none]
      simp only [Option.isSome_none, Bool.false_eq_true, if_false]
      rw [show (do
        let __discr ← Instr.sliceBounds false b.size b.size (Option.map a.eval lo) (Option.map a.eval hi) none
        match __discr with
        | (l, h, _) => pure (Value.string (b.extract l h)) : Sem Value) = (Instr.sliceBounds false b.size b.size (Option.map a.eval lo) (Option.map a.eval hi) none >>= fun r => pure (Value.string (b.extract r.1 r.2.1))) from rfl]
      rw [Sem.run_bind, hb]
      rfl
    · simp [ByteArray.data_extract, Array.toList_extract, List.extract_eq_take_drop, List.drop_take]

/-- A byte of a string. -/
theorem SpecO.indexStr {T : Tys P} {o : Oper} {ts : TS} {K : TS → Prop} {t : TypeId} {x i : Operand} (ho : o.op = .index t x i) (ht : (T.ty t).k = .str)
    {s : List UInt8} (hx : ts.ev x = .str s) {k : IntKind} {n : Int} (hi : ts.ev i = .int k n) (h0 : 0 ≤ n) (h1 : n < s.length)
    (hk : setK ts o.dst (.int .u8 (s.getD n.toNat 0).toNat) K) : SpecO P o ts K :=
  SpecO.val hk fun E G a w hr => by
    have hut := Tys.strT ht
    have hv := hr.ev x
    rw [hx] at hv
    obtain ⟨b, hq, rfl⟩ := rep_str hv
    have hvi := hr.ev i
    rw [hi] at hvi
    have hlen : b.data.toList.length = b.size := by cases b; rfl
    rw [hlen] at h1
    have hlt : n.toNat < b.size := by omega
    refine ⟨.int .u8 (b[n.toNat]).toNat, ?_, ?_⟩
    · simp [execOp, ho, Instr.index, hq, rep_int hvi, asIntOf, run_underlying hut, h0, hlt]
    · have : b.data.toList.getD n.toNat 0 = b[n.toNat] := by
        have h2 : n.toNat < b.data.toList.length := by omega
        simp only [List.getD_eq_getElem?_getD, List.getElem?_eq_getElem h2, Option.getD_some]
        rfl
      rw [this]; exact .int _ _

/-! ### Closures -/
def frzR (d g : Nat) (cs : List AV) : AV → AV
  | .ref d' g' off => if d' = d ∧ g' = g ∧ off < cs.length then .ro (cs.drop off) else .ref d' g' off
  | x => x

/-- A box that nobody writes any more. -/
def TS.frzBox (ts : TS) (d : Nat) : TS :=
  match ts.obj d with
  | .box cs => { ts with tmp := fun t => frzR d (ts.gen d) cs (ts.tmp t), obj := upd ts.obj d .dead }
  | _ => ts

theorem Rel.frzBox {E : Env} {ts : TS} {G : Ghost} {a : Act} {w : World} (h : Rel E ts G a w) (d : Nat) : Rel E (ts.frzBox d) G a w := by
  unfold TS.frzBox
  split
  · rename_i cs ho
    have hk := h.kill d
    have hle := le_kill E G ts w d
    refine ⟨hk.size, hk.defers, fun t => ?_, hk.obj, hk.sep, hk.own, hk.inF, hk.bel, hk.pin⟩
    show Rep (ctxOf E G (ts.kill d) w) _ (frzR d (ts.gen d) cs (ts.tmp t))
    have ht := h.tmp t
    have ht' := hk.tmp t
    show Rep _ _ (frzR d (ts.gen d) cs (ts.tmp t))
    generalize hx : ts.tmp t = x at ht
    have hx' : (ts.kill d).tmp t = x := hx
    rw [hx'] at ht'
    cases x with
    | ref d' g' off =>
      simp only [frzR]
      split
      · rename_i hc
        obtain ⟨rfl, rfl, hoff⟩ := hc
        obtain ⟨_, _, hh⟩ := rep_ref ht
        have hv := hh rfl (by simp [ctxOf, ho, Ob.kind])
        have hob := h.obj d'
        rw [ho] at hob
        obtain ⟨hκ, vs, T, hheap, hsize, hcell⟩ := hob
        have hlive : liveR ts G d' := ⟨by simp [ho, Ob.kind], hκ⟩
        rw [hv]
        refine .ro _ off _ (fun j => vs.getD (off + j) undef) (by intro e; have := congrArg List.length e; simp at this; omega) ?_ (fun j hj => ?_) fun j => ?_
        · rintro (hF | ⟨e, he, hb⟩)
          · exact (h.own d' hlive).2.1 hF
          · obtain ⟨hne, hl⟩ := liveR_kill he
            exact hne (h.sep e d' hl hlive hb)
        · simp only [List.length_drop] at hj
          exact cell_of hheap (by omega)
        · have := (hcell (off + j)).mono hle
          simpa [List.getElem?_drop] using this
      · exact ht'
    | _ => exact ht'
  · exact h

theorem SpecO.frz {o : Oper} {ts : TS} {K : TS → Prop} (d : Nat) (h : SpecO P o (ts.frzBox d) K) : SpecO P o ts K :=
  fun E G a w next Q hr hn => h E G a w next Q (hr.frzBox d) hn

theorem SpecO.makeFunc {o : Oper} {ts : TS} {K : TS → Prop} {fn : Fn} {first caps : Array Operand} (ho : o.op = .makeFunc fn first caps) (hk : setK ts o.dst (.clo fn (first.toList.map ts.ev) (caps.toList.map ts.ev)) K) : SpecO P o ts K :=
  SpecO.val hk fun E G a w hr => by
    have hl : ∀ (l : Array Operand) (i : Nat), Rep (ctxOf E G ts w) ((l.map a.eval).getD i undef) ((l.toList.map ts.ev).getD i .any) := fun l i => by
      simp only [Array.getD_eq_getD_getElem?, Array.getElem?_map, List.getD_eq_getElem?_getD, List.getElem?_map, Array.getElem?_toList]
      cases l[i]? with
      | none => exact .any _
      | some x => exact hr.ev x
    exact ⟨.func fn (first.map a.eval) (caps.map a.eval), by simp [execOp, ho, Instr.makeFunc], .clo _ _ _ _ _ (by simp) (by simp) (hl first) (hl caps)⟩

/-! ### Equality of structs whose fields are whole numbers, bools and strings -/
def eqF (k : TyK) (x y : AV) : Option Bool :=
  match k, x, y with
  | .int _, .int k a, .int k' b => if k = k' then some (decide (a = b)) else none
  | .bool, .bool a, .bool b => some (decide (a = b))
  | .str, .str a, .str b => some (decide (a = b))
  | _, _, _ => none

def eqFs (T : Tys P) (xs ys : List AV) : List (Nat × Nat × String) → Option Bool
  | [] => some true
  | f :: r => if f.2.2 = "_" then none else
    match eqF (T.ty f.2.1).k (xs.getD f.1 .any) (ys.getD f.1 .any), eqFs T xs ys r with
    | some b, some c => some (b && c)
    | _, _ => none

def eqS (T : Tys P) (fs : List (Nat × Nat × String)) (op : BinOp) (x y : AV) : Option Bool :=
  match op, x, y with
  | .eql, .agg xs, .agg ys => eqFs T xs ys fs
  | .neq, .agg xs, .agg ys => (eqFs T xs ys fs).map (!·)
  | _, _, _ => none

theorem run_part {T : Tys P} {t off : Nat} {vs : Array Value} {v : Value} (ht : (T.ty t).k ≠ .unk) (ha : (T.ty t).k.agg = false) (hv : vs.getD off undef = v) (hd : v ≠ undef) (w : World) : (part t vs off).run P w = .ok v w := by
  have h1 : vs[off]? = some v := by
    rw [Array.getD_eq_getD_getElem?] at hv
    cases h : vs[off]? with
    | some u => rw [h] at hv; simpa using hv
    | none => rw [h] at hv; exact absurd hv.symm hd
  simp only [part, Sem.run_bind, Tys.run_isAgg ht, Result.andThen_ok, ha, Bool.false_eq_true, if_false, h1, Sem.run_pure]

theorem beq_str {s s' : ByteArray} {l l' : List UInt8} (h : s.data.toList = l) (h' : s'.data.toList = l') : (s.toList == s'.toList) = decide (l = l') := by
  rw [ByteArray.toList_eq, ByteArray.toList_eq]
  subst h h'
  exact Bool.eq_iff_iff.2 (by simp)

theorem run_eqF {T : Tys P} {c : Ctx} {t : Nat} {v u : Value} {x y : AV} {b : Bool} (hx : Rep c v x) (hy : Rep c u y) (h : eqF (T.ty t).k x y = some b) (w : World) (d : Nat) :
    (Op.equalIn (d + 1) t v u).run P w = .ok b w ∧ (T.ty t).k ≠ .unk ∧ (T.ty t).k.agg = false ∧ v ≠ undef ∧ u ≠ undef := by
  unfold eqF at h
  split at h
  · rename_i k k1 a k2 b' hk
    split at h
    rotate_left
    · cases h
    rename_i hkk
    subst hkk
    cases h
    obtain ⟨ti, _, _, _, _, de, h1, h2⟩ := Tys.get (T := T) (t := t) (by rw [hk]; simp)
    rw [hk] at h2
    have hd : ∃ k', de = .int k' := by cases de <;> simp [descK] at h2 <;> exact ⟨_, rfl⟩
    obtain ⟨k', rfl⟩ := hd
    rw [rep_int hx, rep_int hy]
    exact ⟨by rw [run_equalIn_int w d t k1 k' a b' h1]; rfl, by rw [hk]; simp, by rw [hk]; rfl, by simp [undef], by simp [undef]⟩
  · rename_i a b' hk
    cases h
    rw [rep_bool hx, rep_bool hy]
    exact ⟨by rw [run_equalIn_bool' w d t a b' (Tys.boolT hk)]; rfl, by rw [hk]; simp, by rw [hk]; rfl, by simp [undef], by simp [undef]⟩
  · rename_i a b' hk
    cases h
    obtain ⟨s, rfl, hs⟩ := rep_str hx
    obtain ⟨s', rfl, hs'⟩ := rep_str hy
    exact ⟨by rw [run_equalIn_string w d t s s' (Tys.strT hk), beq_str hs hs'], by rw [hk]; simp, by rw [hk]; rfl, by simp [undef], by simp [undef]⟩
  · cases h

theorem run_eqFs {T : Tys P} {c : Ctx} {vs us : Array Value} {xs ys : List AV} (hx : ∀ i, Rep c (vs.getD i undef) (xs.getD i .any)) (hy : ∀ i, Rep c (us.getD i undef) (ys.getD i .any)) (w : World) (d : Nat) :
    ∀ (l : List Field) (b : Bool), eqFs T xs ys (l.map fun f => (f.offset, f.type, f.name)) = some b → (Op.eqFields (d + 1) vs us l).run P w = .ok b w
  | [], b, h => by simp [eqFs] at h; subst h; rfl
  | f :: r, b, h => by
    simp only [List.map_cons, eqFs] at h
    split at h
    · cases h
    · rename_i hne
      split at h
      · rename_i b1 c1 h1 h2
        cases h
        obtain ⟨e1, e2, e3, e4, e5⟩ := run_eqF (hx f.offset) (hy f.offset) h1 w d
        have ih := run_eqFs hx hy w d r c1 h2
        simp only [Op.eqFields, hne, ne_eq, not_false_eq_true, if_true, Sem.run_bind, run_part e2 e3 rfl e4, run_part e2 e3 rfl e5, Result.andThen_ok, e1]
        cases b1
        · simp
        · simpa using ih
      · cases h

theorem SpecO.eqS {T : Tys P} {o : Oper} {ts : TS} {K : TS → Prop} {op : BinOp} {t u : TypeId} {x y : Operand} (ho : o.op = .binOp op t x y u) {fs : List (Nat × Nat × String)} (hk : (T.ty t).k = .struct fs)
    (hg : P.eqGuardType P.depth t = false) (hs : P.stoodInHeld t = false) {r : Bool} (hb : Lg.eqS T fs op (ts.ev x) (ts.ev y) = some r) (hK : setK ts o.dst (.bool r) K) : SpecO P o ts K :=
  SpecO.val hK fun E G a w hr => by
    have hx := hr.ev x
    have hy := hr.ev y
    obtain ⟨fd, hu, hfd⟩ := Tys.structT hk
    have hfo : P.underlying t = some (.struct (P.fieldsOf t)) := by rw [hu]; simp [Program.fieldsOf, hu]
    have hfo2 : P.fieldsOf t = fd := by simp [Program.fieldsOf, hu]
    unfold Lg.eqS at hb
    refine ⟨.bool r, ?_, .bool r⟩
    split at hb
    · rename_i xs ys e1 e2
      rw [e1] at hx; rw [e2] at hy
      obtain ⟨vs, hv, _, hv3⟩ := rep_agg hx
      obtain ⟨us, hu1, _, hu3⟩ := rep_agg hy
      have := run_eqFs (P := P) (T := T) hv3 hu3 w 9998 fd.toList r (by rw [hfd]; exact hb)
      simp only [execOp, ho, hv, hu1]
      simp only [Sem.run_bind, run_eqGuard_agg _ _ _ _ _ _ _ hg, Result.andThen_ok, run_eql_struct, show (10000 : Nat) = 9999 + 1 from rfl, run_equalIn_agg w 9999 t vs us hfo hs, hfo2, this]
      rfl
    · rename_i xs ys e1 e2
      rw [e1] at hx; rw [e2] at hy
      obtain ⟨vs, hv, _, hv3⟩ := rep_agg hx
      obtain ⟨us, hu1, _, hu3⟩ := rep_agg hy
      obtain ⟨r', hb1, rfl⟩ := Option.map_eq_some_iff.1 hb
      have := run_eqFs (P := P) (T := T) hv3 hu3 w 9998 fd.toList r' (by rw [hfd]; exact hb1)
      simp only [execOp, ho, hv, hu1]
      simp only [Sem.run_bind, run_eqGuard_agg _ _ _ _ _ _ _ hg, Result.andThen_ok, run_neq_struct, show (10000 : Nat) = 9999 + 1 from rfl, run_equalIn_agg w 9999 t vs us hfo hs, hfo2, this]
      rfl
    · cases hb

theorem beq_eq_decide_bool (p q : Bool) : (p == q) = decide (p = q) := rfl

def eqB (op : BinOp) (x y : AV) : Option Bool :=
  match op, x, y with
  | .eql, .bool a, .bool b => some (decide (a = b))
  | .neq, .bool a, .bool b => some (decide (a ≠ b))
  | _, _, _ => none

theorem SpecO.eqB {T : Tys P} {o : Oper} {ts : TS} {K : TS → Prop} {op : BinOp} {t u : TypeId} {x y : Operand} (ho : o.op = .binOp op t x y u) (hk : (T.ty t).k = .bool)
    {r : Bool} (hb : Lg.eqB op (ts.ev x) (ts.ev y) = some r) (hK : setK ts o.dst (.bool r) K) : SpecO P o ts K :=
  SpecO.val hK fun E G a w hr => by
    have hx := hr.ev x
    have hy := hr.ev y
    unfold Lg.eqB at hb
    refine ⟨.bool r, ?_, .bool r⟩
    have key : ∀ p q : Bool, (Op.equalIn 10000 t (.bool p) (.bool q)).run P w = .ok (p == q) w := fun p q => run_equalIn_bool' w 9999 t p q (Tys.boolT hk)
    split at hb
    · rename_i p q e1 e2
      rw [e1] at hx; rw [e2] at hy
      cases hb
      simp only [execOp, ho, rep_bool hx, rep_bool hy]
      simp [eqGuard, binOp, Op.equal, Op.maxDepth, key, beq_eq_decide_bool]
    · rename_i p q e1 e2
      rw [e1] at hx; rw [e2] at hy
      cases hb
      simp only [execOp, ho, rep_bool hx, rep_bool hy]
      simp [eqGuard, binOp, Op.equal, Op.maxDepth, key, beq_eq_decide_bool]
    · cases hb

end Go.Proofs.YtbggigdchkiffaaDoor.Lg

/- The operations as one computed transformer, and the steps of a proof by it. -/
namespace Go.Proofs.YtbggigdchkiffaaDoor.Lg
set_option linter.unusedVariables false
set_option linter.unusedSimpArgs false
open Go
variable {P : Program}

def loadK (T : Tys P) (t : Nat) (cs : List AV) (ts : TS) (dst : Option Nat) (K : TS → Prop) : Prop :=
  match (T.ty t).k with
  | .unk => False
  | k => (if k.agg then (T.ty t).sz else 1) ≤ cs.length ∧ setK ts dst (if k.agg then .agg (cs.take (T.ty t).sz) else cs.getD 0 .any) K

def optK {α : Type} (x : Option α) (K : α → Prop) : Prop :=
  match x with
  | some a => K a
  | none => False

theorem optK_some {α : Type} {x : Option α} {K : α → Prop} (h : optK x K) : ∃ a, x = some a ∧ K a := by
  cases x with
  | none => exact h.elim
  | some a => exact ⟨a, rfl, h⟩

def boolK (x : AV) (K : Bool → Prop) : Prop :=
  match x with
  | .bool b => K b
  | _ => False

theorem boolK_some {x : AV} {K : Bool → Prop} (h : boolK x K) : ∃ b, x = .bool b ∧ K b := by
  cases x <;> first | exact h.elim | exact ⟨_, rfl, h⟩

def intK (x : AV) (K : IntKind → Int → Prop) : Prop :=
  match x with
  | .int k n => K k n
  | _ => False

theorem intK_some {x : AV} {K : IntKind → Int → Prop} (h : intK x K) : ∃ k n, x = .int k n ∧ K k n := by
  cases x <;> first | exact h.elim | exact ⟨_, _, rfl, h⟩

def lenFits : TyK → AV → Bool
  | .slice _, .slice .. => true
  | .slice _, .os .. => true
  | .slice _, .ot .. => true
  | .str, .str _ => true
  | .map .., .nilm => true
  | _, _ => false

def lenK (T : Tys P) (t : Nat) (x : AV) (ts : TS) (dst : Option Nat) (K : TS → Prop) : Prop :=
  lenFits (T.ty t).k x = true ∧ optK (ts.len x) fun n => setK ts dst (.int .i64 n) K

theorem SpecO.conseq {o : Oper} {ts : TS} {K K' : TS → Prop} (h : SpecO P o ts K) (hk : ∀ ts', K ts' → ∃ ts'', K' ts'' ∧ ∀ E G a w, Rel E ts' G a w → Rel E ts'' G a w) : SpecO P o ts K' := by
  intro E G a w next Q hr hn
  refine h E G a w next Q hr fun ts' G' a' w' hK hr' => ?_
  obtain ⟨ts'', h1, h2⟩ := hk ts' hK
  exact hn ts'' G' a' w' h1 (h2 _ _ _ _ hr')

/-- An array's elements, with nothing said of the room behind the slices in them. -/
theorem Rel.nrmArr {E : Env} {ts : TS} {G : Ghost} {a : Act} {w : World} (h : Rel E ts G a w) {d sz : Nat} {xs ys : List AV} (ho : ts.obj d = .arr sz (xs ++ ys)) : Rel E (ts.setObj d (.arr sz (xs ++ AV.nrm.nrmL ys))) G a w := by
  have hkind : (fun e => ((ts.setObj d (.arr sz (xs ++ AV.nrm.nrmL ys))).obj e).kind) = fun e => (ts.obj e).kind := by
    funext e
    simp only [TS.setObj]
    by_cases he : e = d
    · subst he; rw [upd_same, ho]; rfl
    · rw [upd_ne _ _ he]
  have hlive : ∀ e, liveR (ts.setObj d (.arr sz (xs ++ AV.nrm.nrmL ys))) G e ↔ liveR ts G e := fun e => by
    unfold liveR
    rw [congrFun hkind e]
  have hctx : ctxOf E G (ts.setObj d (.arr sz (xs ++ AV.nrm.nrmL ys))) w = ctxOf E G ts w := by
    unfold ctxOf
    have e1 : (fun b => E.F b ∨ ∃ e, liveR (ts.setObj d (.arr sz (xs ++ AV.nrm.nrmL ys))) G e ∧ G.β e = b) = fun b => E.F b ∨ ∃ e, liveR ts G e ∧ G.β e = b := by
      funext b
      simp only [hlive]
    rw [e1, hkind]
    rfl
  refine ⟨h.size, h.defers, fun t => by rw [hctx]; exact h.tmp t, fun e => ?_, fun e e' h1 h2 h3 => h.sep e e' ((hlive e).1 h1) ((hlive e').1 h2) h3, fun e h1 => h.own e ((hlive e).1 h1), h.inF, h.bel, h.pin⟩
  rw [hctx]
  by_cases he : e = d
  · subst he
    have := h.obj e
    rw [ho] at this
    show ObOk _ e (upd ts.obj e _ e)
    rw [upd_same]
    obtain ⟨h1, h2, h3⟩ := this
    refine ⟨h1, fun x hx => ?_, ?_⟩
    · rcases List.mem_append.1 hx with hx | hx
      · exact h2 x (List.mem_append_left _ hx)
      · rw [nrmL_eq] at hx
        obtain ⟨y, hy, rfl⟩ := List.mem_map.1 hx
        rw [nrm_cells, nrmL_len]
        exact h2 y (List.mem_append_right _ hy)
    · revert h3
      cases (ctxOf E G ts w).κ e with
      | none =>
        intro h3
        simp only at h3 ⊢
        obtain ⟨e1, e2⟩ := List.append_eq_nil_iff.1 h3
        rw [e1, e2]; rfl
      | some cap =>
        intro h3
        simp only at h3 ⊢
        obtain ⟨vs, T, g1, g2, g3, g4⟩ := h3
        refine ⟨vs, T, g1, g2, by simpa [nrmL_len] using g3, fun i j hi hj => ?_⟩
        have hi' : i < (xs ++ ys).length := by simpa [nrmL_len] using hi
        have := g4 i j hi' hj
        by_cases hx : i < xs.length
        · have e1 : (xs ++ AV.nrm.nrmL ys).getD i .any = (xs ++ ys).getD i .any := by simp [List.getElem?_append, hx]
          rw [e1]; exact this
        · have e1 : (xs ++ AV.nrm.nrmL ys).getD i .any = (AV.nrm.nrmL ys).getD (i - xs.length) .any := by simp [List.getElem?_append, hx]
          have e2 : (xs ++ ys).getD i .any = ys.getD (i - xs.length) .any := by simp [List.getElem?_append, hx]
          rw [e2] at this
          rw [e1, nrmL_getD, nrm_cells, nrmL_getD]
          exact this.nrm
  · show ObOk _ e (upd ts.obj d _ e)
    rw [upd_ne _ _ he]
    exact h.obj e

theorem SpecO.nrmNew {o : Oper} {ts ts2 : TS} {K : TS → Prop} {d sz : Nat} {v : AV} {xs ys : List AV} (h : SpecO P o ts (fun ts3 => ts3 = (ts2.new d (.arr sz (xs ++ ys))).put d v)) (hk : K ((ts2.new d (.arr sz (xs ++ AV.nrm.nrmL ys))).put d v)) : SpecO P o ts K := by
  refine h.conseq fun ts' e => ⟨_, hk, fun E G a w hr => ?_⟩
  subst e
  have := hr.nrmArr (d := d) (sz := sz) (xs := xs) (ys := ys) (by simp [TS.put, TS.new])
  have e : ((ts2.new d (.arr sz (xs ++ ys))).put d v).setObj d (.arr sz (xs ++ AV.nrm.nrmL ys)) = (ts2.new d (.arr sz (xs ++ AV.nrm.nrmL ys))).put d v := by
    simp only [TS.setObj, TS.put, TS.new]
    congr 1
    funext u
    by_cases hu : u = d
    · subst hu; simp
    · simp [upd, hu]
  rwa [e] at this

def appendK (T : Tys P) (t tx : Nat) (s x : AV) (ts : TS) (dst : Option Nat) (K : TS → Prop) : Prop :=
  match (T.ty t).k, (T.ty tx).k, dst with
  | .slice e, .slice _, some d =>
    (T.ty e).k ≠ .unk ∧ 0 < (T.ty e).sz ∧ d < ts.n ∧
    optK (ts.base s (T.ty e).sz) fun b => optK (ts.sl x) fun ys =>
      (∀ y ∈ ys, y.cells.length = (T.ty e).sz) ∧ (∀ y ∈ ys, y.cells.all AV.one = true) ∧ ((b.2.length + ys.length) * (T.ty e).bytes ≤ 140737488355328 ∧ b.2.length + ys.length ≤ 9223372036854775807) ∧
      K (((ts.unbase b.1).new d (.arr (T.ty e).sz (b.2 ++ AV.nrm.nrmL ys))).put d (.os d (ts.gen d + 1) (b.2.length + ys.length)))
  | _, _, _ => False

def Ob.arr? : Ob → Option (Nat × List AV)
  | .arr sz xs => some (sz, xs)
  | _ => none
theorem arr?_some {o : Ob} {q : Nat × List AV} (h : o.arr? = some q) : o = .arr q.1 q.2 := by
  cases o <;> simp [Ob.arr?] at h
  subst h; rfl

def maxOk (ts : TS) (hi mx : Option Operand) (u : Int) (n : Nat) : Prop :=
  match mx with
  | none => True
  | some m => hi.isSome = true ∧ optK (ts.optI (some m) 0) fun k => u ≤ k ∧ k ≤ n

/-- A piece of an own array that begins further on. -/
def sliceOtK (T : Tys P) (e d g len : Nat) (lo hi mx : Option Operand) (ts : TS) (dst : Option Nat) (K : TS → Prop) : Prop :=
  g = ts.gen d ∧ optK (ts.obj d).arr? fun q => q.1 = (T.ty e).sz ∧ optK (ts.optI lo 0) fun l => optK (ts.optI hi len) fun u => 0 ≤ l ∧ l ≤ u ∧ u ≤ q.2.length ∧
        maxOk ts hi mx u q.2.length ∧ setK ts dst (.ot d g l.toNat (u.toNat - l.toNat)) K

theorem sliceOtK.sound {T : Tys P} {o : Oper} {ts : TS} {K : TS → Prop} {t e : TypeId} {x : Operand} {lo hi mx : Option Operand} (ho : o.op = .slice t x lo hi mx) (ht : (T.ty t).k = .slice e) (he : (T.ty e).k ≠ .unk)
    {d g len : Nat} (hx : ts.ev x = .os d g len) (h : sliceOtK T e d g len lo hi mx ts o.dst K) : SpecO P o ts K := by
  obtain ⟨hg, h⟩ := h
  obtain ⟨⟨sz, xs⟩, hob, rfl, h⟩ := optK_some h
  have hob := arr?_some hob
  obtain ⟨l, h1, h⟩ := optK_some h
  obtain ⟨u, h2, h3, h4, h5, h6, h7⟩ := optK_some h
  refine SpecO.sliceOt ho ht he hx hg hob h1 h2 h3 h4 h5 (fun m hm => ?_) h7
  subst hm
  obtain ⟨q1, q2⟩ := h6
  obtain ⟨n, q3, q4⟩ := optK_some q2
  exact ⟨q1, n, q3, q4⟩

def sliceK (T : Tys P) (t : Nat) (x : AV) (lo hi mx : Option Operand) (ts : TS) (dst : Option Nat) (K : TS → Prop) : Prop :=
  match (T.ty t).k, x with
  | .slice e, .slice clip xs =>
    (T.ty e).k ≠ .unk ∧ (∀ x ∈ xs, x.cells.length = (T.ty e).sz) ∧ optK (ts.optI lo 0) fun l => optK (ts.optI hi xs.length) fun u =>
      (match mx with
       | none => 0 ≤ l ∧ l ≤ u ∧ u ≤ xs.length ∧ setK ts dst (.slice (clip && (u == xs.length)) ((xs.take u.toNat).drop l.toNat)) K
       | some m => hi.isSome = true ∧ optK (ts.optI (some m) 0) fun m => 0 ≤ l ∧ l ≤ u ∧ u ≤ m ∧ m ≤ xs.length ∧ setK ts dst (.slice (m == u) ((xs.take u.toNat).drop l.toNat)) K)
  | .slice e, .os d g len =>
    (T.ty e).k ≠ .unk ∧ match lo, mx with
      | none, none => ts.live d g = true ∧ optK (ts.optI hi len) fun u => 0 ≤ u ∧ u ≤ len ∧ setK ts dst (.os d g u.toNat) K
      | _, _ => sliceOtK T e d g len lo hi mx ts dst K
  | .str, .str s =>
    mx.isNone = true ∧ optK (ts.optI lo 0) fun l => optK (ts.optI hi s.length) fun u => 0 ≤ l ∧ l ≤ u ∧ u ≤ s.length ∧ setK ts dst (.str ((s.take u.toNat).drop l.toNat)) K
  | _, _ => False

/-- The boxes that a closure takes, frozen. -/
def TS.frzAll (ts : TS) : List AV → TS
  | [] => ts
  | .ref d _ 0 :: r => (ts.frzBox d).frzAll r
  | _ :: r => ts.frzAll r

theorem SpecO.frzAll {o : Oper} {K : TS → Prop} : ∀ (l : List AV) (ts : TS), SpecO P o (ts.frzAll l) K → SpecO P o ts K
  | [], _, h => h
  | x :: r, ts, h => by
    unfold TS.frzAll at h
    split at h
    · rename_i heq; cases heq
    · rename_i d g r' heq; cases heq; exact SpecO.frz d (SpecO.frzAll r _ h)
    · rename_i y r' _ heq; cases heq; exact SpecO.frzAll r _ h

/-- A call of a function; its contract is to be given: arguments read alone; where it may be (m): an array taken over, a box written. -/
def callX (m : Bool) (P : Program) (f : FuncId) (vs : List AV) (q : Option (List AV × List Nat)) (dst : Option Nat) (ts : TS) (K : TS → Prop) : Prop :=
  (∃ as lent r, q = some (as, lent) ∧ CallV P f (as.map Arg.v) (fun r' _ => r' = r) ∧ (lent = [] ∨ r.flat = true) ∧ afterK ts dst r K) ∨
  (m = true ∧ ((∃ d g len sz zs rest as r, vs = .os d g len :: rest ∧ g = ts.gen d ∧ ts.obj d = .arr sz zs ∧ len ≤ zs.length ∧ AV.pure.pureL zs = true ∧ ts.toArgs rest = some (as, []) ∧
      CallV P f (.own sz (zs.take len) :: as.map Arg.v) (fun r' _ => r' = r) ∧ afterK (ts.kill d) dst r K) ∨
    (∃ d g cs cs' rest as x, vs = .ref d g 0 :: rest ∧ g = ts.gen d ∧ ts.obj d = .box cs ∧ AV.pure.pureL cs = true ∧ ts.toArgs rest = some (as, []) ∧
      CallV P f (.io cs :: as.map Arg.v) (fun r' io => r' = .val x ∧ io 0 = cs') ∧ setK (ts.setObj d (.box cs')) dst x K) ∨
    (∃ d g fg sz zs zs', vs = [.os d g zs.length, .clo (.func fg) [] []] ∧ g = ts.gen d ∧ ts.obj d = .arr sz zs ∧ CallA P f fg sz zs zs' ∧ setK (ts.setObj d (.arr sz zs')) dst (.tup []) K) ∨
    (∃ as lent r, q = some (as, lent) ∧ CallV P f (as.map Arg.v) (fun r' _ => r' = r) ∧ afterK (ts.killL lent) dst r K)))

def callW (m : Bool) (P : Program) (fv : AV) (args : List AV) (dst : Option Nat) (ts : TS) (K : TS → Prop) : Prop :=
  match fv with
  | .clo (.func f) [] caps => callX m P f (args ++ caps) (ts.toArgs (args ++ caps)) dst ts K
  | _ => False

def clearK (T : Tys P) (t : Nat) (x : AV) (ts : TS) (dst : Option Nat) (K : TS → Prop) : Prop :=
  match (T.ty t).k, x with
  | .slice e, .ot d g off len => (T.ty e).k ≠ .unk ∧ 0 < (T.ty e).sz ∧ g = ts.gen d ∧ dst = none ∧ (zeroA (T.ty e).k (T.ty e).zero).cells = (T.ty e).zero ∧ (T.ty e).zero.all AV.one = true ∧
    optK (ts.obj d).arr? fun q => q.1 = (T.ty e).sz ∧ off + len ≤ q.2.length ∧ K (ts.setObj d (.arr q.1 (clrL q.2 off len (zeroA (T.ty e).k (T.ty e).zero))))
  | _, _ => False

theorem clearK.sound {T : Tys P} {o : Oper} {ts : TS} {K : TS → Prop} {t : TypeId} {x : Operand} (ho : o.op = .call { callee := .builtin .clear, args := #[x], argTypes := #[t] }) (h : clearK T t (ts.ev x) ts o.dst K) : SpecO P o ts K := by
  unfold clearK at h
  split at h
  · rename_i e d g off len he hx
    obtain ⟨h1, h2, h3, h4, h5, h6, h7⟩ := h
    obtain ⟨⟨sz, xs⟩, hob, rfl, h8, h9⟩ := optK_some h7
    have hob := arr?_some hob
    exact SpecO.clear ho he h1 h2 hx h3 hob h8 h4 h5 h6 h9
  · exact h.elim

/-- Appended in place. -/
def appendInK (T : Tys P) (t tx : Nat) (s x : AV) (ts : TS) (dst : Option Nat) (K : TS → Prop) : Prop :=
  match (T.ty t).k, (T.ty tx).k, s, dst with
  | .slice e, .slice _, .os d g len, some d' => (T.ty e).k ≠ .unk ∧ 0 < (T.ty e).sz ∧ d' < ts.n ∧ g = ts.gen d ∧
    optK (ts.obj d).arr? fun q => q.1 = (T.ty e).sz ∧ optK (ts.sl x) fun ys => (∀ y ∈ ys, y.cells.length = (T.ty e).sz) ∧ (∀ y ∈ ys, y.cells.all AV.one = true) ∧ len + ys.length ≤ q.2.length ∧
        K ((ts.setObj d (.arr q.1 (q.2.take len ++ ys ++ q.2.drop (len + ys.length)))).put d' (.os d g (len + ys.length)))
  | _, _, _, _ => False

theorem appendInK.sound {T : Tys P} {o : Oper} {ts : TS} {K : TS → Prop} {t tx : TypeId} {s x : Operand} (ho : o.op = .call { callee := .builtin .append, args := #[s, x], argTypes := #[t, tx] }) (h : appendInK T t tx (ts.ev s) (ts.ev x) ts o.dst K) : SpecO P o ts K := by
  unfold appendInK at h
  split at h
  · rename_i e e' d g len d' he he' hs hd
    obtain ⟨h1, h2, h3, h4, h5⟩ := h
    obtain ⟨⟨sz, xs⟩, hob, rfl, h6⟩ := optK_some h5
    have hob := arr?_some hob
    obtain ⟨ys, h7, h8, h9, h10, h11⟩ := optK_some h6
    exact SpecO.appendIn ho he he' h1 h2 hs h4 hob h7 h8 h9 h10 hd h3 h11
  · exact h.elim

def appendW (T : Tys P) (t tx : Nat) (s x : AV) (ts : TS) (dst : Option Nat) (K : TS → Prop) : Prop :=
  match x with
  | .ot .. => appendInK T t tx s x ts dst K
  | _ => appendK T t tx s x ts dst K

def minmaxK (b : Bool) (x y : AV) (ts : TS) (dst : Option Nat) (K : TS → Prop) : Prop :=
  match x, y with
  | .int k n, .int _ m => setK ts dst (.int k (if b then max n m else min n m)) K
  | _, _ => False

theorem minmaxK.sound {o : Oper} {ts : TS} {K : TS → Prop} {b : Bool} {x y : Operand} {at_ : Array TypeId} (ho : o.op = .call { callee := .builtin (if b then .max else .min), args := #[x, y], argTypes := at_ }) (h : minmaxK b (ts.ev x) (ts.ev y) ts o.dst K) : SpecO P o ts K := by
  unfold minmaxK at h
  split at h
  · rename_i k n k' m hx hy
    refine SpecO.val h fun E G a w hr => ?_
    have hvx := hr.ev x
    have hvy := hr.ev y
    rw [hx] at hvx
    rw [hy] at hvy
    have ex := rep_int hvx
    have ey := rep_int hvy
    refine ⟨.int k (if b then max n m else min n m), ?_, .int _ _⟩
    cases b with
    | true =>
      have e1 : (if m > n then m else n) = max n m := by rw [Int.max_def]; split <;> split <;> omega
      simp [execOp, ho, resolve, invoke, builtin, ex, ey, Builtin.max_, Builtin.max2, e1]
    | false =>
      have e1 : (if m < n then m else n) = min n m := by rw [Int.min_def]; split <;> split <;> omega
      simp [execOp, ho, resolve, invoke, builtin, ex, ey, Builtin.min_, Builtin.min2, e1]
  · exact h.elim

def builtinK (T : Tys P) (c : Call) (o : Oper) (ts : TS) (K : TS → Prop) : Prop :=
  match c.callee with
  | .value f => callW true P (ts.ev f) (c.args.toList.map ts.ev) o.dst ts K
  | .builtin b =>
    match b, c.args.toList, c.argTypes.toList with
    | .len, [x], [t] => lenK T t (ts.ev x) ts o.dst K
    | .append, [s, x], [t, tx] => appendW T t tx (ts.ev s) (ts.ev x) ts o.dst K
    | .clear, [x], [t] => clearK T t (ts.ev x) ts o.dst K
    | .max, [x, y], _ => minmaxK true (ts.ev x) (ts.ev y) ts o.dst K
    | .min, [x, y], _ => minmaxK false (ts.ev x) (ts.ev y) ts o.dst K
    | _, _, _ => SpecO P o ts K
  | _ => SpecO P o ts K

def binD (T : Tys P) (op : BinOp) (t : TypeId) (a b : AV) (ts : TS) (dst : Option Nat) (K : TS → Prop) : Prop :=
  match (T.ty t).k with
  | .struct fs => P.eqGuardType P.depth t = false ∧ P.stoodInHeld t = false ∧ optK (eqS T fs op a b) fun r => setK ts dst (.bool r) K
  | .bool => optK (eqB op a b) fun r => setK ts dst (.bool r) K
  | _ => optK (binA op a b) fun r => setK ts dst r K

/-- ONE OPERATION, computed; a call stays as it is. -/
def opK (T : Tys P) (o : Oper) (ts : TS) (K : TS → Prop) : Prop :=
  match o.op with
  | .move x | .assign x => setK ts o.dst (ts.ev x) K
  | .pick c x y => boolK (ts.ev c) fun b => setK ts o.dst (if b then ts.ev x else ts.ev y) K
  | .alloc t => (T.ty t).k ≠ .unk ∧ newBoxK ts o.dst (T.ty t).zero K
  | .box _ x => (ts.ev x).known = true ∧ newBoxK ts o.dst (ts.ev x).cells K
  | .build t parts =>
    match (T.ty t).k with
    | .struct fs => (∀ f ∈ fs, (T.ty f.2.1).k ≠ .unk) ∧ optK (fillA (placeS T fs) (T.ty t).zero (parts.toList.map fun p => (p.1, ts.ev p.2))) fun cs => setK ts o.dst (.agg cs) K
    | _ => False
  | .buildSlice t n parts =>
    match (T.ty t).k with
    | .slice e => (T.ty e).k ≠ .unk ∧ 0 < (T.ty e).sz ∧ parts.toList.map (·.1) = List.range n ∧ n * (T.ty e).sz ≤ 16777216 ∧
        (∀ p ∈ parts.toList, (ts.ev p.2).known = true ∧ (ts.ev p.2).cells.length = (T.ty e).sz) ∧ newArrK ts o.dst (T.ty e).sz (parts.toList.map fun p => ts.ev p.2) K
    | _ => False
  | .load t x => optK (ts.ptr (ts.ev x)) fun cs => loadK T t cs ts o.dst K
  | .store t p x => (T.ty t).k ≠ .unk ∧ (ts.ev x).known = true ∧ (ts.ev x).cells.length = (T.ty t).sz ∧ (ts.ev x).cells.all AV.one = true ∧
      optK (ts.poke (ts.ev p) (ts.ev x).cells) fun q => (∀ e, o.dst = some e → e < ts.n) ∧ K (putDst (ts.setObj q.1 q.2) o.dst .any)
  | .fieldAddr s x f =>
    match (T.ty s).k with
    | .struct fs => optK fs[f]? fun q => (T.ty q.2.1).k ≠ .unk ∧ (T.ty q.2.1).sz ≠ 0 ∧ optK (ts.shift (ts.ev x) q.1) fun y => setK ts o.dst y K
    | _ => False
  | .field s x f =>
    match (T.ty s).k, ts.ev x with
    | .struct fs, .agg cs => optK fs[f]? fun q => loadK T q.2.1 (cs.drop q.1) ts o.dst K
    | _, _ => False
  | .indexAddr t x i =>
    match (T.ty t).k with
    | .slice e => (T.ty e).k ≠ .unk ∧ (T.ty e).sz ≠ 0 ∧ intK (ts.ev i) fun _ n => optK (ts.at (ts.ev x) (T.ty e).sz n) fun y => setK ts o.dst y K
    | _ => False
  | .index t x i =>
    match (T.ty t).k, ts.ev x with
    | .str, .str s => intK (ts.ev i) fun _ n => 0 ≤ n ∧ n < s.length ∧ setK ts o.dst (.int .u8 (s.getD n.toNat 0).toNat) K
    | _, _ => False
  | .slice t x lo hi mx => sliceK T t (ts.ev x) lo hi mx ts o.dst K
  | .binOp op t x y _ =>
    match op, y with
    | .eql, .const (.slice none 0 0) => match (T.ty t).k with
      | .slice _ => optK (ts.sl (ts.ev x)) fun xs => ∀ b : Bool, (b = true → xs = []) → setK ts o.dst (.bool b) K
      | _ => False
    | _, _ => binD T op t (ts.ev x) (ts.ev y) ts o.dst K
  | .unOp op _ x =>
    match op with
    | .not => boolK (ts.ev x) fun b => setK ts o.dst (.bool !b) K
    | .neg => intK (ts.ev x) fun k n => setK ts o.dst (.int k (k.wrap (0 - n))) K
    | _ => False
  | .extract x i => match ts.ev x with
    | .tup vs => i < vs.length ∧ setK ts o.dst (vs.getD i .any) K
    | _ => False
  | .makeFunc fn first caps => setK (ts.frzAll (caps.toList.map ts.ev)) o.dst (.clo fn (first.toList.map (ts.frzAll (caps.toList.map ts.ev)).ev) (caps.toList.map (ts.frzAll (caps.toList.map ts.ev)).ev)) K
  | .range t x => rangeK T t (ts.ev x) ts o.dst K
  | .next x true => nextK (ts.ev x) ts o.dst K
  | .call c => builtinK T c o ts K
  | _ => SpecO P o ts K

theorem opK_sound (T : Tys P) {o : Oper} {ts : TS} {K : TS → Prop} (h : opK T o ts K) : SpecO P o ts K := by
  unfold opK at h
  split at h
  · rename_i x ho; exact SpecO.move (.inl ho) h
  · rename_i x ho; exact SpecO.move (.inr ho) h
  · rename_i c x y ho
    obtain ⟨b, h1, h2⟩ := boolK_some h
    exact SpecO.pick ho h1 h2
  · rename_i t ho; exact SpecO.alloc ho h.1 h.2
  · rename_i t x ho; exact SpecO.box ho h.1 h.2
  · rename_i t parts ho
    split at h
    · rename_i fs hfs
      obtain ⟨cs, h1, h2⟩ := optK_some h.2
      exact SpecO.build ho hfs h.1 h1 h2
    · exact h.elim
  · rename_i t n parts ho
    split at h
    · rename_i e he
      obtain ⟨h1, h2, h3, h4, h5, h6⟩ := h
      exact SpecO.buildSlice ho he h1 h2 h3 h4 h5 h6
    · exact h.elim
  · rename_i t x ho
    obtain ⟨cs, h1, h2⟩ := optK_some h
    unfold loadK at h2
    split at h2
    · exact h2.elim
    · rename_i hne
      exact SpecO.load (T := T) ho (by simpa using hne) h1 h2.1 h2.2
  · rename_i t p x ho
    obtain ⟨h1, h2, h3, h4, h5⟩ := h
    obtain ⟨q, h6, h7, h8⟩ := optK_some h5
    exact SpecO.store (T := T) ho h1 h2 h3 h4 h6 h7 h8
  · rename_i s x f ho
    split at h
    · rename_i fs hfs
      obtain ⟨q, h1, h2, h3, h4⟩ := optK_some h
      obtain ⟨y, h5, h6⟩ := optK_some h4
      exact SpecO.fieldAddr ho hfs h1 h2 h3 h5 h6
    · exact h.elim
  · rename_i s x f ho
    split at h
    · rename_i fs cs hfs hx
      obtain ⟨q, h1, h2⟩ := optK_some h
      unfold loadK at h2
      split at h2
      · exact h2.elim
      · rename_i hne
        exact SpecO.field (T := T) ho hfs h1 (by simpa using hne) hx h2.1 h2.2
    · exact h.elim
  · rename_i t x i ho
    split at h
    · rename_i e he
      obtain ⟨h1, h2, h3⟩ := h
      obtain ⟨k, n, h4, h5⟩ := intK_some h3
      obtain ⟨y, h6, h7⟩ := optK_some h5
      exact SpecO.indexAddr ho he h1 h2 h4 h6 h7
    · exact h.elim
  · rename_i t x i ho
    split at h
    · rename_i s ht hx
      obtain ⟨k, n, h4, h5, h6, h7⟩ := intK_some h
      exact SpecO.indexStr ho ht hx h4 h5 h6 h7
    · exact h.elim
  · rename_i t x lo hi mx ho
    unfold sliceK at h
    split at h
    · rename_i e clip xs he hx
      obtain ⟨h1, h2, h3⟩ := h
      obtain ⟨l, h4, h5⟩ := optK_some h3
      obtain ⟨u, h6, h7⟩ := optK_some h5
      cases mx with
      | none => obtain ⟨q1, q2, q3, q4⟩ := h7; exact SpecO.sliceS ho he h1 hx h2 h4 h6 q1 q2 q3 q4
      | some m =>
        obtain ⟨q0, h8⟩ := h7
        obtain ⟨m', h9, q1, q2, q3, q4, q5⟩ := optK_some h8
        cases hi with
        | none => simp at q0
        | some hi => exact SpecO.slice3 ho he h1 hx h2 h4 h6 h9 q1 q2 q3 q4 q5
    · rename_i e d g len he hx
      obtain ⟨h1, h2⟩ := h
      split at h2
      · obtain ⟨h3, h4⟩ := h2
        obtain ⟨u, h6, h7, h8, h9⟩ := optK_some h4
        exact SpecO.sliceO ho he h1 hx h3 rfl h6 h7 h8 h9
      · exact sliceOtK.sound ho he h1 hx h2
    · rename_i s he hx
      obtain ⟨h1, h2⟩ := h
      obtain ⟨l, h4, h5⟩ := optK_some h2
      obtain ⟨u, h6, q1, q2, q3, q4⟩ := optK_some h5
      cases mx with
      | some m => simp at h1
      | none => exact SpecO.sliceStr ho he hx h4 h6 q1 q2 q3 q4
    · exact h.elim
  · rename_i op t x y u ho
    split at h
    · split at h
      · rename_i e he
        obtain ⟨xs, h1, h2⟩ := optK_some h
        exact SpecO.nilEq ho he h1 h2
      · exact h.elim
    · unfold binD at h
      split at h
      · rename_i fs hk
        obtain ⟨hg, hs, h⟩ := h
        obtain ⟨r, h1, h2⟩ := optK_some h
        exact SpecO.eqS ho hk hg hs h1 h2
      · rename_i hk
        obtain ⟨r, h1, h2⟩ := optK_some h
        exact SpecO.eqB ho hk h1 h2
      · obtain ⟨r, h1, h2⟩ := optK_some h
        exact SpecO.bin ho h1 h2
  · rename_i op t x ho
    split at h
    · obtain ⟨b, h1, h2⟩ := boolK_some h; exact SpecO.not ho h1 h2
    · obtain ⟨k, n, h1, h2⟩ := intK_some h; exact SpecO.neg ho h1 h2
    · exact h.elim
  · rename_i x i ho
    split at h
    · rename_i vs hx; exact SpecO.extract ho hx h.1 h.2
    · exact h.elim
  · rename_i fn first caps ho
    exact SpecO.frzAll _ _ (SpecO.makeFunc ho h)
  · rename_i t x ho; exact SpecO.rangeStr ho h
  · rename_i x ho; exact SpecO.nextStr ho h
  · rename_i c ho
    obtain ⟨callee, args, argTypes⟩ := c
    unfold builtinK at h
    dsimp only at h
    split at h
    · rename_i f
      unfold callW at h
      split at h
      · rename_i f' caps hfe
        rcases h with ⟨as, lent, r, h1, h2, h3, h4⟩ | ⟨_, ⟨d, g, len, sz, zs, rest, as, r, q1, q2, q3, q4, q5, q6, q7, q8⟩ | ⟨d, g, cs, cs', rest, as, x, q1, q2, q3, q4, q5, q6, q7⟩ | ⟨d, g, fg, sz, zs, zs', q1, q2, q3, q4, q5⟩ | ⟨as, lent, r, q1, q2, q3⟩⟩
        · exact SpecO.call ho hfe h1 h2 fun r' io e => by subst e; exact .inl ⟨h3, h4⟩
        · exact SpecO.callM ho hfe q1 q2 q3 q4 q5 q6 q7 q8
        · exact SpecO.callI ho hfe q1 q2 q3 q4 q5 q6 q7
        · exact SpecO.callA ho hfe q1 q2 q3 q4 q5
        · exact SpecO.call ho hfe q1 q2 fun r' io e => by subst e; exact .inr q3
      · exact h.elim
    · rename_i b
      split at h
      · rename_i x t ha hat
        have ea : args = #[x] := by rw [← Array.toArray_toList (xs := args), ha]
        have eat : argTypes = #[t] := by rw [← Array.toArray_toList (xs := argTypes), hat]
        subst ea eat
        obtain ⟨h1, h2⟩ := h
        obtain ⟨n, h3, h4⟩ := optK_some h2
        refine SpecO.len (T := T) ho ?_ h3 h4
        unfold lenFits at h1
        exact h1
      · rename_i s x t tx ha hat
        have ea : args = #[s, x] := by rw [← Array.toArray_toList (xs := args), ha]
        have eat : argTypes = #[t, tx] := by rw [← Array.toArray_toList (xs := argTypes), hat]
        subst ea eat
        unfold appendW at h
        split at h
        · exact appendInK.sound ho h
        unfold appendK at h
        split at h
        · rename_i e e' d he he' hd
          obtain ⟨h1, h2, h3, h4⟩ := h
          obtain ⟨b, h5, h6⟩ := optK_some h4
          obtain ⟨ys, h7, h8, h9, ⟨h10, h10'⟩, h11⟩ := optK_some h6
          exact SpecO.nrmNew (SpecO.append ho he he' h1 h2 h5 h7 h8 h9 h10 h10' hd h3 (K := fun ts2 => ts2 = _) rfl) (by rw [List.length_append]; exact h11)
        · exact h.elim
      · rename_i x t ha hat
        have ea : args = #[x] := by rw [← Array.toArray_toList (xs := args), ha]
        have eat : argTypes = #[t] := by rw [← Array.toArray_toList (xs := argTypes), hat]
        subst ea eat
        exact clearK.sound ho h
      · rename_i x y ha
        have ea : args = #[x, y] := by rw [← Array.toArray_toList (xs := args), ha]
        subst ea
        exact minmaxK.sound (b := true) ho h
      · rename_i x y ha
        have ea : args = #[x, y] := by rw [← Array.toArray_toList (xs := args), ha]
        subst ea
        exact minmaxK.sound (b := false) ho h
      · exact h
    · exact h
  · exact h

/-! ### The steps of a proof -/
theorem SpecC.seq_k {x y : Code} {ts : TS} {Q : Exit → TS → Prop} (h : ∀ K : TS → Prop, (∀ ts', SpecC P y ts' Q → K ts') → SpecC P x ts (thenK K Q)) : SpecC P (.seq x y) ts Q :=
  SpecC.seq (h _ fun _ h => h)

theorem SpecC.region_k {id : Nat} {ops : Array Oper} {ts : TS} {Q : Exit → TS → Prop} {l : List Oper} (hl : ops.toList = l) (h : SpecOs P ops (Q .normal) l ts) : SpecC P (.region id ops false) ts Q :=
  SpecC.region (by rw [hl]; exact h)

theorem SpecOs.step (T : Tys P) {ops : Array Oper} {o : Oper} {l : List Oper} {ts : TS} {K : TS → Prop} (hg : o.guard = none) (h : ∀ K' : TS → Prop, (∀ ts', SpecOs P ops K l ts' → K' ts') → opK T o ts K') : SpecOs P ops K (o :: l) ts := by
  unfold SpecOs SpecG
  rw [hg]
  exact opK_sound T (h _ fun _ h => h)

theorem SpecOs.guard (T : Tys P) {ops : Array Oper} {o : Oper} {l : List Oper} {ts : TS} {K : TS → Prop} {j : Nat} {want : Bool} {b : Option Bool} (hg : o.guard = some (j, want)) (hb : guardOf ops ts j = some b)
    (ht : b = some want → ∀ K' : TS → Prop, (∀ ts', SpecOs P ops K l ts' → K' ts') → opK T o ts K') (hf : b ≠ some want → (∀ d, o.dst = some d → d < ts.n) ∧ SpecOs P ops K l (putDst ts o.dst (.tup []))) : SpecOs P ops K (o :: l) ts := by
  unfold SpecOs SpecG
  rw [hg]
  refine ⟨b, hb, ?_⟩
  by_cases e : b = some want
  · rw [if_pos (by simp [e])]; exact opK_sound T (ht e _ fun _ h => h)
  · rw [if_neg (by simp [e])]; exact hf e

end Go.Proofs.YtbggigdchkiffaaDoor.Lg

/- The rules by which the computed transformer is reckoned out. -/
namespace Go.Proofs.YtbggigdchkiffaaDoor.Lg
set_option linter.unusedVariables false
set_option linter.unusedSimpArgs false
open Go
variable {P : Program} (T : Tys P)

section ops
variable (ts : TS) (K : TS → Prop) (dst : Option Nat) (ty : TypeId) (pos : String) (after : Array Edge) (g : Option (Nat × Bool))
@[go_sem] theorem opK_move (x : Operand) : opK T ⟨dst, .move x, ty, pos, after, g⟩ ts K = setK ts dst (ts.ev x) K := rfl
@[go_sem] theorem opK_assign (x : Operand) : opK T ⟨dst, .assign x, ty, pos, after, g⟩ ts K = setK ts dst (ts.ev x) K := rfl
@[go_sem] theorem opK_pick (c x y : Operand) : opK T ⟨dst, .pick c x y, ty, pos, after, g⟩ ts K = boolK (ts.ev c) fun b => setK ts dst (if b then ts.ev x else ts.ev y) K := rfl
@[go_sem] theorem opK_alloc (t : TypeId) : opK T ⟨dst, .alloc t, ty, pos, after, g⟩ ts K = ((T.ty t).k ≠ .unk ∧ newBoxK ts dst (T.ty t).zero K) := rfl
@[go_sem] theorem opK_box (t : TypeId) (x : Operand) : opK T ⟨dst, .box t x, ty, pos, after, g⟩ ts K = ((ts.ev x).known = true ∧ newBoxK ts dst (ts.ev x).cells K) := rfl
@[go_sem] theorem opK_load (t : TypeId) (x : Operand) : opK T ⟨dst, .load t x, ty, pos, after, g⟩ ts K = optK (ts.ptr (ts.ev x)) fun cs => loadK T t cs ts dst K := rfl
@[go_sem] theorem opK_store (t : TypeId) (p x : Operand) : opK T ⟨dst, .store t p x, ty, pos, after, g⟩ ts K = ((T.ty t).k ≠ .unk ∧ (ts.ev x).known = true ∧ (ts.ev x).cells.length = (T.ty t).sz ∧ (ts.ev x).cells.all AV.one = true ∧
      optK (ts.poke (ts.ev p) (ts.ev x).cells) fun q => (∀ e, dst = some e → e < ts.n) ∧ K (putDst (ts.setObj q.1 q.2) dst .any)) := rfl
def fieldAddrK (T : Tys P) (k : TyK) (x : AV) (f : Nat) (ts : TS) (dst : Option Nat) (K : TS → Prop) : Prop :=
  match k with
  | .struct fs => optK fs[f]? fun q => (T.ty q.2.1).k ≠ .unk ∧ (T.ty q.2.1).sz ≠ 0 ∧ optK (ts.shift x q.1) fun y => setK ts dst y K
  | _ => False
@[go_sem] theorem opK_fieldAddr (s : TypeId) (x : Operand) (f : Nat) : opK T ⟨dst, .fieldAddr s x f, ty, pos, after, g⟩ ts K = fieldAddrK T (T.ty s).k (ts.ev x) f ts dst K := rfl
@[go_sem] theorem fieldAddrK_struct (fs : List (Nat × Nat × String)) (x : AV) (f : Nat) : fieldAddrK T (.struct fs) x f ts dst K = optK fs[f]? fun q => (T.ty q.2.1).k ≠ .unk ∧ (T.ty q.2.1).sz ≠ 0 ∧ optK (ts.shift x q.1) fun y => setK ts dst y K := rfl
@[go_sem] theorem killL_nil : ts.killL [] = ts := rfl
@[go_sem] theorem killL_cons (d : Nat) (l : List Nat) : ts.killL (d :: l) = (ts.kill d).killL l := rfl
def fieldK (T : Tys P) (k : TyK) (x : AV) (f : Nat) (ts : TS) (dst : Option Nat) (K : TS → Prop) : Prop :=
  match k, x with
  | .struct fs, .agg cs => optK fs[f]? fun q => loadK T q.2.1 (cs.drop q.1) ts dst K
  | _, _ => False
@[go_sem] theorem opK_field (s : TypeId) (x : Operand) (f : Nat) : opK T ⟨dst, .field s x f, ty, pos, after, g⟩ ts K = fieldK T (T.ty s).k (ts.ev x) f ts dst K := rfl
@[go_sem] theorem fieldK_agg (fs : List (Nat × Nat × String)) (cs : List AV) (f : Nat) : fieldK T (.struct fs) (.agg cs) f ts dst K = optK fs[f]? fun q => loadK T q.2.1 (cs.drop q.1) ts dst K := rfl
def indexAddrK (T : Tys P) (k : TyK) (x i : AV) (ts : TS) (dst : Option Nat) (K : TS → Prop) : Prop :=
  match k with
  | .slice e => (T.ty e).k ≠ .unk ∧ (T.ty e).sz ≠ 0 ∧ intK i fun _ n => optK (ts.at x (T.ty e).sz n) fun y => setK ts dst y K
  | _ => False
@[go_sem] theorem opK_indexAddr (t : TypeId) (x i : Operand) : opK T ⟨dst, .indexAddr t x i, ty, pos, after, g⟩ ts K = indexAddrK T (T.ty t).k (ts.ev x) (ts.ev i) ts dst K := rfl
theorem indexAddrK_slice (e : Nat) (x i : AV) : indexAddrK T (.slice e) x i ts dst K = ((T.ty e).k ≠ .unk ∧ (T.ty e).sz ≠ 0 ∧ intK i fun _ n => optK (ts.at x (T.ty e).sz n) fun y => setK ts dst y K) := rfl
@[go_sem] theorem indexAddrK_int (e : Nat) (x : AV) (k : IntKind) (n : Int) : indexAddrK T (.slice e) x (.int k n) ts dst K = ((T.ty e).k ≠ .unk ∧ (T.ty e).sz ≠ 0 ∧ optK (ts.at x (T.ty e).sz n) fun y => setK ts dst y K) := rfl
def indexK (k : TyK) (x i : AV) (ts : TS) (dst : Option Nat) (K : TS → Prop) : Prop :=
  match k, x with
  | .str, .str s => intK i fun _ n => 0 ≤ n ∧ n < s.length ∧ setK ts dst (.int .u8 (s.getD n.toNat 0).toNat) K
  | _, _ => False
@[go_sem] theorem opK_index (t : TypeId) (x i : Operand) : opK T ⟨dst, .index t x i, ty, pos, after, g⟩ ts K = indexK (T.ty t).k (ts.ev x) (ts.ev i) ts dst K := rfl
@[go_sem] theorem indexK_int (s : List UInt8) (k : IntKind) (n : Int) : indexK .str (.str s) (.int k n) ts dst K = (0 ≤ n ∧ n < s.length ∧ setK ts dst (.int .u8 (s.getD n.toNat 0).toNat) K) := rfl
theorem indexK_str (s : List UInt8) (i : AV) : indexK .str (.str s) i ts dst K = intK i fun _ n => 0 ≤ n ∧ n < s.length ∧ setK ts dst (.int .u8 (s.getD n.toNat 0).toNat) K := rfl
@[go_sem] theorem opK_slice (t : TypeId) (x : Operand) (lo hi mx : Option Operand) : opK T ⟨dst, .slice t x lo hi mx, ty, pos, after, g⟩ ts K = sliceK T t (ts.ev x) lo hi mx ts dst K := rfl
def binK (T : Tys P) (op : BinOp) (t : TypeId) (x y : Operand) (ts : TS) (dst : Option Nat) (K : TS → Prop) : Prop :=
  match op, y with
    | .eql, .const (.slice none 0 0) => match (T.ty t).k with
      | .slice _ => optK (ts.sl (ts.ev x)) fun xs => ∀ b : Bool, (b = true → xs = []) → setK ts dst (.bool b) K
      | _ => False
    | _, _ => binD T op t (ts.ev x) (ts.ev y) ts dst K
@[go_sem] theorem opK_bin (op : BinOp) (t u : TypeId) (x y : Operand) : opK T ⟨dst, .binOp op t x y u, ty, pos, after, g⟩ ts K = binK T op t x y ts dst K := rfl
@[go_sem] theorem binK_tmp (op : BinOp) (t : TypeId) (x : Operand) (y : Nat) : binK T op t x (.tmp y) ts dst K = binD T op t (ts.ev x) (ts.tmp y) ts dst K := by cases op <;> rfl
@[go_sem] theorem binK_int (op : BinOp) (t : TypeId) (x : Operand) (k : IntKind) (n : Int) : binK T op t x (.const (.int k n)) ts dst K = binD T op t (ts.ev x) (.int k n) ts dst K := by cases op <;> rfl
@[go_sem] theorem binK_str (op : BinOp) (t : TypeId) (x : Operand) (s : ByteArray) : binK T op t x (.const (.string s)) ts dst K = binD T op t (ts.ev x) (.str s.data.toList) ts dst K := by cases op <;> rfl
@[go_sem] theorem opK_not (t : TypeId) (x : Operand) : opK T ⟨dst, .unOp .not t x, ty, pos, after, g⟩ ts K = boolK (ts.ev x) fun b => setK ts dst (.bool !b) K := rfl
@[go_sem] theorem opK_neg (t : TypeId) (x : Operand) : opK T ⟨dst, .unOp .neg t x, ty, pos, after, g⟩ ts K = intK (ts.ev x) fun k n => setK ts dst (.int k (k.wrap (0 - n))) K := rfl
def extractK (x : AV) (i : Nat) (ts : TS) (dst : Option Nat) (K : TS → Prop) : Prop :=
  match x with
  | .tup vs => i < vs.length ∧ setK ts dst (vs.getD i .any) K
  | _ => False
@[go_sem] theorem opK_extract (x : Operand) (i : Nat) : opK T ⟨dst, .extract x i, ty, pos, after, g⟩ ts K = extractK (ts.ev x) i ts dst K := rfl
@[go_sem] theorem extractK_tup (vs : List AV) (i : Nat) : extractK (.tup vs) i ts dst K = (i < vs.length ∧ setK ts dst (vs.getD i .any) K) := rfl
@[go_sem] theorem opK_range (t : TypeId) (x : Operand) : opK T ⟨dst, .range t x, ty, pos, after, g⟩ ts K = rangeK T t (ts.ev x) ts dst K := rfl
@[go_sem] theorem opK_next (x : Operand) : opK T ⟨dst, .next x true, ty, pos, after, g⟩ ts K = nextK (ts.ev x) ts dst K := rfl
def rangeS (k : TyK) (s : List UInt8) (d : Nat) (ts : TS) (K : TS → Prop) : Prop :=
  match k with
  | .str => d < ts.n ∧ K ((ts.new d (.iter s 0)).put d (.ref d (ts.gen d + 1) 0))
  | _ => False
@[go_sem] theorem rangeK_str (t : TypeId) (s : List UInt8) (d : Nat) : rangeK T t (.str s) ts (some d) K = rangeS (T.ty t).k s d ts K := by
  unfold rangeK rangeS
  cases (T.ty t).k <;> rfl
@[go_sem] theorem rangeS_str (s : List UInt8) (d : Nat) : rangeS .str s d ts K = (d < ts.n ∧ K ((ts.new d (.iter s 0)).put d (.ref d (ts.gen d + 1) 0))) := rfl
@[go_sem] theorem nextK_ref (d g e : Nat) : nextK (.ref d g 0) ts (some e) K = (g = ts.gen d ∧ e < ts.n ∧ iterK (ts.obj d) d e ts K) := rfl
@[go_sem] theorem iterK_iter (s : List UInt8) (pos d e : Nat) : iterK (.iter s pos) d e ts K = ((pos < s.length → K ((ts.setObj d (.iter s (pos + (decL s pos).2))).put e (.tup [.bool true, .int .i64 pos, .int .i32 (decL s pos).1]))) ∧ (¬ pos < s.length → K (ts.put e (.tup [.bool false])))) := rfl
@[go_sem] theorem opK_makeFunc (fn : Fn) (first caps : Array Operand) : opK T ⟨dst, .makeFunc fn first caps, ty, pos, after, g⟩ ts K =
  setK (ts.frzAll (caps.toList.map ts.ev)) dst (.clo fn (first.toList.map (ts.frzAll (caps.toList.map ts.ev)).ev) (caps.toList.map (ts.frzAll (caps.toList.map ts.ev)).ev)) K := rfl
@[go_sem] theorem opK_len (x : Operand) (t : TypeId) : opK T ⟨dst, .call ⟨.builtin .len, #[x], #[t]⟩, ty, pos, after, g⟩ ts K = lenK T t (ts.ev x) ts dst K := rfl
@[go_sem] theorem opK_append (s x : Operand) (t tx : TypeId) : opK T ⟨dst, .call ⟨.builtin .append, #[s, x], #[t, tx]⟩, ty, pos, after, g⟩ ts K = appendW T t tx (ts.ev s) (ts.ev x) ts dst K := rfl
@[go_sem] theorem appendW_slice (t tx : TypeId) (s : AV) (c : Bool) (xs : List AV) : appendW T t tx s (.slice c xs) ts dst K = appendK T t tx s (.slice c xs) ts dst K := rfl
@[go_sem] theorem appendW_os (t tx : TypeId) (s : AV) (d q n : Nat) : appendW T t tx s (.os d q n) ts dst K = appendK T t tx s (.os d q n) ts dst K := rfl
@[go_sem] theorem appendW_ot (t tx : TypeId) (s : AV) (d q o n : Nat) : appendW T t tx s (.ot d q o n) ts dst K = appendInK T t tx s (.ot d q o n) ts dst K := rfl
@[go_sem] theorem opK_call (f : Operand) (xs : Array Operand) (at_ : Array TypeId) : opK T ⟨dst, .call ⟨.value f, xs, at_⟩, ty, pos, after, g⟩ ts K = callW true P (ts.ev f) (xs.toList.map ts.ev) dst ts K := rfl
@[go_sem] theorem callW_clo (m : Bool) (f : FuncId) (caps args : List AV) : callW m P (.clo (.func f) [] caps) args dst ts K = callX m P f (args ++ caps) (ts.toArgs (args ++ caps)) dst ts K := rfl
@[go_sem] theorem opK_clear (x : Operand) (t : TypeId) : opK T ⟨dst, .call ⟨.builtin .clear, #[x], #[t]⟩, ty, pos, after, g⟩ ts K = clearK T t (ts.ev x) ts dst K := rfl
@[go_sem] theorem opK_max (x y : Operand) (at_ : Array TypeId) : opK T ⟨dst, .call ⟨.builtin .max, #[x, y], at_⟩, ty, pos, after, g⟩ ts K = minmaxK true (ts.ev x) (ts.ev y) ts dst K := rfl
@[go_sem] theorem opK_min (x y : Operand) (at_ : Array TypeId) : opK T ⟨dst, .call ⟨.builtin .min, #[x, y], at_⟩, ty, pos, after, g⟩ ts K = minmaxK false (ts.ev x) (ts.ev y) ts dst K := rfl
@[go_sem] theorem minmaxK_max (k k' : IntKind) (n m : Int) : minmaxK true (.int k n) (.int k' m) ts dst K = setK ts dst (.int k (max n m)) K := rfl
@[go_sem] theorem minmaxK_min (k k' : IntKind) (n m : Int) : minmaxK false (.int k n) (.int k' m) ts dst K = setK ts dst (.int k (min n m)) K := rfl
def buildK (T : Tys P) (k : TyK) (zero : List AV) (parts : List (Nat × AV)) (ts : TS) (dst : Option Nat) (K : TS → Prop) : Prop :=
  match k with
    | .struct fs => (∀ f ∈ fs, (T.ty f.2.1).k ≠ .unk) ∧ optK (fillA (placeS T fs) zero parts) fun cs => setK ts dst (.agg cs) K
    | _ => False
@[go_sem] theorem opK_build (t : TypeId) (parts : Array (Nat × Operand)) : opK T ⟨dst, .build t parts, ty, pos, after, g⟩ ts K = buildK T (T.ty t).k (T.ty t).zero (parts.toList.map fun p => (p.1, ts.ev p.2)) ts dst K := rfl
@[go_sem] theorem buildK_struct (fs : List (Nat × Nat × String)) (zero : List AV) (parts : List (Nat × AV)) : buildK T (.struct fs) zero parts ts dst K = ((∀ f ∈ fs, (T.ty f.2.1).k ≠ .unk) ∧ optK (fillA (placeS T fs) zero parts) fun cs => setK ts dst (.agg cs) K) := rfl
def buildSliceK (T : Tys P) (k : TyK) (n : Nat) (parts : List (Nat × AV)) (ts : TS) (dst : Option Nat) (K : TS → Prop) : Prop :=
  match k with
    | .slice e => (T.ty e).k ≠ .unk ∧ 0 < (T.ty e).sz ∧ parts.map (·.1) = List.range n ∧ n * (T.ty e).sz ≤ 16777216 ∧
        (∀ p ∈ parts, p.2.known = true ∧ p.2.cells.length = (T.ty e).sz) ∧ newArrK ts dst (T.ty e).sz (parts.map (·.2)) K
    | _ => False
@[go_sem] theorem opK_buildSlice (t : TypeId) (n : Nat) (parts : Array (Nat × Operand)) : opK T ⟨dst, .buildSlice t n parts, ty, pos, after, g⟩ ts K = buildSliceK T (T.ty t).k n (parts.toList.map fun p => (p.1, ts.ev p.2)) ts dst K := by
  show (match (T.ty t).k with
    | .slice e => _
    | _ => False) = buildSliceK T (T.ty t).k n _ ts dst K
  unfold buildSliceK
  cases (T.ty t).k <;> simp only [List.map_map, Function.comp_def]
  rename_i e
  have h : (∀ p ∈ parts.toList, (ts.ev p.2).known = true ∧ (ts.ev p.2).cells.length = (T.ty e).sz) ↔ (∀ p ∈ parts.toList.map (fun p => (p.1, ts.ev p.2)), p.2.known = true ∧ p.2.cells.length = (T.ty e).sz) :=
    ⟨fun h p hp => by obtain ⟨q, hq, rfl⟩ := List.mem_map.1 hp; exact h q hq, fun h p hp => h (p.1, ts.ev p.2) (List.mem_map.2 ⟨p, hp, rfl⟩)⟩
  rw [h]
@[go_sem] theorem buildSliceK_slice (e n : Nat) (parts : List (Nat × AV)) : buildSliceK T (.slice e) n parts ts dst K = ((T.ty e).k ≠ .unk ∧ 0 < (T.ty e).sz ∧ parts.map (·.1) = List.range n ∧ n * (T.ty e).sz ≤ 16777216 ∧
        (∀ p ∈ parts, p.2.known = true ∧ p.2.cells.length = (T.ty e).sz) ∧ newArrK ts dst (T.ty e).sz (parts.map (·.2)) K) := rfl
end ops

section kont
variable (ts : TS) (K : TS → Prop) (d u : Nat) (x : AV)
@[go_sem] theorem setK_some : setK ts (some d) x K = (d < ts.n ∧ K (ts.put d x)) := rfl
@[go_sem] theorem setK_none : setK ts none x K = K ts := rfl
@[go_sem] theorem newBoxK_some (cs : List AV) : newBoxK ts (some d) cs K = (d < ts.n ∧ K ((ts.new d (.box cs)).put d (.ref d (ts.gen d + 1) 0))) := rfl
@[go_sem] theorem newArrK_some (sz : Nat) (xs : List AV) : newArrK ts (some d) sz xs K = (d < ts.n ∧ K ((ts.new d (.arr sz xs)).put d (.os d (ts.gen d + 1) xs.length))) := rfl
@[go_sem] theorem optK_some' {α : Type} (a : α) (K : α → Prop) : optK (some a) K = K a := rfl
@[go_sem] theorem optK_none {α : Type} (K : α → Prop) : optK (none : Option α) K = False := rfl
@[go_sem] theorem optK_ite {α : Type} (c : Prop) [Decidable c] (a : α) (K : α → Prop) : optK (if c then some a else none) K = (c ∧ K a) := by
  by_cases h : c <;> simp [h, optK]
@[go_sem] theorem boolK_bool (b : Bool) (K : Bool → Prop) : boolK (.bool b) K = K b := rfl
@[go_sem] theorem intK_int (k : IntKind) (n : Int) (K : IntKind → Int → Prop) : intK (.int k n) K = K k n := rfl
@[go_sem] theorem afterK_val (dst : Option Nat) : afterK ts dst (.val x) K = setK ts dst x K := rfl
@[go_sem] theorem afterK_own (dst : Option Nat) (sz : Nat) (xs : List AV) : afterK ts dst (.own sz xs) K = newArrK ts dst sz xs K := rfl
@[go_sem] theorem putDst_none : putDst ts none x = ts := rfl
@[go_sem] theorem putDst_some : putDst ts (some d) x = ts.put d x := rfl

@[go_sem] theorem n_put : (ts.put d x).n = ts.n := rfl
@[go_sem] theorem n_new (o : Ob) : (ts.new d o).n = ts.n := rfl
@[go_sem] theorem n_setObj (o : Ob) : (ts.setObj d o).n = ts.n := rfl
@[go_sem] theorem n_kill : (ts.kill d).n = ts.n := rfl
@[go_sem] theorem tmp_put : (ts.put d x).tmp u = if u = d then x else ts.tmp u := rfl
@[go_sem] theorem tmp_new (o : Ob) : (ts.new d o).tmp = ts.tmp := rfl
@[go_sem] theorem tmp_setObj (o : Ob) : (ts.setObj d o).tmp = ts.tmp := rfl
@[go_sem] theorem tmp_kill : (ts.kill d).tmp = ts.tmp := rfl
@[go_sem] theorem gen_put : (ts.put d x).gen = ts.gen := rfl
@[go_sem] theorem gen_new (o : Ob) : (ts.new d o).gen u = if u = d then ts.gen d + 1 else ts.gen u := rfl
@[go_sem] theorem gen_setObj (o : Ob) : (ts.setObj d o).gen = ts.gen := rfl
@[go_sem] theorem gen_kill : (ts.kill d).gen = ts.gen := rfl
@[go_sem] theorem obj_put : (ts.put d x).obj = ts.obj := rfl
@[go_sem] theorem obj_new (o : Ob) : (ts.new d o).obj u = if u = d then o else ts.obj u := rfl
@[go_sem] theorem obj_setObj (o : Ob) : (ts.setObj d o).obj u = if u = d then o else ts.obj u := rfl
@[go_sem] theorem obj_kill : (ts.kill d).obj u = if u = d then .dead else ts.obj u := rfl
@[go_sem] theorem unbase_none : ts.unbase .none = ts := rfl
@[go_sem] theorem unbase_own : ts.unbase (.own d) = ts.kill d := rfl

@[go_sem] theorem ev_tmp (t : Nat) : ts.ev (.tmp t) = ts.tmp t := rfl
@[go_sem] theorem ev_func (f : Nat) : ts.ev (.func f) = .clo (.func f) [] [] := rfl
@[go_sem] theorem ev_int (k : IntKind) (n : Int) : ts.ev (.const (.int k n)) = .int k n := rfl
@[go_sem] theorem ev_bool (b : Bool) : ts.ev (.const (.bool b)) = .bool b := rfl
@[go_sem] theorem ev_str (s : ByteArray) : ts.ev (.const (.string s)) = .str s.data.toList := rfl
@[go_sem] theorem ev_nils : ts.ev (.const (.slice none 0 0)) = .slice true [] := rfl
@[go_sem] theorem ev_nilp : ts.ev (.const (.pointer none)) = .nilp := rfl
@[go_sem] theorem ev_nilf : ts.ev (.const .nilFunc) = .nilf := rfl
@[go_sem] theorem ev_nilm : ts.ev (.const (.map none)) = .nilm := rfl
@[go_sem] theorem ev_niface : ts.ev (.const .nilIface) = .niface := rfl

@[go_sem] theorem ptr_ro (cs : List AV) : ts.ptr (.ro cs) = some cs := rfl
@[go_sem] theorem ptr_ref (g off : Nat) : ts.ptr (.ref d g off) = if g = ts.gen d then (match ts.obj d with | .box cs => some (cs.drop off) | _ => none) else none := rfl
@[go_sem] theorem ptr_eref (g i o : Nat) : ts.ptr (.eref d g i o) = if g = ts.gen d then (match ts.obj d with | .arr _ xs => if i < xs.length then some ((xs.getD i .any).cells.drop o) else none | _ => none) else none := rfl
@[go_sem] theorem shift_ro (cs : List AV) (o : Nat) : ts.shift (.ro cs) o = if o < cs.length then some (.ro (cs.drop o)) else none := rfl
@[go_sem] theorem shift_ref (g o o' : Nat) : ts.shift (.ref d g o) o' = if ts.live d g then some (.ref d g (o + o')) else none := rfl
@[go_sem] theorem shift_eref (g i o o' : Nat) : ts.shift (.eref d g i o) o' = if ts.live d g then some (.eref d g i (o + o')) else none := rfl
@[go_sem] theorem live_eq (g : Nat) : ts.live d g = (g == ts.gen d && (ts.obj d).kind.isSome) := rfl
@[go_sem] theorem kind_box (cs : List AV) : (Ob.box cs).kind = some 0 := rfl
@[go_sem] theorem kind_arr (sz : Nat) (xs : List AV) : (Ob.arr sz xs).kind = some sz := rfl
@[go_sem] theorem sl_slice (c : Bool) (xs : List AV) : ts.sl (.slice c xs) = some xs := rfl
@[go_sem] theorem sl_os (g len : Nat) : ts.sl (.os d g len) = if g = ts.gen d then (match ts.obj d with | .arr _ xs => if len ≤ xs.length then some (xs.take len) else none | _ => none) else none := rfl
@[go_sem] theorem len_slice (c : Bool) (xs : List AV) : ts.len (.slice c xs) = some xs.length := rfl
@[go_sem] theorem len_os (g len : Nat) : ts.len (.os d g len) = if ts.live d g then some len else none := rfl
@[go_sem] theorem len_ot (g o len : Nat) : ts.len (.ot d g o len) = if ts.live d g then some len else none := rfl
@[go_sem] theorem sl_ot (g o len : Nat) : ts.sl (.ot d g o len) = if g = ts.gen d then (match ts.obj d with | .arr _ xs => if o + len ≤ xs.length then some ((xs.drop o).take len) else none | _ => none) else none := rfl
@[go_sem] theorem len_str (l : List UInt8) : ts.len (.str l) = some l.length := rfl
@[go_sem] theorem len_nilm : ts.len .nilm = some 0 := rfl
@[go_sem] theorem lenK_slice (t e : Nat) (x : AV) (dst : Option Nat) : lenK T t x ts dst K = (lenFits (T.ty t).k x = true ∧ optK (ts.len x) fun n => setK ts dst (.int .i64 n) K) := rfl
@[go_sem] theorem lenFits_slice (e : Nat) (c : Bool) (xs : List AV) : lenFits (.slice e) (.slice c xs) = true := rfl
@[go_sem] theorem lenFits_os (e d g len : Nat) : lenFits (.slice e) (.os d g len) = true := rfl
@[go_sem] theorem lenFits_ot (e d g o len : Nat) : lenFits (.slice e) (.ot d g o len) = true := rfl
@[go_sem] theorem lenFits_str (l : List UInt8) : lenFits .str (.str l) = true := rfl
@[go_sem] theorem lenFits_map (k e : Nat) : lenFits (.map k e) .nilm = true := rfl
@[go_sem] theorem at_slice (c : Bool) (xs : List AV) (sz : Nat) (n : Int) : ts.at (.slice c xs) sz n = if 0 ≤ n ∧ n < xs.length ∧ (xs.getD n.toNat .any).cells.length = sz then some (.ro (xs.getD n.toNat .any).cells) else none := rfl
@[go_sem] theorem at_os (g len sz : Nat) (n : Int) : ts.at (.os d g len) sz n = if g = ts.gen d then (match ts.obj d with
      | .arr sz' _ => if 0 ≤ n ∧ n < len ∧ sz' = sz then some (.eref d g n.toNat 0) else none
      | _ => none) else none := rfl
@[go_sem] theorem at_ot (g off len sz : Nat) (n : Int) : ts.at (.ot d g off len) sz n = if g = ts.gen d then (match ts.obj d with
      | .arr sz' _ => if 0 ≤ n ∧ n < len ∧ sz' = sz then some (.eref d g (off + n.toNat) 0) else none
      | _ => none) else none := rfl
@[go_sem] theorem base_none (sz : Nat) : ts.base (.slice true []) sz = some (.none, []) := rfl
@[go_sem] theorem base_os (g len sz : Nat) : ts.base (.os d g len) sz = if g = ts.gen d then (match ts.obj d with | .arr sz' xs => if sz' = sz ∧ len ≤ xs.length then some (.own d, xs.take len) else Option.none | _ => Option.none) else Option.none := rfl
@[go_sem] theorem poke_ref (g off : Nat) (ys : List AV) : ts.poke (.ref d g off) ys = if g = ts.gen d then (match ts.obj d with | .box cs => if off + ys.length ≤ cs.length then some (d, .box (setRange cs off ys)) else none | _ => none) else none := rfl
@[go_sem] theorem poke_eref (g i o : Nat) (ys : List AV) : ts.poke (.eref d g i o) ys = if g = ts.gen d then (match ts.obj d with
      | .arr sz xs => if i < xs.length ∧ o + ys.length ≤ sz ∧ ys ≠ [] then some (d, .arr sz (xs.set i (pokeEl (xs.getD i .any) o ys))) else none
      | _ => none) else none := rfl
@[go_sem] theorem pokeEl_agg (cs : List AV) (o : Nat) (ys : List AV) : pokeEl (.agg cs) o ys = .agg (setRange cs o ys) := rfl
@[go_sem] theorem setRange_eq (cs ys : List AV) (o : Nat) : setRange cs o ys = cs.take o ++ ys ++ cs.drop (o + ys.length) := rfl
@[go_sem] theorem cells_agg (cs : List AV) : (AV.agg cs).cells = cs := rfl
@[go_sem] theorem cells_int (k : IntKind) (n : Int) : (AV.int k n).cells = [.int k n] := rfl
@[go_sem] theorem cells_bool (b : Bool) : (AV.bool b).cells = [.bool b] := rfl
@[go_sem] theorem cells_str (s : List UInt8) : (AV.str s).cells = [.str s] := rfl
@[go_sem] theorem cells_slice (c : Bool) (xs : List AV) : (AV.slice c xs).cells = [.slice c xs] := rfl
@[go_sem] theorem cells_os (g len : Nat) : (AV.os d g len).cells = [.os d g len] := rfl
@[go_sem] theorem cells_ref (g len : Nat) : (AV.ref d g len).cells = [.ref d g len] := rfl
@[go_sem] theorem cells_nilp : AV.nilp.cells = [.nilp] := rfl
@[go_sem] theorem cells_nilf : AV.nilf.cells = [.nilf] := rfl
@[go_sem] theorem cells_nilm : AV.nilm.cells = [.nilm] := rfl
@[go_sem] theorem cells_clo (fn : Fn) (a b : List AV) : (AV.clo fn a b).cells = [.clo fn a b] := rfl
@[go_sem] theorem known_agg (cs : List AV) : (AV.agg cs).known = true := rfl
@[go_sem] theorem known_int (k : IntKind) (n : Int) : (AV.int k n).known = true := rfl
@[go_sem] theorem known_bool (b : Bool) : (AV.bool b).known = true := rfl
@[go_sem] theorem known_str (s : List UInt8) : (AV.str s).known = true := rfl
@[go_sem] theorem known_slice (c : Bool) (xs : List AV) : (AV.slice c xs).known = true := rfl
@[go_sem] theorem known_os (g len : Nat) : (AV.os d g len).known = true := rfl
@[go_sem] theorem known_clo (fn : Fn) (a b : List AV) : (AV.clo fn a b).known = true := rfl
@[go_sem] theorem known_nilf : AV.nilf.known = true := rfl
@[go_sem] theorem known_nilm : AV.nilm.known = true := rfl
@[go_sem] theorem one_int (k : IntKind) (n : Int) : (AV.int k n).one = true := rfl
@[go_sem] theorem one_bool (b : Bool) : (AV.bool b).one = true := rfl
@[go_sem] theorem one_str (s : List UInt8) : (AV.str s).one = true := rfl
@[go_sem] theorem one_slice (c : Bool) (xs : List AV) : (AV.slice c xs).one = true := rfl
@[go_sem] theorem one_os (g len : Nat) : (AV.os d g len).one = true := rfl
@[go_sem] theorem one_ref (g len : Nat) : (AV.ref d g len).one = true := rfl
@[go_sem] theorem one_nilp : AV.nilp.one = true := rfl
@[go_sem] theorem one_nilf : AV.nilf.one = true := rfl
@[go_sem] theorem one_nilm : AV.nilm.one = true := rfl
@[go_sem] theorem one_clo (fn : Fn) (a b : List AV) : (AV.clo fn a b).one = true := rfl
@[go_sem] theorem agg_struct (fs : List (Nat × Nat × String)) : (TyK.struct fs).agg = true := rfl
@[go_sem] theorem agg_array (n e : Nat) : (TyK.array n e).agg = true := rfl
@[go_sem] theorem agg_int (k : IntKind) : (TyK.int k).agg = false := rfl
@[go_sem] theorem agg_bool : TyK.bool.agg = false := rfl
@[go_sem] theorem agg_str : TyK.str.agg = false := rfl
@[go_sem] theorem agg_slice (e : Nat) : (TyK.slice e).agg = false := rfl
@[go_sem] theorem agg_func : TyK.func.agg = false := rfl
@[go_sem] theorem agg_map (k e : Nat) : (TyK.map k e).agg = false := rfl
@[go_sem] theorem agg_ptr (e : Nat) : (TyK.ptr e).agg = false := rfl
@[go_sem] theorem fillA_nil (pl : Nat → Option (Nat × Nat)) (cs : List AV) : fillA pl cs [] = some cs := rfl
@[go_sem] theorem fillA_cons (pl : Nat → Option (Nat × Nat)) (cs : List AV) (i : Nat) (x : AV) (r : List (Nat × AV)) : fillA pl cs ((i, x) :: r) =
    match pl i with
    | none => none
    | some (off, size) => if x.known = true ∧ x.cells.length = size ∧ off + size ≤ cs.length then fillA pl (setRange cs off x.cells) r else none := rfl
@[go_sem] theorem placeS_eq (fs : List (Nat × Nat × String)) (i : Nat) : placeS T fs i = (fs[i]?).map fun f => (f.1, (T.ty f.2.1).sz) := rfl
end kont

def loadKK (k : TyK) (sz : Nat) (cs : List AV) (ts : TS) (dst : Option Nat) (K : TS → Prop) : Prop :=
  match k with
  | .unk => False
  | k => (if k.agg then sz else 1) ≤ cs.length ∧ setK ts dst (if k.agg then .agg (cs.take sz) else cs.getD 0 .any) K
@[go_sem] theorem loadK_eq (t : Nat) (cs : List AV) (ts : TS) (dst : Option Nat) (K : TS → Prop) : loadK T t cs ts dst K = loadKK (T.ty t).k (T.ty t).sz cs ts dst K := rfl
section
variable (sz : Nat) (cs : List AV) (ts : TS) (dst : Option Nat) (K : TS → Prop)
@[go_sem] theorem loadKK_struct (fs : List (Nat × Nat × String)) : loadKK (.struct fs) sz cs ts dst K = (sz ≤ cs.length ∧ setK ts dst (.agg (cs.take sz)) K) := rfl
@[go_sem] theorem loadKK_array (n e : Nat) : loadKK (.array n e) sz cs ts dst K = (sz ≤ cs.length ∧ setK ts dst (.agg (cs.take sz)) K) := rfl
@[go_sem] theorem loadKK_int (k : IntKind) : loadKK (.int k) sz cs ts dst K = (1 ≤ cs.length ∧ setK ts dst (cs.getD 0 .any) K) := rfl
@[go_sem] theorem loadKK_bool : loadKK .bool sz cs ts dst K = (1 ≤ cs.length ∧ setK ts dst (cs.getD 0 .any) K) := rfl
@[go_sem] theorem loadKK_str : loadKK .str sz cs ts dst K = (1 ≤ cs.length ∧ setK ts dst (cs.getD 0 .any) K) := rfl
@[go_sem] theorem loadKK_slice (e : Nat) : loadKK (.slice e) sz cs ts dst K = (1 ≤ cs.length ∧ setK ts dst (cs.getD 0 .any) K) := rfl
@[go_sem] theorem loadKK_func : loadKK .func sz cs ts dst K = (1 ≤ cs.length ∧ setK ts dst (cs.getD 0 .any) K) := rfl
@[go_sem] theorem loadKK_map (k e : Nat) : loadKK (.map k e) sz cs ts dst K = (1 ≤ cs.length ∧ setK ts dst (cs.getD 0 .any) K) := rfl
@[go_sem] theorem loadKK_ptr (e : Nat) : loadKK (.ptr e) sz cs ts dst K = (1 ≤ cs.length ∧ setK ts dst (cs.getD 0 .any) K) := rfl
@[go_sem] theorem loadKK_iface : loadKK .iface sz cs ts dst K = (1 ≤ cs.length ∧ setK ts dst (cs.getD 0 .any) K) := rfl
end

section
variable (ts : TS) (dst : Option Nat) (K : TS → Prop)
def appendKK (T : Tys P) (k k2 : TyK) (s x : AV) (ts : TS) (dst : Option Nat) (K : TS → Prop) : Prop :=
  match k, k2, dst with
  | .slice e, .slice _, some d =>
    (T.ty e).k ≠ .unk ∧ 0 < (T.ty e).sz ∧ d < ts.n ∧
    optK (ts.base s (T.ty e).sz) fun b => optK (ts.sl x) fun ys =>
      (∀ y ∈ ys, y.cells.length = (T.ty e).sz) ∧ (∀ y ∈ ys, y.cells.all AV.one = true) ∧ ((b.2.length + ys.length) * (T.ty e).bytes ≤ 140737488355328 ∧ b.2.length + ys.length ≤ 9223372036854775807) ∧
      K (((ts.unbase b.1).new d (.arr (T.ty e).sz (b.2 ++ AV.nrm.nrmL ys))).put d (.os d (ts.gen d + 1) (b.2.length + ys.length)))
  | _, _, _ => False
@[go_sem] theorem appendK_eq (t tx : Nat) (s x : AV) : appendK T t tx s x ts dst K = appendKK T (T.ty t).k (T.ty tx).k s x ts dst K := rfl
/-- The bounds that an append asks. -/
def Room (n bytes : Nat) : Prop := n * bytes ≤ 140737488355328 ∧ n ≤ 9223372036854775807
@[go_sem] theorem appendKK_eq (e e' d : Nat) (s x : AV) : appendKK T (.slice e) (.slice e') s x ts (some d) K = ((T.ty e).k ≠ .unk ∧ 0 < (T.ty e).sz ∧ d < ts.n ∧
    optK (ts.base s (T.ty e).sz) fun b => optK (ts.sl x) fun ys =>
      (∀ y ∈ ys, y.cells.length = (T.ty e).sz) ∧ (∀ y ∈ ys, y.cells.all AV.one = true) ∧ Room (b.2.length + ys.length) (T.ty e).bytes ∧
      K (((ts.unbase b.1).new d (.arr (T.ty e).sz (b.2 ++ AV.nrm.nrmL ys))).put d (.os d (ts.gen d + 1) (b.2.length + ys.length)))) := rfl
theorem room_big {n b : Nat} (h : n ≤ 68719476736) (hb : b ≤ 2048) : Room n b := by
  unfold Room
  refine ⟨?_, by omega⟩
  calc n * b ≤ 68719476736 * 2048 := Nat.mul_le_mul h hb
    _ ≤ 140737488355328 := by decide
theorem room_small {n b : Nat} (h : n ≤ 8589934592) (hb : b ≤ 16384) : Room n b := by
  unfold Room
  refine ⟨?_, by omega⟩
  calc n * b ≤ 8589934592 * 16384 := Nat.mul_le_mul h hb
    _ ≤ 140737488355328 := by decide
def sliceKK (T : Tys P) (k : TyK) (x : AV) (lo hi mx : Option Operand) (ts : TS) (dst : Option Nat) (K : TS → Prop) : Prop :=
  match k, x with
  | .slice e, .slice clip xs =>
    (T.ty e).k ≠ .unk ∧ (∀ x ∈ xs, x.cells.length = (T.ty e).sz) ∧ optK (ts.optI lo 0) fun l => optK (ts.optI hi xs.length) fun u =>
      (match mx with
       | none => 0 ≤ l ∧ l ≤ u ∧ u ≤ xs.length ∧ setK ts dst (.slice (clip && (u == xs.length)) ((xs.take u.toNat).drop l.toNat)) K
       | some m => hi.isSome = true ∧ optK (ts.optI (some m) 0) fun m => 0 ≤ l ∧ l ≤ u ∧ u ≤ m ∧ m ≤ xs.length ∧ setK ts dst (.slice (m == u) ((xs.take u.toNat).drop l.toNat)) K)
  | .slice e, .os d g len =>
    (T.ty e).k ≠ .unk ∧ match lo, mx with
      | none, none => ts.live d g = true ∧ optK (ts.optI hi len) fun u => 0 ≤ u ∧ u ≤ len ∧ setK ts dst (.os d g u.toNat) K
      | _, _ => sliceOtK T e d g len lo hi mx ts dst K
  | .str, .str s =>
    mx.isNone = true ∧ optK (ts.optI lo 0) fun l => optK (ts.optI hi s.length) fun u => 0 ≤ l ∧ l ≤ u ∧ u ≤ s.length ∧ setK ts dst (.str ((s.take u.toNat).drop l.toNat)) K
  | _, _ => False
@[go_sem] theorem sliceK_eq (t : Nat) (x : AV) (lo hi mx : Option Operand) : sliceK T t x lo hi mx ts dst K = sliceKK T (T.ty t).k x lo hi mx ts dst K := rfl
@[go_sem] theorem sliceKK_s (e : Nat) (clip : Bool) (xs : List AV) (lo hi : Option Operand) : sliceKK T (.slice e) (.slice clip xs) lo hi none ts dst K = ((T.ty e).k ≠ .unk ∧ (∀ x ∈ xs, x.cells.length = (T.ty e).sz) ∧ optK (ts.optI lo 0) fun l => optK (ts.optI hi xs.length) fun u =>
      0 ≤ l ∧ l ≤ u ∧ u ≤ xs.length ∧ setK ts dst (.slice (clip && (u == xs.length)) ((xs.take u.toNat).drop l.toNat)) K) := rfl
@[go_sem] theorem sliceKK_3 (e : Nat) (clip : Bool) (xs : List AV) (lo hi : Option Operand) (m : Operand) : sliceKK T (.slice e) (.slice clip xs) lo hi (some m) ts dst K = ((T.ty e).k ≠ .unk ∧ (∀ x ∈ xs, x.cells.length = (T.ty e).sz) ∧ optK (ts.optI lo 0) fun l => optK (ts.optI hi xs.length) fun u =>
      hi.isSome = true ∧ optK (ts.optI (some m) 0) fun m => 0 ≤ l ∧ l ≤ u ∧ u ≤ m ∧ m ≤ xs.length ∧ setK ts dst (.slice (m == u) ((xs.take u.toNat).drop l.toNat)) K) := rfl
@[go_sem] theorem sliceKK_o (e d g len : Nat) (hi : Option Operand) : sliceKK T (.slice e) (.os d g len) none hi none ts dst K = ((T.ty e).k ≠ .unk ∧ ts.live d g = true ∧ optK (ts.optI hi len) fun u => 0 ≤ u ∧ u ≤ len ∧ setK ts dst (.os d g u.toNat) K) := rfl
@[go_sem] theorem sliceKK_ol (e d g len : Nat) (l : Operand) (hi mx : Option Operand) : sliceKK T (.slice e) (.os d g len) (some l) hi mx ts dst K = ((T.ty e).k ≠ .unk ∧ sliceOtK T e d g len (some l) hi mx ts dst K) := by cases mx <;> rfl
@[go_sem] theorem sliceOtK_eq (e d g len : Nat) (lo hi mx : Option Operand) : sliceOtK T e d g len lo hi mx ts dst K = (g = ts.gen d ∧ optK (ts.obj d).arr? fun q => q.1 = (T.ty e).sz ∧ optK (ts.optI lo 0) fun l => optK (ts.optI hi len) fun u => 0 ≤ l ∧ l ≤ u ∧ u ≤ q.2.length ∧
        maxOk ts hi mx u q.2.length ∧ setK ts dst (.ot d g l.toNat (u.toNat - l.toNat)) K) := rfl
@[go_sem] theorem maxOk_none (ts : TS) (hi : Option Operand) (u : Int) (n : Nat) : maxOk ts hi none u n = True := rfl
@[go_sem] theorem maxOk_some (ts : TS) (hi : Option Operand) (m : Operand) (u : Int) (n : Nat) : maxOk ts hi (some m) u n = (hi.isSome = true ∧ optK (ts.optI (some m) 0) fun k => u ≤ k ∧ k ≤ n) := rfl
@[go_sem] theorem arrQ (sz : Nat) (xs : List AV) : (Ob.arr sz xs).arr? = some (sz, xs) := rfl
def clearKK (T : Tys P) (k : TyK) (x : AV) (ts : TS) (dst : Option Nat) (K : TS → Prop) : Prop :=
  match k, x with
  | .slice e, .ot d g off len => (T.ty e).k ≠ .unk ∧ 0 < (T.ty e).sz ∧ g = ts.gen d ∧ dst = none ∧ (zeroA (T.ty e).k (T.ty e).zero).cells = (T.ty e).zero ∧ (T.ty e).zero.all AV.one = true ∧
    optK (ts.obj d).arr? fun q => q.1 = (T.ty e).sz ∧ off + len ≤ q.2.length ∧ K (ts.setObj d (.arr q.1 (clrL q.2 off len (zeroA (T.ty e).k (T.ty e).zero))))
  | _, _ => False
@[go_sem] theorem clearK_eq (t : Nat) (x : AV) : clearK T t x ts dst K = clearKK T (T.ty t).k x ts dst K := rfl
@[go_sem] theorem clearKK_ot (e d g off len : Nat) : clearKK T (.slice e) (.ot d g off len) ts dst K = ((T.ty e).k ≠ .unk ∧ 0 < (T.ty e).sz ∧ g = ts.gen d ∧ dst = none ∧ (zeroA (T.ty e).k (T.ty e).zero).cells = (T.ty e).zero ∧ (T.ty e).zero.all AV.one = true ∧
    optK (ts.obj d).arr? fun q => q.1 = (T.ty e).sz ∧ off + len ≤ q.2.length ∧ K (ts.setObj d (.arr q.1 (clrL q.2 off len (zeroA (T.ty e).k (T.ty e).zero))))) := rfl
@[go_sem] theorem zeroA_struct (fs : List (Nat × Nat × String)) (zs : List AV) : zeroA (.struct fs) zs = .agg zs := rfl
@[go_sem] theorem zeroA_int (k : IntKind) (zs : List AV) : zeroA (.int k) zs = zs.getD 0 .any := rfl
@[go_sem] theorem zeroA_str (zs : List AV) : zeroA .str zs = zs.getD 0 .any := rfl
@[go_sem] theorem zeroA_slice (e : Nat) (zs : List AV) : zeroA (.slice e) zs = zs.getD 0 .any := rfl
def appendInKK (T : Tys P) (k k2 : TyK) (s x : AV) (ts : TS) (dst : Option Nat) (K : TS → Prop) : Prop :=
  match k, k2, s, dst with
  | .slice e, .slice _, .os d g len, some d' => (T.ty e).k ≠ .unk ∧ 0 < (T.ty e).sz ∧ d' < ts.n ∧ g = ts.gen d ∧
    optK (ts.obj d).arr? fun q => q.1 = (T.ty e).sz ∧ optK (ts.sl x) fun ys => (∀ y ∈ ys, y.cells.length = (T.ty e).sz) ∧ (∀ y ∈ ys, y.cells.all AV.one = true) ∧ len + ys.length ≤ q.2.length ∧
        K ((ts.setObj d (.arr q.1 (q.2.take len ++ ys ++ q.2.drop (len + ys.length)))).put d' (.os d g (len + ys.length)))
  | _, _, _, _ => False
@[go_sem] theorem appendInK_eq (t tx : Nat) (s x : AV) : appendInK T t tx s x ts dst K = appendInKK T (T.ty t).k (T.ty tx).k s x ts dst K := rfl
@[go_sem] theorem appendInKK_eq (e e' d g len d' : Nat) (x : AV) : appendInKK T (.slice e) (.slice e') (.os d g len) x ts (some d') K = ((T.ty e).k ≠ .unk ∧ 0 < (T.ty e).sz ∧ d' < ts.n ∧ g = ts.gen d ∧
    optK (ts.obj d).arr? fun q => q.1 = (T.ty e).sz ∧ optK (ts.sl x) fun ys => (∀ y ∈ ys, y.cells.length = (T.ty e).sz) ∧ (∀ y ∈ ys, y.cells.all AV.one = true) ∧ len + ys.length ≤ q.2.length ∧
        K ((ts.setObj d (.arr q.1 (q.2.take len ++ ys ++ q.2.drop (len + ys.length)))).put d' (.os d g (len + ys.length)))) := rfl
@[go_sem] theorem sliceKK_str (s : List UInt8) (lo hi mx : Option Operand) : sliceKK T .str (.str s) lo hi mx ts dst K = (mx.isNone = true ∧ optK (ts.optI lo 0) fun l => optK (ts.optI hi s.length) fun u => 0 ≤ l ∧ l ≤ u ∧ u ≤ s.length ∧ setK ts dst (.str ((s.take u.toNat).drop l.toNat)) K) := rfl
@[go_sem] theorem optI_none (d : Int) : ts.optI none d = some d := rfl
@[go_sem] theorem optI_tmp (t : Nat) (d : Int) : ts.optI (some (.tmp t)) d = (match ts.tmp t with | .int _ n => some n | _ => none) := rfl
@[go_sem] theorem optI_const (k : IntKind) (n d : Int) : ts.optI (some (.const (.int k n))) d = some n := rfl
@[go_sem] theorem binK_nil (t : TypeId) (x : Operand) : binK T .eql t x (.const (.slice none 0 0)) ts dst K = (match (T.ty t).k with
      | .slice _ => optK (ts.sl (ts.ev x)) fun xs => ∀ b : Bool, (b = true → xs = []) → setK ts dst (.bool b) K
      | _ => False) := rfl
@[go_sem] theorem binK_bool (op : BinOp) (t : TypeId) (x : Operand) (b : Bool) : binK T op t x (.const (.bool b)) ts dst K = binD T op t (ts.ev x) (.bool b) ts dst K := by cases op <;> rfl
end

/-- By the type's kind. -/
def binDD (T : Tys P) (k : TyK) (op : BinOp) (t : TypeId) (a b : AV) (ts : TS) (dst : Option Nat) (K : TS → Prop) : Prop :=
  match k with
  | .struct fs => P.eqGuardType P.depth t = false ∧ P.stoodInHeld t = false ∧ optK (eqS T fs op a b) fun r => setK ts dst (.bool r) K
  | .bool => optK (eqB op a b) fun r => setK ts dst (.bool r) K
  | _ => optK (binA op a b) fun r => setK ts dst r K
section
variable (op : BinOp) (t : TypeId) (a b : AV) (ts : TS) (dst : Option Nat) (K : TS → Prop)
@[go_sem] theorem binD_eq : binD T op t a b ts dst K = binDD T (T.ty t).k op t a b ts dst K := rfl
@[go_sem] theorem binDD_struct (fs : List (Nat × Nat × String)) : binDD T (.struct fs) op t a b ts dst K = (P.eqGuardType P.depth t = false ∧ P.stoodInHeld t = false ∧ optK (eqS T fs op a b) fun r => setK ts dst (.bool r) K) := rfl
@[go_sem] theorem binDD_int (k : IntKind) : binDD T (.int k) op t a b ts dst K = optK (binA op a b) fun r => setK ts dst r K := rfl
@[go_sem] theorem binDD_bool : binDD T .bool op t a b ts dst K = optK (eqB op a b) fun r => setK ts dst (.bool r) K := rfl
@[go_sem] theorem eqB_eql (p q : Bool) : eqB .eql (.bool p) (.bool q) = some (decide (p = q)) := rfl
@[go_sem] theorem eqB_neq (p q : Bool) : eqB .neq (.bool p) (.bool q) = some (!decide (p = q)) := by simp [eqB]
@[go_sem] theorem binDD_str : binDD T .str op t a b ts dst K = optK (binA op a b) fun r => setK ts dst r K := rfl
@[go_sem] theorem eqS_eql (fs : List (Nat × Nat × String)) (xs ys : List AV) : eqS T fs .eql (.agg xs) (.agg ys) = eqFs T xs ys fs := rfl
@[go_sem] theorem eqS_neq (fs : List (Nat × Nat × String)) (xs ys : List AV) : eqS T fs .neq (.agg xs) (.agg ys) = (eqFs T xs ys fs).map (!·) := rfl
@[go_sem] theorem eqFs_nil (xs ys : List AV) : eqFs T xs ys [] = some true := rfl
@[go_sem] theorem eqFs_cons (xs ys : List AV) (off ty : Nat) (nm : String) (r : List (Nat × Nat × String)) : eqFs T xs ys ((off, ty, nm) :: r) = if nm = "_" then none else
    match eqF (T.ty ty).k (xs.getD off .any) (ys.getD off .any), eqFs T xs ys r with
    | some b, some c => some (b && c)
    | _, _ => none := rfl
@[go_sem] theorem eqF_int (k k1 : IntKind) (a b : Int) : eqF (.int k) (.int k1 a) (.int k1 b) = some (decide (a = b)) := by simp [eqF]
@[go_sem] theorem eqF_bool (a b : Bool) : eqF .bool (.bool a) (.bool b) = some (decide (a = b)) := rfl
@[go_sem] theorem eqF_str (a b : List UInt8) : eqF .str (.str a) (.str b) = some (decide (a = b)) := rfl
end

theorem beq_eq_decide {α : Type} [DecidableEq α] (a b : α) : (a == b) = decide (a = b) := rfl
section bin
variable (k : IntKind) (a b : Int) (s t : List UInt8)
@[go_sem] theorem binA_add : binA .add (.int k a) (.int k b) = some (.int k (k.wrap (a + b))) := by simp [binA]
@[go_sem] theorem binA_sub : binA .sub (.int k a) (.int k b) = some (.int k (k.wrap (a - b))) := by simp [binA]
@[go_sem] theorem binA_mul : binA .mul (.int k a) (.int k b) = some (.int k (k.wrap (a * b))) := by simp [binA]
@[go_sem] theorem binA_eql : binA .eql (.int k a) (.int k b) = some (.bool (decide (a = b))) := by simp [binA, beq_eq_decide]
@[go_sem] theorem binA_neq : binA .neq (.int k a) (.int k b) = some (.bool (!decide (a = b))) := by simp [binA, bne, beq_eq_decide]
@[go_sem] theorem binA_lss : binA .lss (.int k a) (.int k b) = some (.bool (decide (a < b))) := by simp [binA]
@[go_sem] theorem binA_leq : binA .leq (.int k a) (.int k b) = some (.bool (decide (a ≤ b))) := by simp [binA]
@[go_sem] theorem binA_gtr : binA .gtr (.int k a) (.int k b) = some (.bool (decide (b < a))) := by simp [binA]
@[go_sem] theorem binA_geq : binA .geq (.int k a) (.int k b) = some (.bool (decide (b ≤ a))) := by simp [binA]
@[go_sem] theorem binA_rem : binA .rem (.int k a) (.int k b) = if b = 0 then none else some (.int k (a.tmod b)) := by simp [binA]
@[go_sem] theorem binA_quo : binA .quo (.int k a) (.int k b) = if b = 0 then none else some (.int k (k.wrap (a.tdiv b))) := by simp [binA]
@[go_sem] theorem binA_seql : binA .eql (.str s) (.str t) = some (.bool (decide (s = t))) := by show some (AV.bool (s == t)) = _; exact congrArg (fun b => some (AV.bool b)) (Bool.eq_iff_iff.2 (by simp))
@[go_sem] theorem binA_sneq : binA .neq (.str s) (.str t) = some (.bool (!decide (s = t))) := by show some (AV.bool (s != t)) = _; exact congrArg (fun b => some (AV.bool b)) (Bool.eq_iff_iff.2 (by simp))
@[go_sem] theorem binA_slss : binA .lss (.str s) (.str t) = some (.bool (Op.bytesLess s t)) := rfl
@[go_sem] theorem binA_sgtr : binA .gtr (.str s) (.str t) = some (.bool !(Op.bytesLess s t || s == t)) := rfl
@[go_sem] theorem binA_and : binA .and (.int k a) (.int k b) = some (.int k (k.wrap (BitVec.ofInt k.bits a &&& BitVec.ofInt k.bits b).toNat)) := by simp [binA]
end bin
theorem not_dec (p : Prop) [Decidable p] : (!decide p) = decide (¬ p) := by simp

end Go.Proofs.YtbggigdchkiffaaDoor.Lg

/- How a proof of a contract begins, and its steps in the form in which they are taken. -/
namespace Go.Proofs.YtbggigdchkiffaaDoor.Lg
set_option linter.unusedVariables false
set_option linter.unusedSimpArgs false
open Go
variable {P : Program}

/-- Of a size that memory bears with room to spare. -/
def Small (n : Nat) : Prop := n ≤ 4294967296

def ArgsAt (ts : TS) : Nat → List Arg → Prop
  | _, [] => True
  | k, .v x :: r => ts.tmp k = x ∧ ArgsAt ts (k + 1) r
  | k, .io cs :: r => (ts.tmp k = .ref k 0 0 ∧ ts.gen k = 0 ∧ ts.obj k = .box cs) ∧ ArgsAt ts (k + 1) r
  | k, .own sz xs :: r => (ts.tmp k = .os k 0 xs.length ∧ ts.gen k = 0 ∧ ts.obj k = .arr sz xs) ∧ ArgsAt ts (k + 1) r

theorem argsAt_argTS (n : Nat) : ∀ (r : List Arg) (args : List Arg) (k : Nat), (∀ i, args[k + i]? = r[i]?) → ArgsAt (argTS args n) k r
  | [], _, _, _ => trivial
  | .v x :: r, args, k, h => by
    have h0 : args[k]? = some (.v x) := by simpa using h 0
    exact ⟨by simp [argTS, h0], argsAt_argTS n r args (k + 1) fun i => by have := h (i + 1); rw [show k + 1 + i = k + (i + 1) by omega]; simpa using this⟩
  | .io cs :: r, args, k, h => by
    have h0 : args[k]? = some (.io cs) := by simpa using h 0
    exact ⟨⟨by simp [argTS, h0], rfl, by simp [argTS, h0]⟩, argsAt_argTS n r args (k + 1) fun i => by have := h (i + 1); rw [show k + 1 + i = k + (i + 1) by omega]; simpa using this⟩
  | .own sz xs :: r, args, k, h => by
    have h0 : args[k]? = some (.own sz xs) := by simpa using h 0
    exact ⟨⟨by simp [argTS, h0], rfl, by simp [argTS, h0]⟩, argsAt_argTS n r args (k + 1) fun i => by have := h (i + 1); rw [show k + 1 + i = k + (i + 1) by omega]; simpa using this⟩

def Ret.nrm : Ret → Ret
  | .val x => .val x.nrm
  | .own sz xs => .own sz (AV.nrm.nrmL xs)

theorem Post.nrm {E : Env} {R R' : Ret → (Nat → List AV) → Prop} (hr : ∀ r io, R r io → R' r.nrm io) {e : Ending} {w : World} (h : Post E R e w) : Post E R' e w := by
  obtain ⟨v, r, io, ts', G', he, hR, hrel, hio, hret⟩ := h
  cases r with
  | val x =>
    obtain ⟨h1, h2⟩ := hret
    refine ⟨v, _, io, ts'.put 0 x.nrm, G', he, hr _ _ hR, ?_, hio, by rw [pure_nrm]; exact h1, by simp [TS.put]⟩
    have h0 := hrel.tmp 0
    rw [h2] at h0
    have hn : 0 < ts'.n := by rw [← hrel.size]; simp
    have := hrel.put hn (v := v) (x := x.nrm) (by simpa using h0.nrm)
    simpa [Act.put] using this
  | own sz xs =>
    obtain ⟨d, g, h1, h2, h3, h4⟩ := hret
    have := hrel.nrmArr (d := d) (sz := sz) (xs := []) (ys := xs) (by simpa using h3)
    refine ⟨v, _, io, ts'.setObj d (.arr sz (AV.nrm.nrmL xs)), G', he, hr _ _ hR, by simpa using this, fun j b hj => ?_, d, g, by rw [nrmL_len]; exact h1, h2, by simp [TS.setObj], by rw [pureL_nrm]; exact h4⟩
    obtain ⟨g1, g2, g3⟩ := hio j b hj
    refine ⟨g1, ?_, g3⟩
    have hjd : j ≠ d := by rintro rfl; rw [h3] at g2; cases g2
    simp only [TS.setObj, upd_ne _ _ hjd]
    exact g2

theorem CallV.nrm {f : FuncId} {args : List Arg} {R R' : Ret → (Nat → List AV) → Prop} (hr : ∀ r io, R r io → R' r.nrm io) (h : CallV P f args R) : CallV P f args R' := by
  intro E G vals w hw hrel hpin
  have := h E G vals w hw hrel hpin
  split at this <;> rename_i heq
  · exact Calls.mono this fun e w' h => h.nrm hr
  · exact this.nrm hr
  · exact this.elim

/-- What a result may be, that a contract may say R of it. -/
def Ret.fits (R : Ret → (Nat → List AV) → Prop) (r : Ret) (io : Nat → List AV) : Prop := R r.nrm io ∨ (r = .val (.slice true []) ∧ ∃ sz, 0 < sz ∧ R (.own sz []) io)

theorem Post.fit {E : Env} {R : Ret → (Nat → List AV) → Prop} (hpin : ∀ j, E.pin j = none) {e : Ending} {w : World} (h : Post E (Ret.fits R) e w) : Post E R e w := by
  obtain ⟨v, r, io, ts', G', he, hR, hrel, hio, hret⟩ := h
  rcases hR with hR | ⟨rfl, sz, hsz, hR⟩
  · exact Post.nrm (R := fun r io => R r.nrm io) (fun _ _ h => h) ⟨v, r, io, ts', G', he, hR, hrel, hio, hret⟩
  · obtain ⟨_, h2⟩ := hret
    have h0 := hrel.tmp 0
    rw [h2] at h0
    have hv : ∃ a, v = .slice a 0 0 := by
      have h0 : Rep (ctxOf E G' ts' w) v (.slice true []) := by simpa using h0
      cases h0 with
      | slice0 _ a cap h => exact ⟨a, by rw [h rfl]⟩
      | slice => contradiction
    obtain ⟨ad, rfl⟩ := hv
    have hn : 0 < ts'.n := by rw [← hrel.size]; simp
    have := hrel.newObj (d := 0) hn (w' := w) (.arr sz []) w.heap.size none (Nat.le_refl _) (fun h => absurd rfl h) (Bel.refl _ _) (v := .slice ad 0 0) (x := .os 0 (ts'.gen 0 + 1) 0)
      (.os 0 _ _ _ rfl (by simp [ctxOf, TS.new]) fun _ _ => by unfold OsIs; simp [ctxOf, Ghost.set]) ⟨hsz, by simp, by simp [ctxOf, Ghost.set]⟩
    refine ⟨_, .own sz [], io, _, _, he, hR, by simpa [Act.put] using this, ?_, 0, ts'.gen 0 + 1, by simp [TS.put], by simp [TS.put, TS.new], by simp [TS.put, TS.new], rfl⟩
    intro j b hj
    rw [hpin j] at hj
    cases hj

theorem CallV.fit {f : FuncId} {args : List Arg} {R : Ret → (Nat → List AV) → Prop} (hio : ∀ (j : Nat) (cs : List AV), args[j]? ≠ some (Arg.io cs)) (h : CallV P f args (Ret.fits R)) : CallV P f args R := by
  intro E G vals w hw hrel hpin
  have hp : ∀ j, E.pin j = none := fun j => by
    cases hj : E.pin j with
    | none => rfl
    | some b =>
      obtain ⟨cs, hcs⟩ := (hpin j).2 ⟨b, hj⟩
      exact absurd hcs (hio j cs)
  have := h E G vals w hw hrel hpin
  split at this <;> rename_i heq
  · exact Calls.mono this fun e w' h => h.fit hp
  · exact this.fit hp
  · exact this.elim

theorem CallV.start {T : Tys P} {f : FuncId} {fn : Func} {c : Code} {args : List AV} {R : Ret → (Nat → List AV) → Prop} (hcall : ∀ (vals : Array Value) (w : World), (callFunc f vals).run P w = .ok (.enter f vals) w)
    (hf : P.funcs[f]? = some fn) (hb : fn.body = some c) {n : Nat} (hnt : fn.ntmps = n) (hn : args.length ≤ n)
    (h : ∀ (Q : Exit → TS → Prop) (ts : TS), (∀ ex ts', EndsP T fn (args.map Arg.v) (Ret.fits R) ex ts' ∨ EndsO T fn (args.map Arg.v) (Ret.fits R) ex ts' → Q ex ts') → ts.n = n → ArgsAt ts 0 (args.map Arg.v) → SpecC P c ts Q) : CallV P f (args.map Arg.v) R := by
  subst hnt
  refine CallV.fit (fun j cs h => by simp only [List.getElem?_map] at h; cases hh : args[j]? <;> rw [hh] at h <;> simp at h) ?_
  exact CallV.of_body (T := T) hcall hf hb (by simpa using hn) (h _ _ (fun _ _ h => h) rfl (argsAt_argTS _ _ (args.map Arg.v) 0 fun i => by simp))

theorem SpecOs.nil {ops : Array Oper} {K : TS → Prop} {ts : TS} (h : K ts) : SpecOs P ops K [] ts := h
theorem thenK_n {next : TS → Prop} {Q : Exit → TS → Prop} {ts : TS} (h : next ts) : thenK next Q .normal ts := h
theorem inBlockK_n {id : Nat} {Q : Exit → TS → Prop} {ts : TS} (h : Q .normal ts) : inBlockK id Q .normal ts := h
theorem SpecC.cond_t {c : Operand} {x y : Code} {ts : TS} {Q : Exit → TS → Prop} (hc : ts.ev c = .bool true) (h : SpecC P x ts Q) : SpecC P (.cond c x y) ts Q := SpecC.cond hc (fun _ => h) (fun h => by cases h)
theorem SpecC.cond_f {c : Operand} {x y : Code} {ts : TS} {Q : Exit → TS → Prop} (hc : ts.ev c = .bool false) (h : SpecC P y ts Q) : SpecC P (.cond c x y) ts Q := SpecC.cond hc (fun h => by cases h) (fun _ => h)

theorem SpecOs.guard_t (T : Tys P) {ops : Array Oper} {o : Oper} {l : List Oper} {ts : TS} {K : TS → Prop} {j d : Nat} {want : Bool} (hg : o.guard = some (j, want)) (hd : (ops[j]?).bind (·.dst) = some d) (hb : ts.tmp d = .bool want)
    (h : ∀ K' : TS → Prop, (∀ ts', SpecOs P ops K l ts' → K' ts') → opK T o ts K') : SpecOs P ops K (o :: l) ts :=
  SpecOs.guard T hg (b := some want) (by simp [guardOf, hd, hb]) (fun _ => h) (fun h => absurd rfl h)
theorem SpecOs.guard_f (T : Tys P) {ops : Array Oper} {o : Oper} {l : List Oper} {ts : TS} {K : TS → Prop} {j d : Nat} {want b : Bool} (hg : o.guard = some (j, want)) (hd : (ops[j]?).bind (·.dst) = some d) (hb : ts.tmp d = .bool b) (hne : (b == want) = false)
    (h0 : ∀ d, o.dst = some d → d < ts.n) (h : SpecOs P ops K l (putDst ts o.dst (.tup []))) : SpecOs P ops K (o :: l) ts :=
  SpecOs.guard T hg (b := some b) (by simp [guardOf, hd, hb]) (fun e => by cases e; simp at hne) (fun _ => ⟨h0, h⟩)
/-- A guard that was passed over itself. -/
theorem SpecOs.guard_n (T : Tys P) {ops : Array Oper} {o : Oper} {l : List Oper} {ts : TS} {K : TS → Prop} {j d : Nat} {want : Bool} (hg : o.guard = some (j, want)) (hd : (ops[j]?).bind (·.dst) = some d) (hb : ts.tmp d = .tup [])
    (h0 : ∀ d, o.dst = some d → d < ts.n) (h : SpecOs P ops K l (putDst ts o.dst (.tup []))) : SpecOs P ops K (o :: l) ts :=
  SpecOs.guard T hg (b := none) (by simp [guardOf, hd, hb]) (fun e => by cases e) (fun _ => ⟨h0, h⟩)
/-- A guard that is not known: both ways, each with the slot's value written in. -/
theorem SpecOs.guard_s {ops : Array Oper} {o : Oper} {l : List Oper} {ts : TS} {K : TS → Prop} {j d : Nat} {want b : Bool} (_ : o.guard = some (j, want)) (_ : (ops[j]?).bind (·.dst) = some d) (_ : ts.tmp d = .bool b)
    (ht : b = true → SpecOs P ops K (o :: l) ts) (hf : b = false → SpecOs P ops K (o :: l) ts) : SpecOs P ops K (o :: l) ts := by
  cases b
  · exact hf rfl
  · exact ht rfl

/-- A call by a contract of a pure function. -/
theorem SpecO.callP {o : Oper} {ts : TS} {K : TS → Prop} {fop : Operand} {xs : Array Operand} {at_ : Array TypeId} {f : FuncId} {caps args : List AV} {lent : List Nat} {x : AV} (hcall : CallP P f args x)
    (ho : o.op = .call { callee := .value fop, args := xs, argTypes := at_ }) (hf : ts.ev fop = .clo (.func f) [] caps) (hargs : ts.toArgs ((xs.toList.map ts.ev) ++ caps) = some (args, lent))
    (hl : lent = [] ∨ x.flat = true) (hk : setK ts o.dst x K) : SpecO P o ts K :=
  SpecO.call ho hf hargs hcall fun r io hr => by subst hr; exact .inl ⟨hl, hk⟩

/-- The same, the contract last. -/
theorem SpecO.callQ {o : Oper} {ts : TS} {K : TS → Prop} {fop : Operand} {xs : Array Operand} {at_ : Array TypeId} {f : FuncId} {caps args : List AV} {lent : List Nat} {x : AV}
    (ho : o.op = .call { callee := .value fop, args := xs, argTypes := at_ }) (hf : ts.ev fop = .clo (.func f) [] caps) (hargs : ts.toArgs ((xs.toList.map ts.ev) ++ caps) = some (args, lent))
    (hl : lent = [] ∨ x.flat = true) (hk : setK ts o.dst x K) (hcall : CallP P f args x) : SpecO P o ts K := SpecO.callP hcall ho hf hargs hl hk

/-- The contract of a function that hands back an array of the caller's own. -/
def CallO (P : Program) (f : FuncId) (args : List AV) (sz : Nat) (xs : List AV) : Prop := CallV P f (args.map Arg.v) (fun r _ => r = .own sz xs)

theorem SpecO.callO {o : Oper} {ts : TS} {K : TS → Prop} {fop : Operand} {xs : Array Operand} {at_ : Array TypeId} {f : FuncId} {caps args : List AV} {sz : Nat} {zs : List AV}
    (ho : o.op = .call { callee := .value fop, args := xs, argTypes := at_ }) (hf : ts.ev fop = .clo (.func f) [] caps) (hargs : ts.toArgs ((xs.toList.map ts.ev) ++ caps) = some (args, []))
    (hk : newArrK ts o.dst sz zs K) (hcall : CallO P f args sz zs) : SpecO P o ts K :=
  SpecO.call ho hf hargs hcall fun r io hr => by subst hr; exact .inl ⟨.inl rfl, hk⟩

theorem EndP {T : Tys P} {fn : Func} {args : List AV} {rs : List ResultVar} {ts : TS} {x y z : AV} {Q : Exit → TS → Prop} {ex : Exit}
    (hQ : ∀ ex ts', EndsP T fn (args.map Arg.v) (Ret.fits fun r _ => r = .val z) ex ts' ∨ EndsO T fn (args.map Arg.v) (Ret.fits fun r _ => r = .val z) ex ts' → Q ex ts')
    (hex : ex = .normal ∨ ex = .ret) (hrs : fn.results.toList = rs) (hx : ts.result T rs = some x) (hy : x.res ts = some y) (hz : y.nrm = z) : Q ex ts :=
  hQ _ _ (.inl ⟨hex, x, y, fun _ => [], by rw [hrs]; exact hx, hy, by refine .inl ?_; show Ret.val y.nrm = _; rw [hz], fun j cs h => by simp only [List.getElem?_map] at h; cases hh : args[j]? <;> rw [hh] at h <;> simp at h⟩)

theorem EndO {T : Tys P} {fn : Func} {args : List AV} {rs : List ResultVar} {ts : TS} {d g len sz : Nat} {xs zs : List AV} {Q : Exit → TS → Prop} {ex : Exit}
    (hQ : ∀ ex ts', EndsP T fn (args.map Arg.v) (Ret.fits fun r _ => r = .own sz zs) ex ts' ∨ EndsO T fn (args.map Arg.v) (Ret.fits fun r _ => r = .own sz zs) ex ts' → Q ex ts')
    (hex : ex = .normal ∨ ex = .ret) (hrs : fn.results.toList = rs) (hx : ts.result T rs = some (.os d g len)) (hg : g = ts.gen d) (ho : ts.obj d = .arr sz xs) (hl : len = xs.length) (hp : AV.pure.pureL xs = true) (hz : AV.nrm.nrmL xs = zs) : Q ex ts :=
  hQ _ _ (.inr ⟨hex, d, g, sz, xs, fun _ => [], by rw [hrs, hx, hl], hg, ho, hp, by refine .inl ?_; show Ret.own sz (AV.nrm.nrmL xs) = _; rw [hz], fun j cs h => by simp only [List.getElem?_map] at h; cases hh : args[j]? <;> rw [hh] at h <;> simp at h⟩)

/-- A nil slice, where the contract says an array of one's own. -/
theorem EndN {T : Tys P} {fn : Func} {args : List AV} {rs : List ResultVar} {ts : TS} {sz : Nat} {zs : List AV} {Q : Exit → TS → Prop} {ex : Exit}
    (hQ : ∀ ex ts', EndsP T fn (args.map Arg.v) (Ret.fits fun r _ => r = .own sz zs) ex ts' ∨ EndsO T fn (args.map Arg.v) (Ret.fits fun r _ => r = .own sz zs) ex ts' → Q ex ts')
    (hex : ex = .normal ∨ ex = .ret) (hrs : fn.results.toList = rs) (hx : ts.result T rs = some (.slice true [])) (hsz : 0 < sz) (hz : zs = []) : Q ex ts :=
  hQ _ _ (.inl ⟨hex, .slice true [], .slice true [], fun _ => [], by rw [hrs]; exact hx, rfl, .inr ⟨rfl, sz, hsz, by rw [hz]⟩, fun j cs h => by simp only [List.getElem?_map] at h; cases hh : args[j]? <;> rw [hh] at h <;> simp at h⟩)

mutual
theorem res_of_pure (ts : TS) : ∀ (x : AV), x.pure = true → x.res ts = some x
  | .agg cs, h => by simp only [AV.pure] at h; simp [AV.res, resL_of_pure ts cs h]
  | .tup cs, h => by simp only [AV.pure] at h; simp [AV.res, resL_of_pure ts cs h]
  | .any, h => by simp [AV.res, AV.pure]
  | .bool _, h => by simp [AV.res, AV.pure]
  | .int _ _, h => by simp [AV.res, AV.pure]
  | .str _, h => by simp [AV.res, AV.pure]
  | .slice _ _, h => by simp [AV.res, h]
  | .ro _, h => by simp [AV.res, h]
  | .nilp, h => by simp [AV.res, AV.pure]
  | .clo _ _ _, h => by simp [AV.res, h]
  | .nilf, h => by simp [AV.res, AV.pure]
  | .nilm, h => by simp [AV.res, AV.pure]
  | .niface, h => by simp [AV.res, AV.pure]
  | .iface _ _, h => by simp [AV.res, h]
  | .os _ _ _, h => by simp [AV.pure] at h
  | .ref _ _ _, h => by simp [AV.pure] at h
  | .eref _ _ _ _, h => by simp [AV.pure] at h
  | .ot _ _ _ _, h => by simp [AV.pure] at h
theorem resL_of_pure (ts : TS) : ∀ (l : List AV), AV.pure.pureL l = true → AV.res.resL ts l = some l
  | [], _ => rfl
  | x :: r, h => by
    simp only [AV.pure.pureL, Bool.and_eq_true] at h
    simp [AV.res.resL, res_of_pure ts x h.1, resL_of_pure ts r h.2]
end

section
variable (ts : TS) (T : Tys P)
@[go_sem] theorem result_tmp (t : Nat) : ts.result T [.tmp t] = some (ts.tmp t) := rfl
@[go_sem] theorem result_cell (a t : Nat) : ts.result T [.cell a t] = ts.resV T (.cell a t) := by
  unfold TS.result TS.resVs TS.resVs
  cases ts.resV T (.cell a t) <;> rfl
@[go_sem] theorem result_nil : ts.result T [] = some (.tup []) := rfl
@[go_sem] theorem result_two (r s : ResultVar) : ts.result T [r, s] = (match ts.resV T r, ts.resV T s with | some x, some y => some (.tup [x, y]) | _, _ => none) := by
  simp only [TS.result, TS.resVs]
  cases ts.resV T r <;> cases ts.resV T s <;> rfl
@[go_sem] theorem result_three (r s t : ResultVar) : ts.result T [r, s, t] = (match ts.resV T r, ts.resV T s, ts.resV T t with | some x, some y, some z => some (.tup [x, y, z]) | _, _, _ => none) := by
  simp only [TS.result, TS.resVs]
  cases ts.resV T r <;> cases ts.resV T s <;> cases ts.resV T t <;> rfl
@[go_sem] theorem resV_tmp (t : Nat) : ts.resV T (.tmp t) = some (ts.tmp t) := rfl
@[go_sem] theorem resV_cell (a t : Nat) : ts.resV T (.cell a t) = (match (T.ty t).k with
    | .unk => none
    | k => match ts.ptr (ts.tmp a) with
      | some cs => if k.agg then (if (T.ty t).sz ≤ cs.length then some (.agg (cs.take (T.ty t).sz)) else none) else (if 1 ≤ cs.length then some (cs.getD 0 .any) else none)
      | none => none) := rfl
@[go_sem] theorem res_int (k : IntKind) (n : Int) : (AV.int k n).res ts = some (.int k n) := rfl
@[go_sem] theorem res_bool (b : Bool) : (AV.bool b).res ts = some (.bool b) := rfl
@[go_sem] theorem res_str (s : List UInt8) : (AV.str s).res ts = some (.str s) := rfl
@[go_sem] theorem res_agg (cs : List AV) : (AV.agg cs).res ts = (AV.res.resL ts cs).map .agg := rfl
@[go_sem] theorem res_tup (cs : List AV) : (AV.tup cs).res ts = (AV.res.resL ts cs).map .tup := rfl
@[go_sem] theorem res_slice (c : Bool) (cs : List AV) : (AV.slice c cs).res ts = if AV.pure.pureL cs then some (.slice c cs) else none := rfl
@[go_sem] theorem res_os (d g len : Nat) : (AV.os d g len).res ts = if g = ts.gen d then (match ts.obj d with | .arr _ xs => if len ≤ xs.length ∧ AV.pure.pureL xs = true then some (.slice false (xs.take len)) else none | _ => none) else none := rfl
@[go_sem] theorem resL_nil : AV.res.resL ts [] = some [] := rfl
@[go_sem] theorem resL_cons (x : AV) (r : List AV) : AV.res.resL ts (x :: r) = match x.res ts, AV.res.resL ts r with
    | some y, some s => some (y :: s)
    | _, _ => none := rfl
end

section
variable (ts : TS)
@[go_sem] theorem toArgs_nil : ts.toArgs [] = some ([], []) := rfl
@[go_sem] theorem toArgs_cons (x : AV) (r : List AV) : ts.toArgs (x :: r) = match x.res ts, ts.toArgs r with
    | some y, some (ys, ds) => some (y.nrm :: ys, x.owns ++ ds)
    | _, _ => none := rfl
@[go_sem] theorem nrm_int (k : IntKind) (n : Int) : (AV.int k n).nrm = .int k n := rfl
@[go_sem] theorem nrm_bool (b : Bool) : (AV.bool b).nrm = .bool b := rfl
@[go_sem] theorem nrm_str (s : List UInt8) : (AV.str s).nrm = .str s := rfl
@[go_sem] theorem nrm_agg (cs : List AV) : (AV.agg cs).nrm = .agg (AV.nrm.nrmL cs) := rfl
@[go_sem] theorem nrm_tup (cs : List AV) : (AV.tup cs).nrm = .tup (AV.nrm.nrmL cs) := rfl
@[go_sem] theorem nrm_slice (c : Bool) (cs : List AV) : (AV.slice c cs).nrm = .slice false (AV.nrm.nrmL cs) := rfl
@[go_sem] theorem nrm_ro (cs : List AV) : (AV.ro cs).nrm = .ro (AV.nrm.nrmL cs) := rfl
@[go_sem] theorem nrm_clo (fn : Fn) (a b : List AV) : (AV.clo fn a b).nrm = .clo fn (AV.nrm.nrmL a) (AV.nrm.nrmL b) := rfl
@[go_sem] theorem nrm_nilp : AV.nilp.nrm = .nilp := rfl
@[go_sem] theorem nrm_nilf : AV.nilf.nrm = .nilf := rfl
@[go_sem] theorem nrm_nilm : AV.nilm.nrm = .nilm := rfl
@[go_sem] theorem nrm_niface : AV.niface.nrm = .niface := rfl
@[go_sem] theorem nrmL_nil : AV.nrm.nrmL [] = [] := rfl
@[go_sem] theorem nrmL_cons (x : AV) (r : List AV) : AV.nrm.nrmL (x :: r) = x.nrm :: AV.nrm.nrmL r := rfl
@[go_sem] theorem nrmL_append (l r : List AV) : AV.nrm.nrmL (l ++ r) = AV.nrm.nrmL l ++ AV.nrm.nrmL r := by simp [nrmL_eq]
@[go_sem] theorem owns_os (d g n : Nat) : (AV.os d g n).owns = [d] := rfl
@[go_sem] theorem owns_agg (cs : List AV) : (AV.agg cs).owns = AV.owns.ownsL cs := rfl
@[go_sem] theorem owns_int (k : IntKind) (n : Int) : (AV.int k n).owns = [] := rfl
@[go_sem] theorem owns_bool (b : Bool) : (AV.bool b).owns = [] := rfl
@[go_sem] theorem owns_str (s : List UInt8) : (AV.str s).owns = [] := rfl
@[go_sem] theorem owns_slice (c : Bool) (cs : List AV) : (AV.slice c cs).owns = [] := rfl
@[go_sem] theorem owns_ro (cs : List AV) : (AV.ro cs).owns = [] := rfl
@[go_sem] theorem owns_clo (fn : Fn) (a b : List AV) : (AV.clo fn a b).owns = [] := rfl
@[go_sem] theorem owns_nilf : AV.nilf.owns = [] := rfl
@[go_sem] theorem owns_nilp : AV.nilp.owns = [] := rfl
@[go_sem] theorem owns_nilm : AV.nilm.owns = [] := rfl
@[go_sem] theorem owns_niface : AV.niface.owns = [] := rfl
@[go_sem] theorem ownsL_nil : AV.owns.ownsL [] = [] := rfl
@[go_sem] theorem ownsL_cons (x : AV) (r : List AV) : AV.owns.ownsL (x :: r) = x.owns ++ AV.owns.ownsL r := rfl
@[go_sem] theorem res_ro (cs : List AV) : (AV.ro cs).res ts = if AV.pure.pureL cs then some (.ro cs) else none := rfl
@[go_sem] theorem res_clo (fn : Fn) (a b : List AV) : (AV.clo fn a b).res ts = if (AV.pure.pureL a && AV.pure.pureL b) = true then some (.clo fn a b) else none := rfl
@[go_sem] theorem res_nilp : AV.nilp.res ts = some .nilp := rfl
@[go_sem] theorem res_nilf : AV.nilf.res ts = some .nilf := rfl
@[go_sem] theorem res_nilm : AV.nilm.res ts = some .nilm := rfl
@[go_sem] theorem res_niface : AV.niface.res ts = some .niface := rfl
@[go_sem] theorem pureL_nil : AV.pure.pureL [] = true := rfl
@[go_sem] theorem pureL_cons (x : AV) (r : List AV) : AV.pure.pureL (x :: r) = (x.pure && AV.pure.pureL r) := rfl
@[go_sem] theorem pure_int (k : IntKind) (n : Int) : (AV.int k n).pure = true := rfl
@[go_sem] theorem pure_bool (b : Bool) : (AV.bool b).pure = true := rfl
@[go_sem] theorem pure_str (s : List UInt8) : (AV.str s).pure = true := rfl
@[go_sem] theorem pure_agg (cs : List AV) : (AV.agg cs).pure = AV.pure.pureL cs := rfl
@[go_sem] theorem pure_tup (cs : List AV) : (AV.tup cs).pure = AV.pure.pureL cs := rfl
@[go_sem] theorem pure_slice (c : Bool) (cs : List AV) : (AV.slice c cs).pure = AV.pure.pureL cs := rfl
@[go_sem] theorem pure_ro (cs : List AV) : (AV.ro cs).pure = AV.pure.pureL cs := rfl
@[go_sem] theorem pure_clo (fn : Fn) (a b : List AV) : (AV.clo fn a b).pure = (AV.pure.pureL a && AV.pure.pureL b) := rfl
@[go_sem] theorem pure_nilp : AV.nilp.pure = true := rfl
@[go_sem] theorem pure_nilf : AV.nilf.pure = true := rfl
@[go_sem] theorem pure_nilm : AV.nilm.pure = true := rfl
@[go_sem] theorem flat_int (k : IntKind) (n : Int) : (AV.int k n).flat = true := rfl
@[go_sem] theorem flat_bool (b : Bool) : (AV.bool b).flat = true := rfl
@[go_sem] theorem flat_str (s : List UInt8) : (AV.str s).flat = true := rfl
@[go_sem] theorem flat_agg (cs : List AV) : (AV.agg cs).flat = AV.flat.flatL cs := rfl
@[go_sem] theorem flatL_nil : AV.flat.flatL [] = true := rfl
@[go_sem] theorem flatL_cons (x : AV) (r : List AV) : AV.flat.flatL (x :: r) = (x.flat && AV.flat.flatL r) := rfl
end

end Go.Proofs.YtbggigdchkiffaaDoor.Lg
