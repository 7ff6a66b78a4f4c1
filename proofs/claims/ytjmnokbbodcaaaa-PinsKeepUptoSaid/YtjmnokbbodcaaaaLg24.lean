/- The engine: what a piece of code comes to, computed; the steps of a proof by it. -/
import Derived.Test.YtjmnokbbodcaaaaLg23
namespace Go.Proofs.Ytjmnokbbodcaaaa.Lg
set_option linter.unusedVariables false
set_option linter.unusedSimpArgs false
open Go
variable {P : Program}

mutual
theorem vOk_nil : ∀ v : AV, vOk [] v = true
  | .agg cs => by simp only [vOk]; exact vOkL_nil cs
  | .tup cs => by simp only [vOk]; exact vOkL_nil cs
  | .clo _ a b => by simp only [vOk, vOkL_nil a, vOkL_nil b, Bool.and_self]
  | .any | .bool _ | .int _ _ | .str _ | .slice _ _ | .ro _ | .nilp | .nilf | .nilm | .niface | .iface _ _ => rfl
  | .os _ _ _ | .ref _ _ _ | .eref _ _ _ _ | .ot _ _ _ _ => rfl
theorem vOkL_nil : ∀ l : List AV, vOk.vOkL [] l = true
  | [] => rfl
  | x :: r => by simp only [vOk.vOkL, vOk_nil x, vOkL_nil r, Bool.and_self]
end

/-! ### Tests and guards -/
def condK (v : AV) (A B : Prop) : Prop :=
  match v with
  | .bool b => (b = true → A) ∧ (b = false → B)
  | _ => False
theorem condK.split {b : Bool} {A B : Prop} (ht : b = true → A) (hf : b = false → B) : condK (.bool b) A B := ⟨ht, hf⟩

/-- The value of the slot that a guard asks. -/
def gvalL (ts : TS) : List Oper → Nat → AV
  | [], _ => .any
  | o :: _, 0 => match o.dst with
    | some d => ts.tmp d
    | none => .any
  | _ :: l, j + 1 => gvalL ts l j

def gK (v : AV) (want : Bool) (A B : TS → Prop) (ts : TS) : Prop :=
  match v with
  | .bool b => (b = want → A ts) ∧ (b = !want → B ts)
  | .tup [] => B ts
  | _ => False
theorem gK.split_t {b : Bool} {A B : TS → Prop} {ts : TS} (ht : b = true → A ts) (hf : b = false → B ts) : gK (.bool b) true A B ts := ⟨ht, hf⟩
theorem gK.split_f {b : Bool} {A B : TS → Prop} {ts : TS} (ht : b = true → B ts) (hf : b = false → A ts) : gK (.bool b) false A B ts := ⟨hf, ht⟩

def skipK (dst : Option Nat) (K : TS → Prop) (ts : TS) : Prop :=
  match dst with
  | some d => d < ts.n ∧ K (ts.put d (.tup []))
  | none => K ts
def opKt (T : Tys P) (o : Oper) (K : TS → Prop) (ts : TS) : Prop := opK T o ts K

def wG (T : Tys P) (all : List Oper) (o : Oper) (K : TS → Prop) (ts : TS) : Prop :=
  match o.guard with
  | none => opK T o ts K
  | some (j, want) => gK (gvalL ts all j) want (opKt T o K) (skipK o.dst K) ts

def opKpt (T : Tys P) (o : Oper) (K : TS → Prop) (ts : TS) : Prop := opKp T o ts K
/-- The same in a part whose order is drawn. -/
def wGp (T : Tys P) (all : List Oper) (o : Oper) (K : TS → Prop) (ts : TS) : Prop :=
  match o.guard with
  | none => opKp T o ts K
  | some (j, want) => gK (gvalL ts all j) want (opKpt T o K) (skipK o.dst K) ts

/-- Continuations are named functions with the state last, never lambdas: so the reckoning does not run ahead under a binder. -/
def wOps (T : Tys P) (all : List Oper) : List Oper → (TS → Prop) → TS → Prop
  | [], K, ts => K ts
  | o :: l, K, ts => wG T all o (wOps T all l K) ts

theorem gvalL_eq {ts : TS} : ∀ (l : List Oper) (j : Nat), gvalL ts l j = match (l[j]?).bind (·.dst) with | some d => ts.tmp d | none => .any
  | [], j => by simp [gvalL]
  | o :: l, 0 => by cases hd : o.dst <;> simp [gvalL, hd]
  | o :: l, j + 1 => by simp [gvalL, gvalL_eq l j]

theorem guardOf_gval {all : List Oper} {ts : TS} {j : Nat} {b : Option Bool} (h : gvalL ts all j = (match b with | some b => .bool b | none => .tup [])) : guardOf (List.toArray all) ts j = some b := by
  rw [gvalL_eq] at h
  have e : (List.toArray all)[j]? = all[j]? := by simp
  unfold guardOf
  rw [e]
  split
  · rename_i d hd
    rw [hd] at h
    cases b with
    | none => simp only at h; simp [h]
    | some b => simp only at h; simp [h]
  · rename_i hd
    rw [hd] at h
    cases b <;> simp at h

theorem wG.sound {T : Tys P} {all : List Oper} {o : Oper} {ts : TS} {K : TS → Prop} (h : wG T all o K ts) : SpecG P (List.toArray all) o ts K := by
  unfold wG at h
  unfold SpecG
  split at h
  · rename_i hg; rw [hg]; exact opK_sound T h
  · rename_i j want hg
    rw [hg]
    generalize hv : gvalL ts all j = v at h
    unfold gK at h
    split at h
    · rename_i b
      refine ⟨some b, guardOf_gval hv, ?_⟩
      by_cases e : b = want
      · subst e; rw [if_pos (by simp)]; exact opK_sound T (h.1 rfl)
      · rw [if_neg (by simpa using e)]
        have hs := h.2 (by cases b <;> cases want <;> simp_all)
        unfold skipK at hs
        cases hd : o.dst with
        | none => rw [hd] at hs; exact ⟨by simp, hs⟩
        | some d => rw [hd] at hs; exact ⟨fun d' e' => by cases e'; exact hs.1, hs.2⟩
    · refine ⟨none, guardOf_gval hv, ?_⟩
      rw [if_neg (by simp)]
      unfold skipK at h
      cases hd : o.dst with
      | none => rw [hd] at h; exact ⟨by simp, h⟩
      | some d => rw [hd] at h; exact ⟨fun d' e' => by cases e'; exact h.1, h.2⟩
    · exact h.elim

theorem SpecG.mono {ops : Array Oper} {o : Oper} {ts : TS} {K K' : TS → Prop} (h : SpecG P ops o ts K) (hk : ∀ ts, K ts → K' ts) : SpecG P ops o ts K' := by
  unfold SpecG at h ⊢
  split
  · rename_i hg; rw [hg] at h; exact SpecO.mono h hk
  · rename_i j want hg
    rw [hg] at h
    obtain ⟨b, h1, h2⟩ := h
    refine ⟨b, h1, ?_⟩
    split
    · rename_i e; rw [if_pos e] at h2; exact SpecO.mono h2 hk
    · rename_i e; rw [if_neg e] at h2; exact ⟨h2.1, hk _ h2.2⟩

theorem wOps.sound {T : Tys P} {all : List Oper} : ∀ {l : List Oper} {ts : TS} {K : TS → Prop}, wOps T all l K ts → SpecOs P (List.toArray all) K l ts
  | [], _, _, h => h
  | _ :: _, _, _, h => SpecG.mono (wG.sound h) fun _ h => wOps.sound h

/-- What comes behind, under a name. -/
structure NxK (next K : TS → Prop) : Prop where
  out : ∀ ts, next ts → K ts
structure Nx (a b : Prop) : Prop where
  out : a → b

theorem SpecC.regW (T : Tys P) {id : Nat} {l : List Oper} {ts : TS} {Q : Exit → TS → Prop} (h : ∀ K, NxK (fun ts' => Q .normal ts') K → wOps T l l K ts) : SpecC P (.region id (List.toArray l) false) ts Q :=
  SpecC.region (wOps.sound (h _ ⟨fun _ h => h⟩))

/-! ### Regions that draw their order -/
def gOk (bad : List Nat) : List Oper → Nat → Bool
  | [], _ => false
  | o :: _, 0 => match o.dst with
    | some d => !bad.contains d
    | none => false
  | _ :: l, j + 1 => gOk bad l j

def tgtOk (wr : List Nat) (F : TS) (o : Oper) : Bool :=
  match o.op with
  | .store _ p _ => match F.ev p with
    | .ref d _ _ => wr.contains d
    | .eref d _ _ _ => wr.contains d
    | _ => true
  | _ => true

/-- What is decided off the text alone. -/
def drawS (all : List Oper) (wr bad : List Nat) (o : Oper) : Bool :=
  drawable o && (match o.dst with | some d => wr.contains d && !bad.contains d | none => true) && wr.all (fun t => !bad.contains t) &&
  (o.op.operands.toList.all fun x => match x with | .tmp t => !bad.contains t | _ => true) && (match o.guard with | some (j, _) => gOk bad all j | none => true)

/-- What hangs on the values: what the operands point to. -/
def opndOk (bad : List Nat) (F : TS) : List Operand → Bool
  | [] => true
  | .tmp t :: l => vOk bad (F.tmp t) && opndOk bad F l
  | _ :: l => opndOk bad F l

def wDraw (T : Tys P) (all : List Oper) : List (List Nat × List Nat) → List Oper → (TS → Prop) → TS → Prop
  | [], l, K, ts => wOps T all l K ts
  | _ :: _, [], _, _ => False
  | (wr, bad) :: r, o :: l, K, ts => wGp T all o (wDraw T all r l K) ts ∧ (opndOk bad ts o.op.operands.toList = true ∧ tgtOk wr ts o = true)

theorem gOk_spec {bad : List Nat} : ∀ {l : List Oper} {j : Nat}, gOk bad l j = true → ∃ d, (l[j]?).bind (·.dst) = some d ∧ bad.contains d = false
  | [], _, h => by simp [gOk] at h
  | o :: l, 0, h => by
    unfold gOk at h
    split at h
    · rename_i d hd; exact ⟨d, by simp [hd], by simpa using h⟩
    · cases h
  | o :: l, j + 1, h => by
    obtain ⟨d, h1, h2⟩ := gOk_spec (l := l) (j := j) (by simpa [gOk] using h)
    exact ⟨d, by simpa using h1, h2⟩

theorem opnd_all {bad : List Nat} {F : TS} : ∀ (l : List Operand), (l.all fun x => match x with | .tmp t => !bad.contains t | _ => true) = true → opndOk bad F l = true → (l.all fun x => xOk bad F x) = true
  | [], _, _ => rfl
  | x :: r, h1, h2 => by
    simp only [List.all_cons, Bool.and_eq_true] at h1 ⊢
    cases x with
    | tmp t =>
      simp only [opndOk, Bool.and_eq_true] at h2
      exact ⟨by simp only [xOk, Bool.and_eq_true]; exact ⟨h1.1, h2.1⟩, opnd_all r h1.2 h2.2⟩
    | _ => exact ⟨rfl, opnd_all r h1.2 (by simpa [opndOk] using h2)⟩

theorem wDraw.step {T : Tys P} {all : List Oper} {wrs bads : List (List Nat)} {C : TS → Prop} {i : Nat} {o : Oper} {l : List Oper} {F : TS} {wr bad : List Nat} (hw : wrs.getD i [] = wr) (hb : bads.getD i [] = bad)
    (hs : drawS all wr bad o = true) (ho : opndOk bad F o.op.operands.toList = true) (ht : tgtOk wr F o = true)
    (h : wGp T all o (fun F' => PreOk P (List.toArray all) wrs bads C (i + 1) l F') F) : PreOk P (List.toArray all) wrs bads C i (o :: l) F := by
  simp only [drawS, Bool.and_eq_true] at hs
  obtain ⟨⟨⟨⟨h1, h2⟩, h3⟩, h4⟩, h5⟩ := hs
  have hops := opnd_all _ h4 ho
  have hdst : ∀ d, o.dst = some d → wr.contains d = true ∧ bad.contains d = false := fun d hd => by
    rw [hd] at h2; simp only [Bool.and_eq_true, Bool.not_eq_true'] at h2; exact h2
  have hmem : ∀ d, wr.contains d = true → d ∈ wr := fun d hd => List.contains_iff_mem.1 hd
  have main : opKp T o F (fun F' => PreOk P (List.toArray all) wrs bads C (i + 1) l F') → ∃ g, Loc wr g ∧ PreOk P (List.toArray all) wrs bads C (i + 1) l (g F) ∧ ∀ J (K' : TS → Prop), K' (g (mix bad J F)) → SpecO P o (mix bad J F) K' := fun h => by
    obtain ⟨g, ws, g1, g2, g3, g4⟩ := opK_loc T hops h1 (fun d hd => (hdst d hd).2) h
    refine ⟨g, g1.wide fun t htw => ?_, g3, fun J K' hk => opK_sound T (g4 J K' hk)⟩
    rcases g2 t htw with hd | htg
    · exact hmem t (hdst t hd).1
    · unfold tgtOf at htg
      unfold tgtOk at ht
      split at htg
      · rename_i p x hop
        rw [hop] at ht
        simp only at ht
        split at htg
        · rename_i hev; rw [hev] at ht; subst htg; exact hmem _ ht
        · rename_i hev; rw [hev] at ht; subst htg; exact hmem _ ht
        · exact htg.elim
      · exact htg.elim
  unfold wGp at h
  split at h
  · rename_i hg
    obtain ⟨g, g1, g2, g3⟩ := main h
    refine PreOk.loc hw hb g1 h3 (fun J => ?_) g2
    unfold SpecG
    rw [hg]
    exact g3 J _ rfl
  · rename_i j want hg
    rw [hg] at h5
    obtain ⟨d, hd1, hd2⟩ := gOk_spec h5
    have hd1' : ((List.toArray all)[j]?).bind (·.dst) = some d := by simpa using hd1
    have hv : gvalL F all j = F.tmp d := by rw [gvalL_eq, hd1]
    have hgd : ∀ J, guardOf (List.toArray all) (mix bad J F) j = guardOf (List.toArray all) F j := fun J => by
      unfold guardOf
      rw [hd1']
      simp only [(mix_out (J := J) (F := F) hd2).1]
    generalize hvv : gvalL F all j = v at h
    have skip : ∀ b : Option Bool, guardOf (List.toArray all) F j = some b → b ≠ some want → skipK o.dst (fun F' => PreOk P (List.toArray all) wrs bads C (i + 1) l F') F → PreOk P (List.toArray all) wrs bads C i (o :: l) F := fun b hgb hne hs => by
      unfold skipK at hs
      cases hdo : o.dst with
      | none =>
        rw [hdo] at hs
        refine PreOk.loc hw hb (Loc.id wr) h3 (fun J => ?_) hs
        unfold SpecG
        rw [hg]
        refine ⟨b, by rw [hgd]; exact hgb, ?_⟩
        rw [if_neg (by simpa using hne), hdo]
        exact ⟨by simp, rfl⟩
      | some e =>
        rw [hdo] at hs
        refine PreOk.loc hw hb ((Loc.put e (.tup [])).wide fun t ht' => by
          have : t = e := by simpa using ht'
          subst this; exact hmem _ (hdst _ hdo).1) h3 (fun J => ?_) hs.2
        unfold SpecG
        rw [hg]
        refine ⟨b, by rw [hgd]; exact hgb, ?_⟩
        rw [if_neg (by simpa using hne), hdo]
        exact ⟨fun d' e' => by cases e'; exact hs.1, rfl⟩
    unfold gK at h
    split at h
    · rename_i b
      have hgb := guardOf_gval (b := some b) hvv
      by_cases e : b = want
      · subst e
        obtain ⟨g, g1, g2, g3⟩ := main (h.1 rfl)
        refine PreOk.loc hw hb g1 h3 (fun J => ?_) g2
        unfold SpecG
        rw [hg]
        refine ⟨some b, by rw [hgd]; exact hgb, ?_⟩
        rw [if_pos (by simp)]
        exact g3 J _ rfl
      · exact skip (some b) hgb (by simpa using e) (h.2 (by cases b <;> cases want <;> simp_all))
    · exact skip none (guardOf_gval (b := none) hvv) (by simp) h
    · exact h.elim

def drawSs (all : List Oper) : List (List Nat × List Nat) → List Oper → Bool
  | [], _ => true
  | _ :: _, [] => false
  | (wr, bad) :: r, o :: l => drawS all wr bad o && drawSs all r l

theorem afterK.mono {ts : TS} {dst : Option Nat} {r : Ret} {K1 K2 : TS → Prop} (hk : ∀ ts, K1 ts → K2 ts) (h : afterK ts dst r K1) : afterK ts dst r K2 := by
  cases r <;> cases dst <;> simp only [afterK, setK, newArrK] at h ⊢
  · exact hk _ h
  · exact ⟨h.1, hk _ h.2⟩
  · exact ⟨h.1, hk _ h.2⟩

theorem opKp_mono {T : Tys P} {o : Oper} {F : TS} {K1 K2 : TS → Prop} (hd : drawable o = true) (hops : (o.op.operands.toList.all fun x => xOk [] F x) = true) (hk : ∀ F', K1 F' → K2 F') (h : opKp T o F K1) : opKp T o F K2 := by
  have e : mix [] F F = F := ts_ext rfl fun t => mix_out (by simp)
  have key : (∀ f xs at_, o.op ≠ .call ⟨.value f, xs, at_⟩) → opKp T o F K2 := fun hne => by
    obtain ⟨g, _, _, _, g3, g4⟩ := opK_loc T (bad := []) hops hd (by simp) h
    have := g4 F K2 (by rw [e]; exact hk _ g3)
    rw [e] at this
    unfold opKp
    split
    · rename_i f xs at_ ho; exact absurd ho (hne f xs at_)
    · exact this
  by_cases hc : ∃ f xs at_, o.op = .call ⟨.value f, xs, at_⟩
  · obtain ⟨f, xs, at_, ho⟩ := hc
    obtain ⟨dst, op, ty, pos, after, gd⟩ := o
    subst ho
    have h : callW false P (F.ev f) (xs.toList.map F.ev) dst F K1 := h
    show callW false P (F.ev f) (xs.toList.map F.ev) dst F K2
    unfold callW at h ⊢
    split at h
    · rcases h with ⟨as, lent, r, h1, h2, h3, h4⟩ | ⟨h, _⟩
      · exact .inl ⟨as, lent, r, h1, h2, h3, h4.mono hk⟩
      · cases h
    · exact h.elim
  · exact key fun f xs at_ ho => hc ⟨f, xs, at_, ho⟩

theorem wDraw.pre {T : Tys P} {all : List Oper} {wrs bads : List (List Nat)} {K : TS → Prop} : ∀ (q : List (List Nat × List Nat)) (l : List Oper) (i : Nat) (F : TS), (wrs.zip bads).drop i = q → wrs.length = bads.length → drawSs all q l = true → all.drop i = l → wDraw T all q l K F →
    PreOk P (List.toArray all) wrs bads (SpecOs P (List.toArray all) K (all.drop (i + q.length))) i (l.take q.length) F
  | [], l, i, F, _, _, _, hl, h => by
    rw [List.length_nil, Nat.add_zero, hl]
    exact wOps.sound h
  | (wr, bad) :: r, [], i, F, _, _, _, _, h => h.elim
  | (wr, bad) :: r, o :: l, i, F, hq, hlen, hs, hl, h => by
    obtain ⟨h1, h2, h3⟩ := h
    simp only [drawSs, Bool.and_eq_true] at hs
    have hzi : (wrs.zip bads)[i]? = some (wr, bad) := by
      have := congrArg (fun l => l[0]?) hq
      simpa using this
    have hw : wrs.getD i [] = wr := by
      have : wrs[i]? = some wr := (List.getElem?_zip_eq_some.1 hzi).1
      simp [this]
    have hb : bads.getD i [] = bad := by
      have : bads[i]? = some bad := (List.getElem?_zip_eq_some.1 hzi).2
      simp [this]
    have hq' : (wrs.zip bads).drop (i + 1) = r := by rw [← List.drop_drop, hq]; rfl
    have hl' : all.drop (i + 1) = l := by rw [← List.drop_drop, hl]; rfl
    have e : i + ((wr, bad) :: r).length = i + 1 + r.length := by simp; omega
    rw [e]
    refine wDraw.step (T := T) hw hb hs.1 h2 h3 ?_
    have mono : ∀ {K1 K2 : TS → Prop}, (∀ F', K1 F' → K2 F') → opKp T o F K1 → opKp T o F K2 := fun {K1 K2} hk ho => by
      exact opKp_mono (by
        have := hs.1
        simp only [drawS, Bool.and_eq_true] at this
        exact this.1.1.1.1) (by
        have := hs.1
        simp only [drawS, Bool.and_eq_true] at this
        refine opnd_all _ (List.all_eq_true.2 fun x _ => by cases x <;> simp) ?_
        generalize o.op.operands.toList = xs
        induction xs with
        | nil => rfl
        | cons x r ih => cases x <;> simp [opndOk, ih, vOk_nil]) hk ho
    have hk := fun F' (h : wDraw T all r l K F') => wDraw.pre (wrs := wrs) (bads := bads) r l (i + 1) F' hq' hlen hs.2 hl' h
    unfold wGp at h1 ⊢
    split
    · rename_i hg; rw [hg] at h1; exact mono hk h1
    · rename_i j want hg
      rw [hg] at h1
      simp only at h1
      generalize gvalL F all j = v at h1 ⊢
      unfold gK at h1 ⊢
      have skip : skipK o.dst (wDraw T all r l K) F → skipK o.dst (fun F' => PreOk P (List.toArray all) wrs bads (SpecOs P (List.toArray all) K (all.drop (i + 1 + r.length))) (i + 1) (l.take r.length) F') F := fun h => by
        unfold skipK at h ⊢
        cases hd : o.dst with
        | none => rw [hd] at h; exact hk _ h
        | some d => rw [hd] at h; exact ⟨h.1, hk _ h.2⟩
      split
      · exact ⟨fun e => mono hk (h1.1 e), fun e => skip (h1.2 e)⟩
      · exact skip h1
      · rename_i g1 g2
        split at h1
        · exact (g1 _ rfl).elim
        · exact (g2 rfl).elim
        · exact h1

theorem zip_parts {α β : Type} : ∀ q : List (α × β), (q.map (·.1)).zip (q.map (·.2)) = q
  | [] => rfl
  | x :: r => by simp only [List.map_cons, List.zip_cons_cons, zip_parts r]

theorem SpecC.drawW (T : Tys P) (hmix : P.follows .mixedOrders = true) (q : List (List Nat × List Nat)) {id : Nat} {l : List Oper} {ts : TS} {Q : Exit → TS → Prop}
    (hc : (drawChk (List.toArray l) q.length (q.map (·.1)) (q.map (·.2)) && drawSs l q l) = true) (h : ∀ K, NxK (fun ts' => Q .normal ts') K → wDraw T l q l K ts) : SpecC P (.region id (List.toArray l) true) ts Q := by
  simp only [Bool.and_eq_true] at hc
  have hz := zip_parts q
  have := wDraw.pre (wrs := q.map (·.1)) (bads := q.map (·.2)) q l 0 ts (by rw [hz]; rfl) (by simp) hc.2 rfl (h _ ⟨fun _ h => h⟩)
  exact SpecC.drawP hmix id q.length _ _ hc.1 (by simpa using this)

/-! ### Code -/
theorem SpecC.seqW {x y : Code} {ts : TS} {Q : Exit → TS → Prop} (h : ∀ K, NxK (fun ts' => SpecC P y ts' Q) K → SpecC P x ts (thenK K Q)) : SpecC P (.seq x y) ts Q := SpecC.seq (h _ ⟨fun _ h => h⟩)
theorem SpecC.condW {c : Operand} {x y : Code} {ts : TS} {Q : Exit → TS → Prop} (h : ∀ A B, Nx (SpecC P x ts Q) A → Nx (SpecC P y ts Q) B → condK (ts.ev c) A B) : SpecC P (.cond c x y) ts Q := by
  have := h _ _ ⟨fun h => h⟩ ⟨fun h => h⟩
  unfold condK at this
  split at this
  · rename_i b hb; exact SpecC.cond hb this.1 this.2
  · exact this.elim

/-! ### Calls and ends -/
def CallR (P : Program) (f : FuncId) (args : List AV) (r : Ret) : Prop := CallV P f (args.map Arg.v) fun r' _ => r' = r
/-- A contract of a function that takes its first argument, an array, over. -/
def CallM (P : Program) (f : FuncId) (sz : Nat) (xs args : List AV) (r : Ret) : Prop := CallV P f (.own sz xs :: args.map Arg.v) fun r' _ => r' = r
/-- A contract of a function that may write to the box that its first argument points to. -/
def CallI (P : Program) (f : FuncId) (cs args : List AV) (x : AV) (cs' : List AV) : Prop := CallV P f (.io cs :: args.map Arg.v) fun r' io => r' = .val x ∧ io 0 = cs'

theorem callX.by {m : Bool} {f : FuncId} {vs as : List AV} {lent : List Nat} {dst : Option Nat} {ts : TS} {K : TS → Prop} {r : Ret} (h : CallR P f as r) (hk : (lent = [] ∨ r.flat = true) ∧ afterK ts dst r K) : callX m P f vs (some (as, lent)) dst ts K :=
  .inl ⟨as, lent, r, rfl, h, hk.1, hk.2⟩
theorem callX.mv {f : FuncId} {d g len sz : Nat} {xs rest as : List AV} {q : Option (List AV × List Nat)} {dst : Option Nat} {ts : TS} {K : TS → Prop} {r : Ret}
    (h1 : ((ts.obj d).arr?.map fun q => (q.1, q.2.take len)) = some (sz, xs)) (h3 : ts.toArgs rest = some (as, [])) (hk : (g = ts.gen d ∧ optK (ts.obj d).arr? fun q => len ≤ q.2.length ∧ AV.pure.pureL q.2 = true) ∧ afterK (ts.kill d) dst r K) (h : CallM P f sz xs as r) : callX true P f (.os d g len :: rest) q dst ts K := by
  obtain ⟨⟨hg, ho⟩, hk⟩ := hk
  obtain ⟨⟨sz', zs⟩, ho, hl, hp⟩ := optK_some ho
  rw [ho] at h1
  simp only [Option.map_some, Option.some.injEq, Prod.mk.injEq] at h1
  obtain ⟨rfl, rfl⟩ := h1
  exact .inr ⟨rfl, .inl ⟨d, g, len, sz', zs, rest, as, r, rfl, hg, arr?_some ho, hl, hp, h3, h, hk⟩⟩
def Ob.box? : Ob → Option (List AV)
  | .box cs => some cs
  | _ => none
theorem box?_some {o : Ob} {cs : List AV} (h : o.box? = some cs) : o = .box cs := by
  cases o <;> simp [Ob.box?] at h
  subst h; rfl
theorem callX.io {f : FuncId} {d g : Nat} {cs cs' rest as : List AV} {q : Option (List AV × List Nat)} {dst : Option Nat} {ts : TS} {K : TS → Prop} {x : AV}
    (h1 : (ts.obj d).box? = some cs) (h3 : ts.toArgs rest = some (as, [])) (hk : (g = ts.gen d ∧ AV.pure.pureL cs = true) ∧ setK (ts.setObj d (.box cs')) dst x K) (h : CallI P f cs as x cs') : callX true P f (.ref d g 0 :: rest) q dst ts K :=
  .inr ⟨rfl, .inr (.inl ⟨d, g, cs, cs', rest, as, x, rfl, hk.1.1, box?_some h1, hk.1.2, h3, h, hk.2⟩)⟩
theorem callX.ar {f fg : FuncId} {d g sz len : Nat} {zs zs' : List AV} {q : Option (List AV × List Nat)} {dst : Option Nat} {ts : TS} {K : TS → Prop}
    (h1 : (ts.obj d).arr? = some (sz, zs)) (hk : (g = ts.gen d ∧ len = zs.length) ∧ setK (ts.setObj d (.arr sz zs')) dst (.tup []) K) (h : CallA P f fg sz zs zs') : callX true P f [.os d g len, .clo (.func fg) [] []] q dst ts K := by
  obtain ⟨⟨hg, rfl⟩, hk⟩ := hk
  exact .inr ⟨rfl, .inr (.inr (.inl ⟨d, g, fg, sz, zs, zs', rfl, hg, arr?_some h1, h, hk⟩))⟩
/-- The arrays lent become plain data ahead of the call: the result may hold them. -/
theorem callX.fz {f : FuncId} {vs as : List AV} {lent : List Nat} {dst : Option Nat} {ts : TS} {K : TS → Prop} {r : Ret} (h : CallR P f as r) (hk : afterK (ts.killL lent) dst r K) : callX true P f vs (some (as, lent)) dst ts K :=
  .inr ⟨rfl, .inr (.inr (.inr ⟨as, lent, r, rfl, h, hk⟩))⟩

def endK (Q : TS → Prop) (ex : Exit) (ts : TS) : Prop :=
  match ex with
  | .normal => Q ts
  | .ret => Q ts
  | _ => False

def ownX (ts : TS) (x : AV) (sz : Nat) (zs : List AV) : Prop :=
  match x with
  | .os d g len => g = ts.gen d ∧ optK (ts.obj d).arr? fun q => q.1 = sz ∧ len ≤ q.2.length ∧ AV.pure.pureL (q.2.take len) = true ∧ AV.nrm.nrmL (q.2.take len) = zs
  | .slice true [] => 0 < sz ∧ [] = zs
  | _ => False

theorem Rel.trunc {E : Env} {ts : TS} {G : Ghost} {a : Act} {w : World} (h : Rel E ts G a w) {d sz : Nat} {xs : List AV} (ho : ts.obj d = .arr sz xs) (n : Nat) : Rel E (ts.setObj d (.arr sz (xs.take n))) G a w := by
  have hkind : (fun e => ((ts.setObj d (.arr sz (xs.take n))).obj e).kind) = fun e => (ts.obj e).kind := by
    funext e
    simp only [TS.setObj]
    by_cases he : e = d
    · subst he; rw [upd_same, ho]; rfl
    · rw [upd_ne _ _ he]
  have hlive : ∀ e, liveR (ts.setObj d (.arr sz (xs.take n))) G e ↔ liveR ts G e := fun e => by
    unfold liveR
    rw [congrFun hkind e]
  have hctx : ctxOf E G (ts.setObj d (.arr sz (xs.take n))) w = ctxOf E G ts w := by
    unfold ctxOf
    have e1 : (fun k => E.F k ∨ ∃ e, liveR (ts.setObj d (.arr sz (xs.take n))) G e ∧ G.β e = k) = fun k => E.F k ∨ ∃ e, liveR ts G e ∧ G.β e = k := by
      funext k
      simp only [hlive]
    rw [e1, hkind]
    rfl
  refine ⟨h.size, h.defers, fun t => by rw [hctx]; exact h.tmp t, fun e => ?_, fun e e' h1 h2 h3 => h.sep e e' ((hlive e).1 h1) ((hlive e').1 h2) h3, fun e h1 => h.own e ((hlive e).1 h1), h.inF, h.bel, h.pin⟩
  rw [hctx]
  show ObOk _ e ((upd ts.obj d _) e)
  by_cases he : e = d
  · subst he
    have := h.obj e
    rw [ho] at this
    rw [upd_same]
    exact take_rep this n
  · rw [upd_ne _ _ he]; exact h.obj e

/-- One result: where it lies is a slot, or a box. -/
def oneRes (ts : TS) (rs : List ResultVar) : Bool :=
  match rs with
  | [.tmp _] => true
  | [.cell a _] => (match ts.tmp a with | .ref .. => true | _ => false)
  | _ => false

/-- What must hold where a function ends, of which a contract says r. -/
def EndX (T : Tys P) (rs : List ResultVar) (r : Ret) (ts : TS) : Prop :=
  match r with
  | .val z => optK (ts.result T rs) fun x => optK (x.res ts) fun y => y.nrm = z
  | .own sz zs => oneRes ts rs = true ∧ optK (ts.result T rs) fun x => ownX ts x sz zs

theorem ptr_setArr {ts : TS} {d sz sz' : Nat} {xs ys : List AV} (ho : ts.obj d = .arr sz xs) {x : AV} {cs : List AV} (h : ts.ptr x = some cs) (hx : ∀ g i o, x ≠ .eref d g i o) : (ts.setObj d (.arr sz' ys)).ptr x = some cs := by
  cases x with
  | ref e g off =>
    simp only [TS.ptr] at h ⊢
    by_cases he : e = d
    · subst he
      rw [ho] at h
      split at h <;> simp at h
    · simp only [TS.setObj, upd_ne _ _ he]; exact h
  | eref e g i o =>
    by_cases he : e = d
    · subst he; exact absurd rfl (hx g i o)
    · simp only [TS.ptr, TS.setObj, upd_ne _ _ he] at h ⊢; exact h
  | _ => exact h

theorem resV_setArr {T : Tys P} {ts : TS} {d sz sz' : Nat} {xs ys : List AV} (ho : ts.obj d = .arr sz xs) {r : ResultVar} {x : AV} (h : ts.resV T r = some x) (hx : match r with | .tmp _ => True | .cell a _ => ∀ g i o, ts.tmp a ≠ .eref d g i o) : (ts.setObj d (.arr sz' ys)).resV T r = some x := by
  cases r with
  | tmp t => exact h
  | cell a t =>
    simp only [TS.resV] at h ⊢
    split at h
    · cases h
    · split at h
      · rename_i cs hp
        have : (ts.setObj d (.arr sz' ys)).ptr ((ts.setObj d (.arr sz' ys)).tmp a) = some cs := ptr_setArr ho hp hx
        rw [this]; exact h
      · cases h

theorem EndX_trunc {T : Tys P} {ts : TS} {d sz sz' : Nat} {xs ys : List AV} (ho : ts.obj d = .arr sz xs) {rs : List ResultVar} (h1 : oneRes ts rs = true) {x : AV} (h : ts.result T rs = some x) : (ts.setObj d (.arr sz' ys)).result T rs = some x := by
  unfold oneRes at h1
  split at h1
  · exact h
  · rename_i a u
    rw [result_cell] at h ⊢
    refine resV_setArr ho h ?_
    split at h1
    · rename_i hr
      intro g i o
      rw [hr]; simp
    · cases h1
  · cases h1

/-- The general beginning: no box among the arguments. -/
theorem CallV.go {T : Tys P} {f : FuncId} {fn : Func} {c : Code} {args : List Arg} {rs : List ResultVar} {r : Ret} (hcall : ∀ (vals : Array Value) (w : World), (callFunc f vals).run P w = .ok (.enter f vals) w)
    (hf : P.funcs[f]? = some fn) (hb : fn.body = some c) {n : Nat} (hnt : fn.ntmps = n) (hrs : fn.results.toList = rs) (hn : args.length ≤ n) (hio : ∀ (j : Nat) (cs : List AV), args[j]? ≠ some (Arg.io cs))
    (h : ∀ ts : TS, ts.n = n → ArgsAt ts 0 args → SpecC P c ts (endK (EndX T rs r))) : CallV P f args fun r' _ => r' = r := by
  subst hnt
  refine CallV.fit hio ?_
  refine CallV.of_body (T := T) hcall hf hb hn ?_
  have hs := h (argTS args fn.ntmps) rfl (argsAt_argTS _ args args 0 fun i => by simp)
  intro E G a w hr
  refine wp_mono (hs E G a w hr) ?_
  rintro e a' w' ⟨ts', G', he, hr'⟩
  have key : (e = .normal ∨ e = .ret) → EndX T rs r ts' → ∃ ts'' G'', (EndsP T fn args (Ret.fits fun r' _ => r' = r) e ts'' ∨ EndsO T fn args (Ret.fits fun r' _ => r' = r) e ts'') ∧ Rel E ts'' G'' a' w' := fun hex hx => by
    cases r with
    | val z =>
      obtain ⟨x, h3, h4⟩ := optK_some hx
      obtain ⟨y, h5, h6⟩ := optK_some h4
      exact ⟨ts', G', .inl ⟨hex, x, y, fun _ => [], by rw [hrs]; exact h3, h5, by refine .inl ?_; show Ret.val y.nrm = _; rw [h6], fun j cs h => absurd h (hio j cs)⟩, hr'⟩
    | own sz zs =>
      obtain ⟨h1r, hx⟩ := hx
      obtain ⟨x, h3, h4⟩ := optK_some hx
      unfold ownX at h4
      split at h4
      · rename_i d g len
        obtain ⟨h5, h6⟩ := h4
        obtain ⟨⟨sz', xs⟩, ho, rfl, h7, h8, h9⟩ := optK_some h6
        have ho := arr?_some ho
        refine ⟨_, G', .inr ⟨hex, d, g, sz', xs.take len, fun _ => [], ?_, ?_, ?_, h8, ?_, fun j cs h => absurd h (hio j cs)⟩, hr'.trunc ho len⟩
        · have hl : (xs.take len).length = len := by simp only at h7; simp; omega
          rw [hrs, hl]
          exact EndX_trunc ho h1r h3
        · simp [TS.setObj]; exact h5
        · simp [TS.setObj]
        · refine .inl ?_; show Ret.own sz' (AV.nrm.nrmL (xs.take len)) = _; rw [h9]
      · exact ⟨ts', G', .inl ⟨hex, .slice true [], .slice true [], fun _ => [], by rw [hrs]; exact h3, rfl, .inr ⟨rfl, sz, h4.1, by rw [h4.2]⟩, fun j cs h => absurd h (hio j cs)⟩, hr'⟩
      · exact h4.elim
  cases e with
  | normal => exact key (.inl rfl) he
  | ret => exact key (.inr rfl) he
  | _ => exact he.elim

theorem CallR.go {T : Tys P} {f : FuncId} {fn : Func} {c : Code} {args : List AV} {rs : List ResultVar} {r : Ret} (hcall : ∀ (vals : Array Value) (w : World), (callFunc f vals).run P w = .ok (.enter f vals) w)
    (hf : P.funcs[f]? = some fn) (hb : fn.body = some c) {n : Nat} (hnt : fn.ntmps = n) (hrs : fn.results.toList = rs) (hn : args.length ≤ n)
    (h : ∀ ts : TS, ts.n = n → ArgsAt ts 0 (args.map Arg.v) → SpecC P c ts (endK (EndX T rs r))) : CallR P f args r :=
  CallV.go hcall hf hb hnt hrs (by simpa using hn) (fun j cs h => by simp only [List.getElem?_map] at h; cases hh : args[j]? <;> rw [hh] at h <;> simp at h) h

section go
variable {T : Tys P} {f : FuncId} {fn : Func} {c : Code} {rs : List ResultVar} {r : Ret} (hcall : ∀ (vals : Array Value) (w : World), (callFunc f vals).run P w = .ok (.enter f vals) w)
    (hf : P.funcs[f]? = some fn) (hb : fn.body = some c) {n : Nat} (hnt : fn.ntmps = n) (hrs : fn.results.toList = rs)
include hcall hf hb hnt hrs
theorem CallR.go0 (h : ∀ ts : TS, ts.n = n → SpecC P c ts (endK (EndX T rs r))) : CallR P f [] r := CallR.go hcall hf hb hnt hrs (Nat.zero_le _) fun ts h1 _ => h ts h1
theorem CallR.go1 {a : AV} (hn : 1 ≤ n) (h : ∀ ts : TS, ts.n = n → ts.tmp 0 = a → SpecC P c ts (endK (EndX T rs r))) : CallR P f [a] r := CallR.go hcall hf hb hnt hrs hn fun ts h1 h2 => h ts h1 h2.1
theorem CallR.go2 {a b : AV} (hn : 2 ≤ n) (h : ∀ ts : TS, ts.n = n → ts.tmp 0 = a → ts.tmp 1 = b → SpecC P c ts (endK (EndX T rs r))) : CallR P f [a, b] r := CallR.go hcall hf hb hnt hrs hn fun ts h1 h2 => h ts h1 h2.1 h2.2.1
theorem CallR.go3 {a b d : AV} (hn : 3 ≤ n) (h : ∀ ts : TS, ts.n = n → ts.tmp 0 = a → ts.tmp 1 = b → ts.tmp 2 = d → SpecC P c ts (endK (EndX T rs r))) : CallR P f [a, b, d] r := CallR.go hcall hf hb hnt hrs hn fun ts h1 h2 => h ts h1 h2.1 h2.2.1 h2.2.2.1
theorem CallR.go4 {a b d e : AV} (hn : 4 ≤ n) (h : ∀ ts : TS, ts.n = n → ts.tmp 0 = a → ts.tmp 1 = b → ts.tmp 2 = d → ts.tmp 3 = e → SpecC P c ts (endK (EndX T rs r))) : CallR P f [a, b, d, e] r :=
  CallR.go hcall hf hb hnt hrs hn fun ts h1 h2 => h ts h1 h2.1 h2.2.1 h2.2.2.1 h2.2.2.2.1
theorem CallR.go5 {a b d e g : AV} (hn : 5 ≤ n) (h : ∀ ts : TS, ts.n = n → ts.tmp 0 = a → ts.tmp 1 = b → ts.tmp 2 = d → ts.tmp 3 = e → ts.tmp 4 = g → SpecC P c ts (endK (EndX T rs r))) : CallR P f [a, b, d, e, g] r :=
  CallR.go hcall hf hb hnt hrs hn fun ts h1 h2 => h ts h1 h2.1 h2.2.1 h2.2.2.1 h2.2.2.2.1 h2.2.2.2.2.1
theorem CallM.go0 {sz : Nat} {xs : List AV} (hn : 1 ≤ n) (h : ∀ ts : TS, ts.n = n → ts.tmp 0 = .os 0 0 xs.length → ts.gen 0 = 0 → ts.obj 0 = .arr sz xs → SpecC P c ts (endK (EndX T rs r))) : CallM P f sz xs [] r :=
  CallV.go hcall hf hb hnt hrs hn (fun j cs h => by cases j <;> simp at h) fun ts h1 h2 => h ts h1 h2.1.1 h2.1.2.1 h2.1.2.2
theorem CallM.go1 {sz : Nat} {xs : List AV} {a : AV} (hn : 2 ≤ n) (h : ∀ ts : TS, ts.n = n → ts.tmp 0 = .os 0 0 xs.length → ts.gen 0 = 0 → ts.obj 0 = .arr sz xs → ts.tmp 1 = a → SpecC P c ts (endK (EndX T rs r))) : CallM P f sz xs [a] r :=
  CallV.go hcall hf hb hnt hrs hn (fun j cs h => by match j, h with | 0, h => simp at h | 1, h => simp at h | j + 2, h => simp at h) fun ts h1 h2 => h ts h1 h2.1.1 h2.1.2.1 h2.1.2.2 h2.2.1
theorem CallM.go2 {sz : Nat} {xs : List AV} {a b : AV} (hn : 3 ≤ n) (h : ∀ ts : TS, ts.n = n → ts.tmp 0 = .os 0 0 xs.length → ts.gen 0 = 0 → ts.obj 0 = .arr sz xs → ts.tmp 1 = a → ts.tmp 2 = b → SpecC P c ts (endK (EndX T rs r))) : CallM P f sz xs [a, b] r :=
  CallV.go hcall hf hb hnt hrs hn (fun j cs h => by match j, h with | 0, h => simp at h | 1, h => simp at h | 2, h => simp at h | j + 3, h => simp at h) fun ts h1 h2 => h ts h1 h2.1.1 h2.1.2.1 h2.1.2.2 h2.2.1 h2.2.2.1
end go
end Go.Proofs.Ytjmnokbbodcaaaa.Lg
