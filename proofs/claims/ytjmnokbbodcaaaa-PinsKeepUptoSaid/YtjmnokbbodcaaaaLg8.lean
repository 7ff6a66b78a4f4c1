/- The rules of composite values and of slices that the frame makes. -/
import Derived.Test.YtjmnokbbodcaaaaLg7
namespace Go.Proofs.Ytjmnokbbodcaaaa.Lg
set_option linter.unusedVariables false
set_option linter.unusedSimpArgs false
open Go
variable {P : Program}

theorem foldl_set_getD (l : List Value) : ∀ (j0 off : Nat) (cells : Array Value), off + j0 + l.length ≤ cells.size →
    (((l.zipIdx j0).foldl (fun cs (c, j) => cs.setIfInBounds (off + j) c) cells).size = cells.size) ∧
    ∀ p, ((l.zipIdx j0).foldl (fun cs (c, j) => cs.setIfInBounds (off + j) c) cells).getD p undef = if off + j0 ≤ p ∧ p < off + j0 + l.length then l.getD (p - (off + j0)) undef else cells.getD p undef := by
  induction l with
  | nil => intro j0 off cells h; simp; intro p h1 h2; omega
  | cons x r ih =>
    intro j0 off cells h
    simp only [List.length_cons] at h
    obtain ⟨h1, h2⟩ := ih (j0 + 1) off (cells.setIfInBounds (off + j0) x) (by simp; omega)
    simp only [List.zipIdx_cons, List.foldl_cons]
    refine ⟨by rw [h1]; simp, fun p => ?_⟩
    rw [h2]
    have hg : (cells.setIfInBounds (off + j0) x).getD p undef = if p = off + j0 then x else cells.getD p undef := by
      by_cases e : p = off + j0
      · subst e; simp [show off + j0 < cells.size by omega]
      · simp [Array.getElem?_setIfInBounds, Ne.symm e, e]
    rw [hg]
    by_cases e : p = off + j0
    · subst e
      rw [if_neg (by omega), if_pos rfl, if_pos (by simp)]
      simp
    · rw [if_neg e]
      by_cases hp : off + (j0 + 1) ≤ p ∧ p < off + (j0 + 1) + r.length
      · rw [if_pos hp, if_pos (by simp; omega)]
        rw [show p - (off + j0) = (p - (off + (j0 + 1))) + 1 by omega]
        simp
      · rw [if_neg hp, if_neg (by simp; omega)]

def fillA (place : Nat → Option (Nat × Nat)) (cs : List AV) : List (Nat × AV) → Option (List AV)
  | [] => some cs
  | (i, x) :: r =>
    match place i with
    | none => none
    | some (off, size) => if x.known = true ∧ x.cells.length = size ∧ off + size ≤ cs.length then fillA place (setRange cs off x.cells) r else none

theorem setRange_length (cs ys : List AV) (o : Nat) (h : o + ys.length ≤ cs.length) : (setRange cs o ys).length = cs.length := splice_length cs ys o h
theorem setRange_getD (cs ys : List AV) (o i : Nat) (h : o + ys.length ≤ cs.length) : (setRange cs o ys).getD i .any = if o ≤ i ∧ i < o + ys.length then ys.getD (i - o) .any else cs.getD i .any := splice_getD cs ys o i .any h

theorem fill_rep {c : Ctx} (place : Nat → Option (Nat × Nat)) : ∀ (l : List (Nat × Value × AV)) (vs : Array Value) (cs cs' : List AV), vs.size = cs.length → (∀ i, Rep c (vs.getD i undef) (cs.getD i .any)) →
    (∀ p ∈ l, Rep c p.2.1 p.2.2) → fillA place cs (l.map fun p => (p.1, p.2.2)) = some cs' →
    ∃ vs', Instr.fill place vs (l.map fun p => (p.1, p.2.1)) = some vs' ∧ vs'.size = cs'.length ∧ ∀ i, Rep c (vs'.getD i undef) (cs'.getD i .any)
  | [], vs, cs, cs', hs, hr, _, h => by simp [fillA] at h; subst h; exact ⟨vs, rfl, hs, hr⟩
  | (i, v, x) :: r, vs, cs, cs', hs, hr, hl, h => by
    simp only [List.map_cons, fillA] at h
    cases hp : place i with
    | none => rw [hp] at h; cases h
    | some q =>
      obtain ⟨off, size⟩ := q
      rw [hp] at h
      simp only at h
      split at h
      · rename_i hc
        obtain ⟨h1, h2, h3⟩ := hc
        obtain ⟨hz, hzr⟩ := rep_cells (hl (i, v, x) (by simp)) (known_iff h1)
        dsimp only at hz hzr
        have hfit : off + v.cells.toList.length ≤ vs.size := by simp; omega
        obtain ⟨e1, e2⟩ := foldl_set_getD v.cells.toList 0 off vs (by simpa using hfit)
        have efold : v.cells.zipIdx.foldl (fun cs (x : Value × Nat) => cs.setIfInBounds (off + x.2) x.1) vs = (v.cells.toList.zipIdx 0).foldl (fun cs (x : Value × Nat) => cs.setIfInBounds (off + x.2) x.1) vs := by
          rw [← Array.foldl_toList]; simp
        have hcl : v.cells.toList.length = x.cells.length := by simpa using hz
        obtain ⟨vs', g1, g2, g3⟩ := fill_rep place r ((v.cells.toList.zipIdx 0).foldl (fun cs (x : Value × Nat) => cs.setIfInBounds (off + x.2) x.1) vs) (setRange cs off x.cells) cs'
          (by rw [e1, setRange_length _ _ _ (by omega)]; exact hs) (fun p => by
            rw [e2, setRange_getD _ _ _ _ (by omega)]
            by_cases hp2 : off ≤ p ∧ p < off + x.cells.length
            · rw [if_pos hp2, if_pos (by omega)]
              have := hzr (p - off); simpa using this
            · rw [if_neg hp2, if_neg (by omega)]; exact hr p) (fun p hp' => hl p (by simp [hp'])) h
        refine ⟨vs', ?_, g2, g3⟩
        simp only [List.map_cons, Instr.fill, hp]
        rw [if_neg (by simp; omega), efold]
        exact g1
      · cases h

def placeS (T : Tys P) (fs : List (Nat × Nat × String)) (i : Nat) : Option (Nat × Nat) := (fs[i]?).map fun f => (f.1, (T.ty f.2.1).sz)

theorem run_mapM_list {α β : Type} (g : α → Sem β) (g' : α → β) (w : World) : ∀ (l : List α), (∀ x ∈ l, (g x).run P w = .ok (g' x) w) → (l.mapM g).run P w = .ok (l.map g') w
  | [], _ => by simp
  | x :: r, h => by
    have ih := run_mapM_list g g' w r (fun y hy => h y (by simp [hy]))
    simp [h x (by simp), ih]

theorem run_mapM_array {α β : Type} (g : α → Sem β) (g' : α → β) (w : World) (l : Array α) (h : ∀ x ∈ l, (g x).run P w = .ok (g' x) w) : (l.mapM g).run P w = .ok (l.map g') w := by
  rw [Array.mapM_eq_mapM_toList]
  have := run_mapM_list (P := P) g g' w l.toList (fun x hx => h x (by simpa using hx))
  simp [this]
  apply Array.ext'
  simp

theorem SpecO.build {T : Tys P} {o : Oper} {ts : TS} {K : TS → Prop} {t : TypeId} {parts : Array (Nat × Operand)} (ho : o.op = .build t parts) {fs : List (Nat × Nat × String)} (ht : (T.ty t).k = .struct fs)
    (hfs : ∀ f ∈ fs, (T.ty f.2.1).k ≠ .unk) {cs : List AV} (hf : fillA (placeS T fs) (T.ty t).zero (parts.toList.map fun p => (p.1, ts.ev p.2)) = some cs)
    (hk : setK ts o.dst (.agg cs) K) : SpecO P o ts K :=
  SpecO.val hk fun E G a w hr => by
    obtain ⟨ti, hi, _, _, ⟨z, hz, hzl, _⟩, _⟩ := Tys.get (T := T) (t := t) (by rw [ht]; simp)
    obtain ⟨h1, h2⟩ := rep_zero (c := ctxOf E G ts w) hzl
    obtain ⟨fd, hu, hfd⟩ := Tys.structT ht
    have hsz : ∀ f ∈ fd, (T.ty f.type).k ≠ .unk := fun f hf => hfs (f.offset, f.type, f.name) (by rw [← hfd]; exact List.mem_map.2 ⟨f, by simpa using hf, rfl⟩)
    have hpl : (fd.mapM (fun f => do pure (f.offset, ← sizeOf f.type) : _ → Sem (Nat × Nat))).run P w = .ok (fd.map fun f => (f.offset, (T.ty f.type).sz)) w :=
      run_mapM_array _ _ w fd fun f hf => by simp [Tys.run_sizeOf (hsz f hf)]
    have hplace : (fun i => (fd.map fun f => (f.offset, (T.ty f.type).sz))[i]?) = placeS T fs := by
      funext i
      rw [← hfd]
      simp only [placeS, List.getElem?_map, Array.getElem?_map, Array.getElem?_toList]
      cases fd[i]? <;> rfl
    have hl : (parts.toList.map fun p => (p.1, ts.ev p.2)) = (parts.toList.map fun p => (p.1, a.eval p.2, ts.ev p.2)).map fun p => (p.1, p.2.2) := by simp [List.map_map, Function.comp_def]
    rw [hl] at hf
    obtain ⟨vs', e1, e2, e3⟩ := fill_rep (placeS T fs) _ z.cells _ cs h1 h2 (by
      intro p hp
      obtain ⟨q, _, rfl⟩ := List.mem_map.1 hp
      exact hr.ev q.2) hf
    refine ⟨.agg vs', ?_, .agg _ _ e2 e3⟩
    simp only [execOp, ho, Instr.build, Sem.run_bind, zeroValue, typeInfo, run_program, Result.andThen_ok, hi, hz, Sem.run_pure, run_underlying hu, hpl]
    rw [hplace]
    have : (parts.map fun (x : Nat × Operand) => (x.1, a.eval x.2)).toList = (parts.toList.map fun p => (p.1, a.eval p.2, ts.ev p.2)).map fun p => (p.1, p.2.1) := by simp [List.map_map, Function.comp_def]
    rw [this, e1]
    rfl

/-! ### New arrays -/
def newArrK (ts : TS) (dst : Option Nat) (sz : Nat) (xs : List AV) (K : TS → Prop) : Prop :=
  match dst with
  | some d => d < ts.n ∧ K ((ts.new d (.arr sz xs)).put d (.os d (ts.gen d + 1) xs.length))
  | none => False

theorem SpecO.newArr {o : Oper} {ts : TS} {K : TS → Prop} {sz : Nat} {xs : List AV} (hk : newArrK ts o.dst sz xs K) (h0 : 0 < sz) (hsz : ∀ x ∈ xs, x.cells.length = sz)
    (hrun : ∀ E G a w, Rel E ts G a w → ∃ vs t cap w', (execOp a.eval o).run P w = .ok (.value (.slice (some ⟨w.heap.size, 0, none⟩) xs.length cap)) (w'.alloc (.cells vs t)) ∧ (w' = w ∨ w' = w.drew) ∧
      vs.size = cap * sz ∧ xs.length ≤ cap ∧ ∀ i j, i < xs.length → j < sz → Rep (ctxOf E G ts w) (vs.getD (i * sz + j) undef) ((xs.getD i .any).cells.getD j .any)) : SpecO P o ts K := by
  intro E G a w next Q hr hn
  obtain ⟨vs, t, cap, w', h1, hw', h2, h3, h4⟩ := hrun E G a w hr
  have hww : w'.heap = w.heap := by rcases hw' with rfl | rfl <;> rfl
  have hbel : Bel (fun _ => False) w (w'.alloc (.cells vs t)) := by
    rcases hw' with rfl | rfl
    · exact (Bel.refl _ _).alloc _
    · exact (Bel.refl _ _).drew.alloc _
  unfold Oper.wp
  rw [h1]
  show next (a.put o.dst _) _
  cases hd : o.dst with
  | none => rw [hd] at hk; exact hk.elim
  | some d =>
    rw [hd] at hk
    have hle := le_new E G ts w (w'.alloc (.cells vs t)) d w.heap.size (some cap) (.arr sz xs) (Nat.le_refl _) (fun i hi => hbel.block i hi (fun f => f))
    refine hn _ _ _ _ hk.2 (hr.newObj (w' := w'.alloc (.cells vs t)) hk.1 (.arr sz xs) w.heap.size (some cap) (Nat.le_refl _) (fun _ => by simp [hww]) hbel ?_ ?_)
    · refine .os d _ _ _ rfl (by simp [ctxOf, TS.new]) fun _ _ => ?_
      unfold OsIs
      simp only [ctxOf, Ghost.set, upd_same]
      simpa using h3
    · refine ⟨h0, hsz, ?_⟩
      simp only [ctxOf, Ghost.set, upd_same]
      refine ⟨vs, t, ?_, h2, h3, fun i j hi hj => (h4 i j hi hj).mono hle⟩
      rw [← hww]
      exact heap_alloc_new w' _

/-- A slice written out in full. -/
theorem fill_slice {c : Ctx} {sz : Nat} (h0 : 0 < sz) : ∀ (l : List (Value × AV)) (k : Nat) (vs : Array Value), (k + l.length) * sz ≤ vs.size → (∀ p ∈ l, Rep c p.1 p.2 ∧ p.2.known = true ∧ p.2.cells.length = sz) →
    ∃ vs', Instr.fill (fun i => some (i * sz, sz)) vs (l.zipIdx k |>.map fun p => (p.2, p.1.1)) = some vs' ∧ vs'.size = vs.size ∧
      (∀ p, p < k * sz → vs'.getD p undef = vs.getD p undef) ∧
      ∀ i j, i < l.length → j < sz → Rep c (vs'.getD ((k + i) * sz + j) undef) (((l.getD i (undef, .any)).2).cells.getD j .any)
  | [], k, vs, _, _ => ⟨vs, rfl, rfl, fun _ _ => rfl, fun i j hi => by simp at hi⟩
  | (v, x) :: r, k, vs, hfit, hl => by
    obtain ⟨hrep, hkn, hlen⟩ := hl (v, x) (by simp)
    dsimp only at hrep hkn hlen
    obtain ⟨hz, hzr⟩ := rep_cells hrep (known_iff hkn)
    simp only [List.length_cons] at hfit
    have hk1 : (k + 1) * sz ≤ vs.size := Nat.le_trans (Nat.mul_le_mul_right _ (by omega)) hfit
    have hk2 : k * sz + sz = (k + 1) * sz := by rw [Nat.add_mul, Nat.one_mul]
    obtain ⟨e1, e2⟩ := foldl_set_getD v.cells.toList 0 (k * sz) vs (by simp; omega)
    have efold : v.cells.zipIdx.foldl (fun cs (x : Value × Nat) => cs.setIfInBounds (k * sz + x.2) x.1) vs = (v.cells.toList.zipIdx 0).foldl (fun cs (x : Value × Nat) => cs.setIfInBounds (k * sz + x.2) x.1) vs := by
      rw [← Array.foldl_toList]; simp
    obtain ⟨vs', f1, f2, f3, f4⟩ := fill_slice h0 r (k + 1) _ (by rw [e1, show k + 1 + r.length = k + (r.length + 1) by omega]; exact hfit) (fun p hp => hl p (by simp [hp]))
    refine ⟨vs', ?_, by rw [f2, e1], fun p hp => ?_, fun i j hi hj => ?_⟩
    · simp only [List.zipIdx_cons, List.map_cons, Instr.fill]
      rw [if_neg (by simp; omega), efold]
      exact f1
    · rw [f3 p (by omega), e2, if_neg (by omega)]
    · cases i with
      | zero =>
        have hlt : (k + 0) * sz + j < (k + 1) * sz := by rw [← hk2]; simp; exact hj
        rw [f3 _ hlt, e2]
        have hcl : v.cells.toList.length = sz := by simp; omega
        rw [if_pos (by rw [hcl]; simp; exact hj)]
        have := hzr j
        simpa using this
      | succ i =>
        have := f4 i j (by simp at hi; omega) hj
        rw [show k + 1 + i = k + (i + 1) by omega] at this
        simpa using this

theorem SpecO.buildSlice {T : Tys P} {o : Oper} {ts : TS} {K : TS → Prop} {t e : TypeId} {n : Nat} {parts : Array (Nat × Operand)} (ho : o.op = .buildSlice t n parts) (ht : (T.ty t).k = .slice e) (he : (T.ty e).k ≠ .unk) (h0 : 0 < (T.ty e).sz)
    (hp : parts.toList.map (·.1) = List.range n) (hsmall : n * (T.ty e).sz ≤ 16777216)
    (hx : ∀ p ∈ parts.toList, (ts.ev p.2).known = true ∧ (ts.ev p.2).cells.length = (T.ty e).sz) (hk : newArrK ts o.dst (T.ty e).sz (parts.toList.map fun p => ts.ev p.2) K) : SpecO P o ts K := by
  have hlen : parts.toList.length = n := by have := congrArg List.length hp; simpa using this
  refine SpecO.newArr hk h0 (by intro x hx'; obtain ⟨p, hp', rfl⟩ := List.mem_map.1 hx'; exact (hx p hp').2) fun E G a w hr => ?_
  have hu := Tys.slice ht
  obtain ⟨ti, hi, hsz, _, ⟨z, hz, _, hzs⟩, _⟩ := Tys.get (T := T) he
  let l : List (Value × AV) := parts.toList.map fun p => (a.eval p.2, ts.ev p.2)
  have hl : l.length = n := by simp only [l, List.length_map]; exact hlen
  let zc : Array Value := if n * (T.ty e).sz = 0 then #[] else z.cells
  obtain ⟨vs', f1, f2, _, f4⟩ := fill_slice (c := ctxOf E G ts w) h0 l 0 ((Array.range (n * (T.ty e).sz)).map (zc[· % zc.size]!)) (by simp [hl]) (by
    intro p hp'
    obtain ⟨q, hq, rfl⟩ := List.mem_map.1 hp'
    exact ⟨hr.ev q.2, hx q hq⟩)
  have hparts : (parts.map fun (x : Nat × Operand) => (x.1, a.eval x.2)).toList = (l.zipIdx 0).map fun p => (p.2, p.1.1) := by
    apply List.ext_getElem?
    intro i
    simp only [Array.toList_map, List.getElem?_map, List.getElem?_zipIdx, l]
    have hpi := congrArg (fun q => q[i]?) hp
    simp only [List.getElem?_map, List.getElem?_range] at hpi
    cases hh : parts.toList[i]? with
    | none => simp
    | some q =>
      rw [hh] at hpi
      have hin : i < n := by rw [← hlen]; exact (List.getElem?_eq_some_iff.1 hh).1
      simp [hin] at hpi
      simp [hpi]
  refine ⟨vs', e, n, w, ?_, .inl rfl, by rw [f2]; simp, by simp [hlen], fun i j hi hj => ?_⟩
  · rw [show (parts.toList.map fun p => ts.ev p.2).length = n by simpa using hlen]
    simp only [execOp, ho, Instr.buildSlice, Sem.run_bind, run_underlying hu, Result.andThen_ok, Tys.run_sizeOf he]
    rw [if_neg (by omega)]
    by_cases hn0 : n * (T.ty e).sz = 0
    · simp only [zc, hn0, if_true] at f1
      simp only [hn0, if_true, Sem.run_bind, Sem.run_pure, Result.andThen_ok]
      rw [hparts, f1]
      simp [newRow]
    · simp only [zc, hn0, if_false] at f1
      simp only [hn0, if_false, Sem.run_bind, Sem.run_pure, Result.andThen_ok, zeroValue, typeInfo, run_program, hi, hz]
      rw [hparts, f1]
      simp [newRow]
  · have := f4 i j (by rw [hl]; simpa [hlen] using hi) hj
    have e1 : (l.getD i (undef, .any)).2 = (parts.toList.map fun p => ts.ev p.2).getD i .any := by
      simp only [l, List.getD_eq_getElem?_getD, List.getElem?_map]
      cases parts.toList[i]? <;> rfl
    rw [e1] at this
    simpa using this

end Go.Proofs.Ytjmnokbbodcaaaa.Lg
