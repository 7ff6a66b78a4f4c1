/- The rules of the operations on memory. -/
import Derived.Test.YtjmnokbbodcaaaaLg5
import Derived.Deep.AppendSrc
namespace Go.Proofs.Ytjmnokbbodcaaaa.Lg
set_option linter.unusedVariables false
set_option linter.unusedSimpArgs false
open Go
variable {P : Program}

theorem Addr.add0 (b o j : Nat) : (⟨b, o, none⟩ : Addr).add j = ⟨b, o + j, none⟩ := Addr.add_mid b o j

/-- The cells that a pointer leads to. -/
def TS.ptr (ts : TS) : AV → Option (List AV)
  | .ro cs => some cs
  | .ref d g off => if g = ts.gen d then (match ts.obj d with | .box cs => some (cs.drop off) | _ => none) else none
  | .eref d g i o => if g = ts.gen d then (match ts.obj d with | .arr _ xs => if i < xs.length then some ((xs.getD i .any).cells.drop o) else none | _ => none) else none
  | _ => none

theorem arr_real {E : Env} {ts : TS} {G : Ghost} {a : Act} {w : World} (h : Rel E ts G a w) {d sz : Nat} {xs : List AV} (ho : ts.obj d = .arr sz xs) (hne : xs ≠ []) :
    ∃ cap vs T, G.κ d = some cap ∧ w.heap[G.β d]? = some (.cells vs T (0, 0)) ∧ vs.size = cap * sz ∧ xs.length ≤ cap ∧ 0 < sz ∧ (∀ x ∈ xs, x.cells.length = sz) ∧
      ∀ i j, i < xs.length → j < sz → Rep (ctxOf E G ts w) (vs.getD (i * sz + j) undef) ((xs.getD i .any).cells.getD j .any) := by
  have hob := h.obj d
  rw [ho] at hob
  obtain ⟨h0, hsz, hrest⟩ := hob
  cases hκ : (ctxOf E G ts w).κ d with
  | none => rw [hκ] at hrest; exact absurd hrest hne
  | some cap =>
    rw [hκ] at hrest
    obtain ⟨vs, T, h1, h2, h3, h4⟩ := hrest
    exact ⟨cap, vs, T, hκ, h1, h2, h3, h0, hsz, h4⟩

theorem row_lt {i j sz cap len : Nat} (hi : i < len) (hl : len ≤ cap) (hj : j < sz) : i * sz + j < cap * sz := by
  calc i * sz + j < i * sz + sz := by omega
    _ = (i + 1) * sz := by rw [Nat.add_mul, Nat.one_mul]
    _ ≤ cap * sz := Nat.mul_le_mul_right _ (by omega)

theorem cell_of {w : World} {b o : Nat} {vs : Array Value} {T : TypeId} (h : w.heap[b]? = some (.cells vs T (0, 0))) (ho : o < vs.size) : w.cell? ⟨b, o, none⟩ = some (vs.getD o undef) := by
  unfold World.cell?
  rw [h]
  simp [ho]

theorem ptr_cells {E : Env} {ts : TS} {G : Ghost} {a : Act} {w : World} (h : Rel E ts G a w) {x : AV} {cs : List AV} (hp : ts.ptr x = some cs) {v : Value} (hv : Rep (ctxOf E G ts w) v x) :
    ∃ b off, v = .pointer (some ⟨b, off, none⟩) ∧ ∀ j, j < cs.length → ∃ u, w.cell? ⟨b, off + j, none⟩ = some u ∧ Rep (ctxOf E G ts w) u (cs.getD j .any) := by
  unfold TS.ptr at hp
  split at hp
  · cases hp
    cases hv with
    | ro b off _ f h0 hM hc hr => exact ⟨b, off, rfl, fun j hj => ⟨f j, hc j hj, hr j⟩⟩
  · rename_i d g off
    split at hp
    · rename_i hg
      split at hp
      · rename_i cs0 ho
        cases hp
        cases hv with
        | ref _ _ _ _ h1 hgl hh =>
          have := hh hg (by simp [ctxOf, ho, Ob.kind])
          have hob := h.obj d
          rw [ho] at hob
          obtain ⟨_, vs, T, hheap, hsize, hcell⟩ := hob
          refine ⟨_, _, this, fun j hj => ?_⟩
          have hj' : off + j < cs0.length := by simp at hj; omega
          refine ⟨vs.getD (off + j) undef, cell_of hheap (by omega), ?_⟩
          have := hcell (off + j)
          simpa [List.getElem?_drop] using this
      · cases hp
    · cases hp
  · rename_i d g i o
    split at hp
    · rename_i hg
      split at hp
      · rename_i sz xs ho
        split at hp
        · rename_i hi
          cases hp
          cases hv with
          | eref _ _ _ _ _ h1 hgl hh =>
            have hv := hh sz hg (by simp [ctxOf, ho, Ob.kind])
            obtain ⟨cap, vs, T, hκ, hheap, hsize, hfit, h0, hsz, hcell⟩ := arr_real h ho (by intro e; simp [e] at hi)
            refine ⟨_, _, hv, fun j hj => ?_⟩
            have hlen : (xs.getD i .any).cells.length = sz := by
              have : xs.getD i .any = xs[i] := by simp [hi]
              rw [this]; exact hsz _ (List.getElem_mem hi)
            have hj' : o + j < sz := by simp only [List.length_drop, hlen] at hj; omega
            refine ⟨vs.getD (i * sz + (o + j)) undef, ?_, ?_⟩
            · rw [show i * sz + o + j = i * sz + (o + j) by omega]
              exact cell_of hheap (by rw [hsize]; exact row_lt hi hfit hj')
            · have := hcell i (o + j) hi hj'
              simpa [List.getElem?_drop] using this
        · cases hp
      · cases hp
    · cases hp
  · cases hp

/-! ### Loads -/
theorem SpecO.load {T : Tys P} {o : Oper} {ts : TS} {K : TS → Prop} {t : TypeId} {x : Operand} (ho : o.op = .load t x) (ht : (T.ty t).k ≠ .unk) {cs : List AV} (hp : ts.ptr (ts.ev x) = some cs)
    (hl : (if (T.ty t).k.agg then (T.ty t).sz else 1) ≤ cs.length)
    (hk : setK ts o.dst (if (T.ty t).k.agg then .agg (cs.take (T.ty t).sz) else cs.getD 0 .any) K) : SpecO P o ts K :=
  SpecO.val hk fun E G a w hr => by
    obtain ⟨b, off, hv, hc⟩ := ptr_cells hr hp (hr.ev x)
    cases hag : (T.ty t).k.agg with
    | false =>
      rw [hag] at hl
      obtain ⟨u, hu, hrep⟩ := hc 0 (by simp at hl; omega)
      refine ⟨u, ?_, by simpa using hrep⟩
      simp only [execOp, ho, hv, Instr.loadAt, Instr.sureAddr, Sem.run_bind, Sem.run_pure, Result.andThen_ok, loadVar, Tys.run_isAgg ht, hag, Bool.false_eq_true, if_false]
      simp [show w.cell? ⟨b, off, none⟩ = some u from hu]
    | true =>
      rw [hag] at hl
      simp only [if_true] at hl
      let f : Nat → Value := fun j => (w.cell? ⟨b, off + j, none⟩).getD undef
      have hf : ∀ j, j < (T.ty t).sz → w.cell? ((⟨b, off, none⟩ : Addr).add j) = some (f j) := fun j hj => by
        obtain ⟨u, hu, _⟩ := hc j (by omega)
        rw [Addr.add0]; simp [f, hu]
      have hload := run_loadCells (P := P) w ⟨b, off, none⟩ (T.ty t).sz f hf
      refine ⟨.agg ((List.range (T.ty t).sz).map f).toArray, ?_, .agg _ _ (by simp; omega) fun i => ?_⟩
      · simp only [execOp, ho, hv, Instr.loadAt, Instr.sureAddr, Sem.run_bind, Sem.run_pure, Result.andThen_ok, loadVar, Tys.run_isAgg ht, hag, if_true, Tys.run_sizeOf ht, hload]
      · by_cases hi : i < (T.ty t).sz
        · obtain ⟨u, hu, hrep⟩ := hc i (by omega)
          have e1 : (((List.range (T.ty t).sz).map f).toArray).getD i undef = u := by simp [hi, f, hu]
          have e2 : (cs.take (T.ty t).sz).getD i .any = cs.getD i .any := by simp [List.getElem?_take, hi]
          rw [e1, e2]; exact hrep
        · have e2 : (cs.take (T.ty t).sz).getD i .any = .any := by simp [List.getElem?_take, hi]
          rw [e2]; exact .any _

/-! ### New boxes -/
def newBoxK (ts : TS) (dst : Option Nat) (cs : List AV) (K : TS → Prop) : Prop :=
  match dst with
  | some d => d < ts.n ∧ K ((ts.new d (.box cs)).put d (.ref d (ts.gen d + 1) 0))
  | none => False

theorem SpecO.newBox {o : Oper} {ts : TS} {K : TS → Prop} {cs : List AV} (hk : newBoxK ts o.dst cs K)
    (hrun : ∀ E G a w, Rel E ts G a w → ∃ vs t, (execOp a.eval o).run P w = .ok (.value (.pointer (some ⟨w.heap.size, 0, none⟩))) (w.alloc (.cells vs t)) ∧
      vs.size = cs.length ∧ ∀ i, Rep (ctxOf E G ts w) (vs.getD i undef) (cs.getD i .any)) : SpecO P o ts K := by
  intro E G a w next Q hr hn
  obtain ⟨vs, t, h1, h2, h3⟩ := hrun E G a w hr
  unfold Oper.wp
  rw [h1]
  show next (a.put o.dst _) _
  cases hd : o.dst with
  | none => rw [hd] at hk; exact hk.elim
  | some d =>
    rw [hd] at hk
    have hw : ∀ i, i < w.heap.size → (w.alloc (.cells vs t)).heap[i]? = w.heap[i]? := fun i hi => heap_alloc_old w _ i hi
    have hle := le_new E G ts w (w.alloc (.cells vs t)) d w.heap.size (some 0) (.box cs) (Nat.le_refl _) hw
    refine hn _ _ _ _ hk.2 (hr.newObj (w' := w.alloc (.cells vs t)) hk.1 (.box cs) w.heap.size (some 0) (Nat.le_refl _) (fun _ => by simp) ⟨rfl, rfl, rfl, by simp, fun k hk' _ => hw k hk', Nat.le_refl _⟩ ?_ ?_)
    · refine .ref d _ 0 _ rfl (by simp [ctxOf, TS.new]) fun _ _ => by simp [ctxOf, Ghost.set]
    · refine ⟨by simp [ctxOf, Ghost.set], vs, t, ?_, h2, fun i => (h3 i).mono hle⟩
      simp only [ctxOf, Ghost.set, upd_same]
      exact heap_alloc_new w _

theorem rep_zero {c : Ctx} {z : Value} {l : List AV} (h : z.cells.toList.map ofV = l) : z.cells.size = l.length ∧ ∀ i, Rep c (z.cells.getD i undef) (l.getD i .any) := by
  subst h
  refine ⟨by simp, fun i => ?_⟩
  by_cases hi : i < z.cells.size
  · have : (z.cells.toList.map ofV).getD i .any = ofV (z.cells.getD i undef) := by simp [hi]
    rw [this]; exact rep_ofV _ _
  · have : (z.cells.toList.map ofV).getD i .any = .any := by simp [hi]
    rw [this]; exact .any _

theorem SpecO.alloc {T : Tys P} {o : Oper} {ts : TS} {K : TS → Prop} {t : TypeId} (ho : o.op = .alloc t) (ht : (T.ty t).k ≠ .unk) (hk : newBoxK ts o.dst (T.ty t).zero K) : SpecO P o ts K :=
  SpecO.newBox hk fun E G a w hr => by
    obtain ⟨ti, hi, _, _, ⟨z, hz, hzl, _⟩, _⟩ := Tys.get (T := T) ht
    obtain ⟨h1, h2⟩ := rep_zero (c := ctxOf E G ts w) hzl
    refine ⟨z.cells, t, ?_, h1, h2⟩
    simp [execOp, ho, Instr.alloc, zeroValue, typeInfo, hi, hz, newVar, newRow]

theorem rep_cells {c : Ctx} {v : Value} {x : AV} (h : Rep c v x) (hx : x.one = true ∨ ∃ cs, x = .agg cs) : v.cells.size = x.cells.length ∧ ∀ i, Rep c (v.cells.getD i undef) (x.cells.getD i .any) := by
  rcases hx with hx | ⟨cs, rfl⟩
  · have hv : v.cells = #[v] := by have := h.one hx; cases v <;> simp_all [Value.cells, Value.oneCell']
    have hxc : x.cells = [x] := by cases x <;> simp_all [AV.cells, AV.one]
    rw [hv, hxc]
    refine ⟨rfl, fun i => ?_⟩
    cases i with
    | zero => exact h
    | succ i => exact .any _
  · cases h with
    | agg vs _ hl hh => exact ⟨hl, hh⟩

def AV.known : AV → Bool
  | .agg _ => true
  | x => x.one

theorem known_iff {x : AV} (h : x.known = true) : x.one = true ∨ ∃ cs, x = .agg cs := by
  cases x <;> simp_all [AV.known, AV.one]

theorem SpecO.box {o : Oper} {ts : TS} {K : TS → Prop} {t : TypeId} {x : Operand} (ho : o.op = .box t x) (hx : (ts.ev x).known = true) (hk : newBoxK ts o.dst (ts.ev x).cells K) : SpecO P o ts K :=
  SpecO.newBox hk fun E G a w hr => by
    obtain ⟨h1, h2⟩ := rep_cells (hr.ev x) (known_iff hx)
    exact ⟨(a.eval x).cells, t, by simp [execOp, ho, Instr.box, newVar, newRow], h1, h2⟩

/-! ### Stores -/
def setRange (cs : List AV) (o : Nat) (ys : List AV) : List AV := cs.take o ++ ys ++ cs.drop (o + ys.length)

theorem splice_getD {α : Type} (l m : List α) (o i : Nat) (d : α) (h : o + m.length ≤ l.length) :
    (l.take o ++ m ++ l.drop (o + m.length)).getD i d = if o ≤ i ∧ i < o + m.length then m.getD (i - o) d else l.getD i d := by
  have ht : (l.take o).length = o := by simp; omega
  simp only [List.getD_eq_getElem?_getD, List.append_assoc]
  by_cases h1 : i < o
  · rw [List.getElem?_append_left (by rw [ht]; exact h1), if_neg (by omega), List.getElem?_take, if_pos h1]
  · rw [List.getElem?_append_right (by rw [ht]; omega), ht]
    by_cases h2 : i < o + m.length
    · rw [List.getElem?_append_left (by omega), if_pos ⟨by omega, h2⟩]
    · rw [List.getElem?_append_right (by omega), if_neg (by omega), List.getElem?_drop]
      congr 2
      omega

theorem splice_length {α : Type} (l m : List α) (o : Nat) (h : o + m.length ≤ l.length) : (l.take o ++ m ++ l.drop (o + m.length)).length = l.length := by
  simp; omega

theorem rep_splice {c : Ctx} {vs : Array Value} {us : Array Value} {cs ys : List AV} {o : Nat} (hs : vs.size = cs.length) (hu : us.size = ys.length) (h : o + ys.length ≤ cs.length)
    (h1 : ∀ i, Rep c (vs.getD i undef) (cs.getD i .any)) (h2 : ∀ i, Rep c (us.getD i undef) (ys.getD i .any)) :
    ∀ i, Rep c ((vs.toList.take o ++ us.toList ++ vs.toList.drop (o + us.toList.length)).toArray.getD i undef) ((setRange cs o ys).getD i .any) := by
  intro i
  unfold setRange
  rw [splice_getD cs ys o i .any h]
  have e : (vs.toList.take o ++ us.toList ++ vs.toList.drop (o + us.toList.length)).toArray.getD i undef =
      (vs.toList.take o ++ us.toList ++ vs.toList.drop (o + us.toList.length)).getD i undef := by simp
  rw [e, splice_getD vs.toList us.toList o i undef (by simp; omega)]
  have hl : us.toList.length = ys.length := by simp [hu]
  rw [hl]
  split
  · have := h2 (i - o); simpa using this
  · have := h1 i; simpa using this

/-- The element with new cells. -/
def pokeEl (old : AV) (o : Nat) (ys : List AV) : AV :=
  match old with
  | .agg cs => .agg (setRange cs o ys)
  | _ => ys.getD 0 .any

/-- The object behind a pointer, with new cells there. -/
def TS.poke (ts : TS) (p : AV) (ys : List AV) : Option (Nat × Ob) :=
  match p with
  | .ref d g off => if g = ts.gen d then (match ts.obj d with | .box cs => if off + ys.length ≤ cs.length then some (d, .box (setRange cs off ys)) else none | _ => none) else none
  | .eref d g i o => if g = ts.gen d then (match ts.obj d with
      | .arr sz xs => if i < xs.length ∧ o + ys.length ≤ sz ∧ ys ≠ [] then some (d, .arr sz (xs.set i (pokeEl (xs.getD i .any) o ys))) else none
      | _ => none) else none
  | _ => none

theorem all_one {c : Ctx} {us : Array Value} {ys : List AV} (hu : us.size = ys.length) (h : ∀ i, Rep c (us.getD i undef) (ys.getD i .any)) (h1 : ys.all AV.one = true) : ∀ v ∈ us.toList, v.oneCell' = true := by
  intro v hv
  obtain ⟨i, hi, rfl⟩ := List.mem_iff_getElem.1 hv
  have hi' : i < ys.length := by simp at hi; omega
  have := h i
  have e1 : us.getD i undef = us.toList[i] := by simp at hi; simp [hi]
  have e2 : ys.getD i .any = ys[i] := by simp [hi']
  rw [e1, e2] at this
  exact this.one (by simpa using (List.all_eq_true.1 h1) ys[i] (List.getElem_mem hi'))

theorem SpecO.store {T : Tys P} {o : Oper} {ts : TS} {K : TS → Prop} {t : TypeId} {p x : Operand} (ho : o.op = .store t p x) (ht : (T.ty t).k ≠ .unk) (hx : (ts.ev x).known = true)
    (hn : (ts.ev x).cells.length = (T.ty t).sz) (h1 : (ts.ev x).cells.all AV.one = true) {d : Nat} {ob : Ob} (hp : ts.poke (ts.ev p) (ts.ev x).cells = some (d, ob))
    (hd : ∀ e, o.dst = some e → e < ts.n) (hk : K (putDst (ts.setObj d ob) o.dst .any)) : SpecO P o ts K := by
  intro E G a w next Q hr hnext
  obtain ⟨hcs, hcr⟩ := rep_cells (hr.ev x) (known_iff hx)
  have hone := all_one hcs hcr h1
  have main : ∃ b off w', a.eval p = .pointer (some ⟨b, off, none⟩) ∧ (storeCells ⟨b, off, none⟩ (a.eval x).cells.toList 0).run P w = .ok () w' ∧ Rel E (ts.setObj d ob) G a w' := by
    have hpr := hr.ev p
    generalize a.eval p = vp at hpr ⊢
    unfold TS.poke at hp
    split at hp
    · rename_i d' g off ep
      rw [ep] at hpr
      split at hp
      · rename_i hg
        split at hp
        · rename_i cs hob
          split at hp
          · rename_i hfit
            cases hp
            have hob' := hr.obj d
            rw [hob] at hob'
            obtain ⟨hκ, vs, tt, hheap, hsize, hcell⟩ := hob'
            have hlive : liveR ts G d := ⟨by simp [hob, Ob.kind], hκ⟩
            cases hpr with
            | ref _ _ _ _ _ _ hh =>
              have hv := hh hg (by simp [ctxOf, hob, Ob.kind])
              have hst := run_storeCells_at P (G.β d) off tt (a.eval x).cells.toList 0 vs w hheap (by simp; omega) hone
              simp only [Nat.add_zero] at hst
              refine ⟨_, _, _, hv, hst, hr.setObj d _ (by simp [hob, Ob.kind]) hlive rfl rfl rfl (by simp [World.setRow]) (fun i hi => setRow_other w _ i _ hi) ?_⟩
              refine ⟨hκ, _, tt, setRow_heap w _ vs _ tt _ hheap, ?_, ?_⟩
              · have := splice_length vs.toList (a.eval x).cells.toList off (by simp; omega)
                have e2 := splice_length cs (ts.ev x).cells off hfit
                simp only [List.size_toArray, this, setRange, e2]
                simpa using hsize
              · have hle : (ctxOf E G ts w).Le (ctxOf E G (ts.setObj d (.box (setRange cs off (ts.ev x).cells))) (w.setRow (G.β d) ((vs.toList.take off ++ (a.eval x).cells.toList ++ vs.toList.drop (off + (a.eval x).cells.toList.length)).toArray))) :=
                  le_setObj E G ts w _ d _ (by simp [hob, Ob.kind]) hlive (fun i hi => setRow_other w _ i _ hi)
                exact rep_splice hsize hcs hfit (fun i => (hcell i).mono hle) (fun i => (hcr i).mono hle)
          · cases hp
        · cases hp
      · cases hp
    · rename_i d' g i o' ep
      rw [ep] at hpr
      split at hp
      · rename_i hg
        split at hp
        · rename_i sz xs hob
          split at hp
          · rename_i hfit
            obtain ⟨hi, hfit, hne⟩ := hfit
            cases hp
            obtain ⟨cap, vs, tt, hκ, hheap, hsize, hlen, h0, hsz, hcell⟩ := arr_real hr hob (by intro e; simp [e] at hi)
            have hlive : liveR ts G d := ⟨by simp [hob, Ob.kind], by rw [hκ]; simp⟩
            cases hpr with
            | eref _ _ _ _ _ _ _ hh =>
              have hv := hh sz hg (by simp [ctxOf, hob, Ob.kind])
              have hyl : (a.eval x).cells.toList.length = (ts.ev x).cells.length := by simpa using hcs
              have hin : i * sz + o' + (ts.ev x).cells.length ≤ vs.size := by
                rw [hsize]
                calc i * sz + o' + (ts.ev x).cells.length ≤ i * sz + sz := by omega
                  _ = (i + 1) * sz := by rw [Nat.add_mul, Nat.one_mul]
                  _ ≤ cap * sz := Nat.mul_le_mul_right _ (by omega)
              have hst := run_storeCells_at P (G.β d) (i * sz + o') tt (a.eval x).cells.toList 0 vs w hheap (by rw [hyl]; omega) hone
              simp only [Nat.add_zero] at hst
              refine ⟨_, _, _, hv, hst, hr.setObj d _ (by simp [hob, Ob.kind]) hlive rfl rfl rfl (by simp [World.setRow]) (fun i hi => setRow_other w _ i _ hi) ?_⟩
              have hle : (ctxOf E G ts w).Le (ctxOf E G (ts.setObj d (.arr sz (xs.set i (pokeEl (xs.getD i .any) o' (ts.ev x).cells)))) (w.setRow (G.β d) ((vs.toList.take (i * sz + o') ++ (a.eval x).cells.toList ++ vs.toList.drop (i * sz + o' + (a.eval x).cells.toList.length)).toArray))) :=
                le_setObj E G ts w _ d _ (by simp [hob, Ob.kind]) hlive (fun i hi => setRow_other w _ i _ hi)
              have hxi : xs.getD i .any = xs[i] := by simp [hi]
              have hxl : xs[i].cells.length = sz := hsz _ (List.getElem_mem hi)
              have hxl' : (xs.getD i .any).cells.length = sz := by rw [hxi]; exact hxl
              have hpe : (pokeEl (xs.getD i .any) o' (ts.ev x).cells).cells = setRange (xs.getD i .any).cells o' (ts.ev x).cells := by
                rw [hxi]
                unfold pokeEl
                split
                · rename_i cs e; rw [e]; rfl
                · rename_i hna
                  have hc1 : xs[i].cells = [xs[i]] := by
                    cases hx : xs[i] <;> simp_all [AV.cells]
                  have hsz1 : sz = 1 := by rw [← hxl, hc1]; rfl
                  have hyl1 : (ts.ev x).cells.length = 1 := by
                    have := List.length_pos_iff.2 hne; omega
                  have ho0 : o' = 0 := by omega
                  obtain ⟨y, hy⟩ := List.length_eq_one_iff.1 hyl1
                  rw [hc1, hy, ho0]
                  have hyo : y.one = true := by rw [hy] at h1; simpa using h1
                  simp only [setRange, List.take_zero, List.nil_append, List.length_singleton, Nat.zero_add, List.drop_one, List.tail_cons, List.append_nil]
                  cases y <;> simp_all [AV.cells, AV.one]
              refine ⟨h0, ?_, ?_⟩
              · intro y hy
                rcases List.mem_or_eq_of_mem_set hy with hy | rfl
                · exact hsz y hy
                · rw [hpe]; unfold setRange; rw [splice_length _ _ _ (by rw [hxl']; exact hfit)]; exact hxl'
              · have hκ' : (ctxOf E G (ts.setObj d (.arr sz (xs.set i (pokeEl (xs.getD i .any) o' (ts.ev x).cells)))) (w.setRow (G.β d) ((vs.toList.take (i * sz + o') ++ (a.eval x).cells.toList ++ vs.toList.drop (i * sz + o' + (a.eval x).cells.toList.length)).toArray))).κ d = some cap := hκ
                rw [hκ']
                refine ⟨_, tt, setRow_heap w _ vs _ tt _ hheap, ?_, by simpa using hlen, ?_⟩
                · have := splice_length vs.toList (a.eval x).cells.toList (i * sz + o') (by rw [hyl]; simpa using hin)
                  simp only [List.size_toArray, this]
                  simpa using hsize
                · intro i' j hi' hj
                  simp only [List.length_set] at hi'
                  have e := splice_getD vs.toList (a.eval x).cells.toList (i * sz + o') (i' * sz + j) undef (by rw [hyl]; simpa using hin)
                  have eL : ∀ (l : Array Value) (k : Nat), l.toList.getD k undef = l.getD k undef := fun l k => by simp
                  have e' : ∀ (l : List Value) (k : Nat), l.toArray.getD k undef = l.getD k undef := fun l k => by simp
                  rw [e', e]
                  by_cases hii : i' = i
                  · subst hii
                    have : (xs.set i' (pokeEl (xs.getD i' .any) o' (ts.ev x).cells)).getD i' .any = pokeEl (xs.getD i' .any) o' (ts.ev x).cells := by simp [hi]
                    rw [this, hpe]
                    unfold setRange
                    rw [splice_getD _ _ _ _ _ (by rw [hxl']; exact hfit)]
                    by_cases hj2 : o' ≤ j ∧ j < o' + (ts.ev x).cells.length
                    · rw [if_pos hj2, if_pos (by omega), show i' * sz + j - (i' * sz + o') = j - o' by omega]
                      rw [eL]; exact (hcr (j - o')).mono hle
                    · rw [if_neg hj2, if_neg (by omega), eL]
                      exact (hcell i' j hi hj).mono hle
                  · have : (xs.set i (pokeEl (xs.getD i .any) o' (ts.ev x).cells)).getD i' .any = xs.getD i' .any := by
                      simp [List.getElem?_set, Ne.symm hii]
                    rw [this]
                    have hout : ¬ (i * sz + o' ≤ i' * sz + j ∧ i' * sz + j < i * sz + o' + (a.eval x).cells.toList.length) := by
                      rw [hyl]
                      rintro ⟨ha, hb⟩
                      rcases Nat.lt_or_gt_of_ne hii with hlt | hgt
                      · have : i' * sz + sz ≤ i * sz := by
                          calc i' * sz + sz = (i' + 1) * sz := by rw [Nat.add_mul, Nat.one_mul]
                            _ ≤ i * sz := Nat.mul_le_mul_right _ hlt
                        omega
                      · have : i * sz + sz ≤ i' * sz := by
                          calc i * sz + sz = (i + 1) * sz := by rw [Nat.add_mul, Nat.one_mul]
                            _ ≤ i' * sz := Nat.mul_le_mul_right _ hgt
                        omega
                    rw [if_neg hout, eL]
                    exact (hcell i' j hi' hj).mono hle
          · cases hp
        · cases hp
      · cases hp
    · cases hp
  obtain ⟨b, off, w', hv, hst, hr'⟩ := main
  unfold Oper.wp
  have hsz : (a.eval x).cells.size = (T.ty t).sz := by rw [hcs, hn]
  have hrun : (execOp a.eval o).run P w = .ok .skip w' := by
    simp only [execOp, ho, hv, Instr.storeAt, Instr.sureAddr, Sem.run_bind, Sem.run_pure, Result.andThen_ok, storeVar, Tys.run_sizeOf ht]
    rw [hsz]
    simp [hst]
  rw [hrun]
  show next (a.put o.dst undef) w'
  exact hnext _ G _ w' hk (hr'.put_any o.dst hd undef)

end Go.Proofs.Ytjmnokbbodcaaaa.Lg
