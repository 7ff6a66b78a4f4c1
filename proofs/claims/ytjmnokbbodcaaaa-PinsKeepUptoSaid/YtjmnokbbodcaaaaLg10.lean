/- append; slices of slices and strings; closures; equality of structs. -/
import Derived.Test.YtjmnokbbodcaaaaLg9
namespace Go.Proofs.Ytjmnokbbodcaaaa.Lg
set_option linter.unusedVariables false
set_option linter.unusedSimpArgs false
open Go
variable {P : Program}

theorem run_append_room_own (w : World) (t tx ty e : TypeId) (i : TypeInfo) (ht : P.underlying t = some (.slice e)) (hi : P.info? e = some i) (g sLen sCap : Nat) (cur : Array Value) (et : TypeId) (hg : w.heap[g]? = some (.cells cur et (0, 0)))
    (x : Value) (n : Nat) (news : List Value) (hs : Src P i.size tx x n news w) (hroom : sLen + n ≤ sCap) (hfit : sLen * i.size + news.length ≤ cur.size) :
    (Builtin.append_ #[t, tx] ty #[.slice (some ⟨g, 0, none⟩) sLen sCap, x]).run P w =
      .ok (.slice (some ⟨g, 0, none⟩) (sLen + n) sCap) (w.setRow g (cur.toList.take (sLen * i.size) ++ news ++ cur.toList.drop (sLen * i.size + news.length)).toArray) := by
  have hst := run_storeCells_at P g (sLen * i.size) et news 0 cur w hg (by simpa using hfit) hs.one
  simp only [Nat.add_zero] at hst
  rcases hs.kind with ⟨e', hk⟩ | hk <;> simp [Builtin.append_, run_underlying ht, run_underlying hk, sizeOf, typeInfo, hi, hs.len, hroom, hs.cells, Addr.add_lit, hst]

/-- Nothing appended where there is nothing. -/
theorem run_append_none (w : World) (t tx ty e : TypeId) (i : TypeInfo) (ht : P.underlying t = some (.slice e)) (hi : P.info? e = some i) (ad : Option Addr) (x : Value) (hs : Src P i.size tx x 0 [] w) :
    (Builtin.append_ #[t, tx] ty #[.slice ad 0 0, x]).run P w = .ok (.slice ad 0 0) w := by
  rcases hs.kind with ⟨e', hk⟩ | hk <;> cases ad <;> simp [Builtin.append_, run_underlying ht, run_underlying hk, sizeOf, typeInfo, hi, hs.len, hs.cells, storeCells]

/-- What may be appended to: nothing at all, or an array of the frame's own. -/
inductive Base where
  | none
  | own (d : Nat)

def TS.base (ts : TS) (s : AV) (sz : Nat) : Option (Base × List AV) :=
  match s with
  | .slice true [] => some (.none, [])
  | .os d g len => if g = ts.gen d then (match ts.obj d with | .arr sz' xs => if sz' = sz ∧ len ≤ xs.length then some (.own d, xs.take len) else Option.none | _ => Option.none) else Option.none
  | _ => Option.none

def TS.unbase (ts : TS) : Base → TS
  | .none => ts
  | .own d => ts.kill d

theorem zeros_len (z : Array Value) (n : Nat) : (Builtin.zeroCells z n).size = n * z.size := size_zeroCells z n

theorem append_cells {c : Ctx} {old news : List Value} {xs ys : List AV} {sz : Nat} (h0 : 0 < sz) (ho : old.length = xs.length * sz) (hn : news.length = ys.length * sz)
    (h1 : ∀ i j, i < xs.length → j < sz → Rep c (old.getD (i * sz + j) undef) ((xs.getD i .any).cells.getD j .any))
    (h2 : ∀ i j, i < ys.length → j < sz → Rep c (news.getD (i * sz + j) undef) ((ys.getD i .any).cells.getD j .any)) (tail : List Value) :
    ∀ i j, i < (xs ++ ys).length → j < sz → Rep c ((old ++ news ++ tail).getD (i * sz + j) undef) (((xs ++ ys).getD i .any).cells.getD j .any) := by
  intro i j hi hj
  simp only [List.length_append] at hi
  by_cases hx : i < xs.length
  · have hp : i * sz + j < old.length := by rw [ho]; exact row_lt hx (Nat.le_refl _) hj
    have e1 : (old ++ news ++ tail).getD (i * sz + j) undef = old.getD (i * sz + j) undef := by
      simp only [List.getD_eq_getElem?_getD, List.append_assoc]; rw [List.getElem?_append_left hp]
    have e2 : (xs ++ ys).getD i .any = xs.getD i .any := by
      simp only [List.getD_eq_getElem?_getD]; rw [List.getElem?_append_left hx]
    rw [e1, e2]; exact h1 i j hx hj
  · have hi2 : i - xs.length < ys.length := by omega
    have hp : (i - xs.length) * sz + j < news.length := by rw [hn]; exact row_lt hi2 (Nat.le_refl _) hj
    have hmul : i * sz + j = old.length + ((i - xs.length) * sz + j) := by
      rw [ho]
      have : i * sz = xs.length * sz + (i - xs.length) * sz := by rw [← Nat.add_mul]; congr 1; omega
      omega
    have e1 : (old ++ news ++ tail).getD (i * sz + j) undef = news.getD ((i - xs.length) * sz + j) undef := by
      simp only [List.getD_eq_getElem?_getD, List.append_assoc, hmul]
      rw [List.getElem?_append_right (by omega), List.getElem?_append_left (by omega)]
      congr 2
      omega
    have e2 : (xs ++ ys).getD i .any = ys.getD (i - xs.length) .any := by
      simp only [List.getD_eq_getElem?_getD]; rw [List.getElem?_append_right (by omega)]
    rw [e1, e2]; exact h2 _ j hi2 hj

theorem SpecO.append {T : Tys P} {o : Oper} {ts : TS} {K : TS → Prop} {t tx e e' : TypeId} {s x : Operand} (ho : o.op = .call { callee := .builtin .append, args := #[s, x], argTypes := #[t, tx] })
    (ht : (T.ty t).k = .slice e) (htx : (T.ty tx).k = .slice e') (he : (T.ty e).k ≠ .unk) (h0 : 0 < (T.ty e).sz) {b : Base} {xs ys : List AV} (hb : ts.base (ts.ev s) (T.ty e).sz = some (b, xs)) (hy : ts.sl (ts.ev x) = some ys)
    (hl : ∀ y ∈ ys, y.cells.length = (T.ty e).sz) (h1 : ∀ y ∈ ys, y.cells.all AV.one = true) (hsmall : (xs.length + ys.length) * (T.ty e).bytes ≤ 140737488355328) (hsmall' : xs.length + ys.length ≤ 9223372036854775807)
    {d' : Nat} (hd : o.dst = some d') (hd' : d' < ts.n)
    (hk : K (((ts.unbase b).new d' (.arr (T.ty e).sz (xs ++ ys))).put d' (.os d' (ts.gen d' + 1) (xs ++ ys).length))) : SpecO P o ts K := by
  intro E G a w next Q hr hnext
  have hut := Tys.slice ht
  have hux := Tys.slice htx
  obtain ⟨ti, hi, hsz, hby, ⟨z, hz, _, hzs⟩, _⟩ := Tys.get (T := T) he
  have hex : ∀ v w', (Builtin.append_ #[t, tx] o.type #[a.eval s, a.eval x]).run P w = .ok v w' → (execOp a.eval o).run P w = .ok (.value v) w' := fun v w' h => by
    simp [execOp, ho, resolve, invoke, builtin, h]
  -- the frame's state behind a fresh row
  have fresh : ∀ (hr0 : Rel E (ts.unbase b) G a w) (vs : Array Value) (et : TypeId) (cap : Nat), vs.size = cap * (T.ty e).sz → xs.length + ys.length ≤ cap →
      (∀ i j, i < (xs ++ ys).length → j < (T.ty e).sz → Rep (ctxOf E G ts w) (vs.getD (i * (T.ty e).sz + j) undef) (((xs ++ ys).getD i .any).cells.getD j .any)) → (∀ x ∈ xs, x.cells.length = (T.ty e).sz) →
      next (a.put (some d') (.slice (some ⟨w.heap.size, 0, none⟩) (xs.length + ys.length) cap)) (w.drew.alloc (.cells vs et)) := by
    intro hr0 vs et cap q1 q2 q3 q4
    have hbel : Bel (fun _ => False) w (w.drew.alloc (.cells vs et)) := (Bel.refl _ _).drew.alloc _
    have hle0 : (ctxOf E G ts w).Le (ctxOf E G (ts.unbase b) w) := by
      cases b with
      | none => exact ⟨fun _ _ hM hc => ⟨hc, hM⟩, fun _ => Nat.le_refl _, fun _ _ _ hk => ⟨hk, rfl, rfl⟩⟩
      | own d => exact le_kill E G ts w d
    have hgen : (ts.unbase b).gen = ts.gen := by cases b <;> rfl
    have hn0 : (ts.unbase b).n = ts.n := by cases b <;> rfl
    have hle := le_new E G (ts.unbase b) w (w.drew.alloc (.cells vs et)) d' w.heap.size (some cap) (.arr (T.ty e).sz (xs ++ ys)) (Nat.le_refl _) (fun i hi => hbel.block i hi (fun f => f))
    refine hnext _ _ _ _ hk (hr0.newObj (w' := w.drew.alloc (.cells vs et)) (by rw [hn0]; exact hd') (.arr (T.ty e).sz (xs ++ ys)) w.heap.size (some cap) (Nat.le_refl _) (fun _ => by simp) hbel ?_ ?_)
    · refine .os d' _ _ _ rfl (by simp [ctxOf, TS.new, hgen]) fun _ _ => ?_
      unfold OsIs
      simp only [ctxOf, Ghost.set, upd_same, List.length_append]
      simpa using q2
    · refine ⟨h0, fun q hq => ?_, ?_⟩
      · rcases List.mem_append.1 hq with hq | hq
        · exact q4 q hq
        · exact hl q hq
      · simp only [ctxOf, Ghost.set, upd_same]
        exact ⟨vs, et, heap_alloc_new w.drew _, q1, by simpa using q2, fun i j hi hj => ((q3 i j hi hj).mono hle0).mono hle⟩
  -- nothing there, nothing appended
  have virt : ∀ (hr0 : Rel E (ts.unbase b) G a w) (ad : Option Addr), xs = [] → ys = [] → next (a.put (some d') (.slice ad 0 0)) w := by
    intro hr0 ad q1 q2
    subst q1 q2
    have hgen : (ts.unbase b).gen = ts.gen := by cases b <;> rfl
    have hn0 : (ts.unbase b).n = ts.n := by cases b <;> rfl
    refine hnext _ _ _ _ hk (hr0.newObj (w' := w) (by rw [hn0]; exact hd') (.arr (T.ty e).sz ([] ++ [])) w.heap.size none (Nat.le_refl _) (fun h => absurd rfl h) (Bel.refl _ _) ?_ ?_)
    · refine .os d' _ _ _ rfl (by simp [ctxOf, TS.new, hgen]) fun _ _ => ?_
      unfold OsIs
      simp [ctxOf, Ghost.set]
    · refine ⟨h0, by simp, ?_⟩
      simp [ctxOf, Ghost.set]
  obtain ⟨news, hsrc, hnl, hnr⟩ := slice_src hr hy (hr.ev x) h0 hl h1 hux
  have hsrc' : Src P ti.size tx (a.eval x) ys.length news w := by rw [hsz]; exact hsrc
  have hgrow : ∀ old, old < xs.length + ys.length → Builtin.nextslicecap (xs.length + ys.length) old * ti.bytes ≤ 281474976710656 := fun old h => growslice_fits h (by rw [hby]; exact hsmall)
  unfold Oper.wp
  -- the base
  unfold TS.base at hb
  split at hb
  · rename_i es
    cases hb
    have hvs := hr.ev s
    rw [es] at hvs
    have : ∃ ad, a.eval s = .slice ad 0 0 := by
      generalize a.eval s = q at hvs
      cases hvs with
      | slice0 _ ad cap h => exact ⟨ad, by rw [h rfl]⟩
      | slice _ _ _ _ _ _ _ h0 => exact absurd rfl h0
    obtain ⟨ad, hq⟩ := this
    by_cases hy0 : ys = []
    · subst hy0
      have hn0 : news = [] := List.eq_nil_of_length_eq_zero (by simpa using hnl)
      subst hn0
      rw [hex _ _ (by rw [hq]; exact run_append_none w t tx o.type e ti hut hi ad _ hsrc')]
      show next (a.put o.dst _) w
      rw [hd]
      exact virt hr ad rfl rfl
    · have hpos : 0 < ys.length := List.length_pos_iff.2 hy0
      have hold : (Builtin.firstCells ti.size 0 (.slice ad 0 0)).run P w.drew = .ok ([] : List Value).toArray w.drew := by
        cases ad <;> simp [Builtin.firstCells, loadCells, loadCellsFrom]
      have hrun := run_append_grow_src (P := P) w t tx o.type e ti z hut hi hz ad 0 0 [] hold (a.eval x) ys.length news hsrc' (by omega) (by simp at hsmall'; omega) (by have := hgrow 0 (by simp; omega); simpa using this)
      have hge := grownCap_ge w (0 + ys.length) 0 e
      rw [hex _ _ (by rw [hq]; exact hrun)]
      show next (a.put o.dst _) _
      rw [hd]
      have hf := fresh hr (((([] : List Value) ++ news).toArray ++ Builtin.zeroCells z.cells (grownCap w (0 + ys.length) 0 e - (0 + ys.length)))) e (grownCap w (0 + ys.length) 0 e) (by
          simp only [List.nil_append, Array.size_append, List.size_toArray, zeros_len, hnl, hzs, hsz, ← Nat.add_mul]
          congr 1; omega) (by simpa using hge) (by
          have := append_cells (c := ctxOf E G ts w) (old := []) (xs := []) h0 (by simp) hnl (by intro i j hi; simp at hi) hnr (Builtin.zeroCells z.cells (grownCap w (0 + ys.length) 0 e - (0 + ys.length))).toList
          intro i j hi hj
          have := this i j hi hj
          simpa [Array.getD_eq_getD_getElem?, Array.getElem?_append, List.getElem?_append] using this) (by simp)
      simpa using hf
  · rename_i d g len es
    split at hb
    · rename_i hg
      split at hb
      · rename_i sz' xs' hob
        split at hb
        · rename_i hc
          obtain ⟨hsz', hlen⟩ := hc
          subst hsz'
          cases hb
          have hvs := hr.ev s
          rw [es] at hvs
          obtain ⟨_, _, hh⟩ := rep_os hvs
          have hos := hh hg (by simp [ctxOf, hob, Ob.kind])
          have hlt : (xs'.take len).length = len := by simp; omega
          unfold OsIs at hos
          have hobk := hr.obj d
          rw [hob] at hobk
          obtain ⟨_, hszs, hrest⟩ := hobk
          have hxsz : ∀ x ∈ xs'.take len, x.cells.length = (T.ty e).sz := fun x hx => hszs x (List.mem_of_mem_take hx)
          cases hκ : (ctxOf E G ts w).κ d with
          | none =>
            rw [hκ] at hos hrest
            obtain ⟨hl0, ad, hq⟩ := hos
            have hx0 : xs'.take len = [] := by rw [hl0]; rfl
            rw [hx0] at fresh virt hgrow hk hsmall hsmall'
            by_cases hy0 : ys = []
            · subst hy0
              have hn0 : news = [] := List.eq_nil_of_length_eq_zero (by simpa using hnl)
              subst hn0
              rw [hex _ _ (by rw [hq]; exact run_append_none w t tx o.type e ti hut hi ad _ hsrc')]
              show next (a.put o.dst _) w
              rw [hd]
              exact virt (hr.kill d) ad rfl rfl
            · have hpos : 0 < ys.length := List.length_pos_iff.2 hy0
              have hold : (Builtin.firstCells ti.size 0 (.slice ad 0 0)).run P w.drew = .ok ([] : List Value).toArray w.drew := by
                cases ad <;> simp [Builtin.firstCells, loadCells, loadCellsFrom]
              have hrun := run_append_grow_src (P := P) w t tx o.type e ti z hut hi hz ad 0 0 [] hold (a.eval x) ys.length news hsrc' (by omega) (by simp at hsmall'; omega) (by have := hgrow 0 (by simp; omega); simpa using this)
              have hge := grownCap_ge w (0 + ys.length) 0 e
              rw [hex _ _ (by rw [hq]; exact hrun)]
              show next (a.put o.dst _) _
              rw [hd]
              have hf := fresh (hr.kill d) (((([] : List Value) ++ news).toArray ++ Builtin.zeroCells z.cells (grownCap w (0 + ys.length) 0 e - (0 + ys.length)))) e (grownCap w (0 + ys.length) 0 e) (by
                  simp only [List.nil_append, Array.size_append, List.size_toArray, zeros_len, hnl, hzs, hsz, ← Nat.add_mul]
                  congr 1; omega) (by simpa using hge) (by
                  have := append_cells (c := ctxOf E G ts w) (old := []) (xs := []) h0 (by simp) hnl (by intro i j hi; simp at hi) hnr (Builtin.zeroCells z.cells (grownCap w (0 + ys.length) 0 e - (0 + ys.length))).toList
                  intro i j hi hj
                  have := this i j hi hj
                  simpa [Array.getD_eq_getD_getElem?, Array.getElem?_append, List.getElem?_append] using this) (by simp)
              simpa using hf
          | some cap =>
            rw [hκ] at hos hrest
            obtain ⟨hq, hcap⟩ := hos
            obtain ⟨vs, et, hheap, hsize, hfit, hcell⟩ := hrest
            have hκ' : G.κ d = some cap := hκ
            have hlive : liveR ts G d := ⟨by simp [hob, Ob.kind], by rw [hκ']; simp⟩
            have holdr : ∀ i j, i < (xs'.take len).length → j < (T.ty e).sz → Rep (ctxOf E G ts w) ((vs.toList.take (len * (T.ty e).sz)).getD (i * (T.ty e).sz + j) undef) (((xs'.take len).getD i .any).cells.getD j .any) := fun i j hi hj => by
              rw [hlt] at hi
              have hp : i * (T.ty e).sz + j < len * (T.ty e).sz := row_lt hi (Nat.le_refl _) hj
              have e1 : (vs.toList.take (len * (T.ty e).sz)).getD (i * (T.ty e).sz + j) undef = vs.getD (i * (T.ty e).sz + j) undef := by simp [List.getElem?_take, hp]
              have e2 : (xs'.take len).getD i .any = xs'.getD i .any := by simp [List.getElem?_take, hi]
              rw [e1, e2]; exact hcell i j (by omega) hj
            have holen : (vs.toList.take (len * (T.ty e).sz)).length = (xs'.take len).length * (T.ty e).sz := by
              rw [hlt]
              have : len * (T.ty e).sz ≤ vs.size := by rw [hsize]; exact Nat.mul_le_mul_right _ hcap
              simp; omega
            by_cases hroom : len + ys.length ≤ cap
            · have hfit2 : len * ti.size + news.length ≤ vs.size := by
                rw [hsz, hnl, hsize, ← Nat.add_mul]; exact Nat.mul_le_mul_right _ hroom
              have hrun := run_append_room_own (P := P) w t tx o.type e ti hut hi (G.β d) len cap vs et hheap (a.eval x) ys.length news hsrc' hroom hfit2
              rw [hex _ _ (by rw [hq]; exact hrun)]
              show next (a.put o.dst _) _
              rw [hd, hsz]
              have hnlen : (vs.toList.take (len * (T.ty e).sz) ++ news ++ vs.toList.drop (len * (T.ty e).sz + news.length)).length = vs.size := by
                rw [splice_length _ _ _ (by rw [hsz] at hfit2; simpa using hfit2)]; simp
              have hset := hr.setObj (w' := w.setRow (G.β d) (vs.toList.take (len * (T.ty e).sz) ++ news ++ vs.toList.drop (len * (T.ty e).sz + news.length)).toArray) d (.arr (T.ty e).sz (xs'.take len ++ ys)) (by simp [hob, Ob.kind]) hlive rfl rfl rfl (by simp [World.setRow]) (fun i hi => setRow_other w _ i _ hi) (by
                have hle := le_setObj E G ts w (w.setRow (G.β d) (vs.toList.take (len * (T.ty e).sz) ++ news ++ vs.toList.drop (len * (T.ty e).sz + news.length)).toArray) d (.arr (T.ty e).sz (xs'.take len ++ ys)) (by simp [hob, Ob.kind]) hlive (fun i hi => setRow_other w _ i _ hi)
                refine ⟨h0, fun q hq' => ?_, ?_⟩
                · rcases List.mem_append.1 hq' with hq' | hq'
                  · exact hxsz q hq'
                  · exact hl q hq'
                · rw [show (ctxOf E G (ts.setObj d (.arr (T.ty e).sz (xs'.take len ++ ys))) (w.setRow (G.β d) (vs.toList.take (len * (T.ty e).sz) ++ news ++ vs.toList.drop (len * (T.ty e).sz + news.length)).toArray)).κ d = some cap from hκ']
                  refine ⟨_, et, setRow_heap w _ vs _ et _ hheap, ?_, by simp only [List.length_append, hlt]; exact hroom, fun i j hi hj => ?_⟩
                  · simp only [List.size_toArray, hnlen, hsize]
                  · have := append_cells (c := ctxOf E G ts w) h0 holen hnl holdr hnr (vs.toList.drop (len * (T.ty e).sz + news.length)) i j hi hj
                    have eA : ∀ (l : List Value) (k : Nat), l.toArray.getD k undef = l.getD k undef := fun l k => by simp
                    rw [eA]
                    exact this.mono hle)
              have hren := hset.ren (d := d) (d' := d') hd' (v := .slice (some ⟨G.β d, 0, none⟩) (len + ys.length) cap) (x := .os d' (ts.gen d' + 1) (xs'.take len ++ ys).length) (by
                refine .os d' _ _ _ rfl (by simp [ctxOf, TS.ren, TS.setObj]) fun _ _ => ?_
                unfold OsIs
                simp only [ctxOf, Ghost.set, upd_same, hκ', List.length_append, hlt]
                simpa using hroom)
              have hts : (((ts.setObj d (.arr (T.ty e).sz (xs'.take len ++ ys))).ren d d').put d' (.os d' (ts.gen d' + 1) (xs'.take len ++ ys).length)) = ((ts.unbase (.own d)).new d' (.arr (T.ty e).sz (xs'.take len ++ ys))).put d' (.os d' (ts.gen d' + 1) (xs'.take len ++ ys).length) := by
                simp only [TS.ren, TS.setObj, TS.new, TS.unbase, TS.kill, TS.put, upd_same]
                congr 1
                funext q
                simp only [upd]
                by_cases q1 : q = d' <;> by_cases q2 : q = d <;> simp [q1, q2]
              rw [hts] at hren
              exact hnext _ _ _ _ hk hren
            · have hold : (Builtin.firstCells ti.size len (.slice (some ⟨G.β d, 0, none⟩) len cap)).run P w.drew = .ok (vs.toList.take (len * (T.ty e).sz)).toArray w.drew := by
                refine run_firstCells_some w.drew ti.size len _ len cap _ (by rw [holen, hlt, hsz]) (fun j u hu => ?_)
                have hj := (List.getElem?_eq_some_iff.1 hu).1
                rw [holen, hlt] at hj
                have hj2 : j < vs.size := by rw [hsize]; exact Nat.lt_of_lt_of_le hj (Nat.mul_le_mul_right _ hcap)
                rw [Addr.add0, Nat.zero_add]
                have := cell_of (w := w.drew) hheap hj2
                rw [show w.drew.cell? ⟨G.β d, j, none⟩ = _ from this]
                rw [List.getElem?_take, if_pos hj] at hu
                simp [hj2] at hu ⊢
                exact hu
              have hrun := run_append_grow_src (P := P) w t tx o.type e ti z hut hi hz (some ⟨G.β d, 0, none⟩) len cap _ hold (a.eval x) ys.length news hsrc' (by omega) (by rw [hlt] at hsmall'; omega) (by have := hgrow cap (by rw [hlt]; omega); rw [hlt] at this; exact this)
              have hge := grownCap_ge w (len + ys.length) cap e
              rw [hex _ _ (by rw [hq]; exact hrun)]
              show next (a.put o.dst _) _
              rw [hd]
              have hf := fresh (hr.kill d) ((vs.toList.take (len * (T.ty e).sz) ++ news).toArray ++ Builtin.zeroCells z.cells (grownCap w (len + ys.length) cap e - (len + ys.length))) e (grownCap w (len + ys.length) cap e) (by
                  simp only [Array.size_append, List.size_toArray, List.length_append, holen, hlt, zeros_len, hnl, hzs, hsz, ← Nat.add_mul]
                  congr 1; omega) (by rw [hlt]; exact hge) (by
                  intro i j hi hj
                  have := append_cells (c := ctxOf E G ts w) h0 holen hnl holdr hnr (Builtin.zeroCells z.cells (grownCap w (len + ys.length) cap e - (len + ys.length))).toList i j hi hj
                  have eA : ∀ (l : List Value) (m : Array Value) (k : Nat), (l.toArray ++ m).getD k undef = (l ++ m.toList).getD k undef := fun l m k => by
                    rw [show l.toArray ++ m = (l ++ m.toList).toArray by apply Array.ext'; simp]
                    simp
                  rw [eA]; exact this) hxsz
              rw [hlt] at hf
              exact hf
        · cases hb
      · cases hb
    · cases hb
  · cases hb

/-- Appended in place: what comes is a piece of an array of the frame's own, and there is room within what is known of the array. -/
theorem SpecO.appendIn {T : Tys P} {o : Oper} {ts : TS} {K : TS → Prop} {t tx e e' : TypeId} {s x : Operand} (ho : o.op = .call { callee := .builtin .append, args := #[s, x], argTypes := #[t, tx] })
    (ht : (T.ty t).k = .slice e) (htx : (T.ty tx).k = .slice e') (he : (T.ty e).k ≠ .unk) (h0 : 0 < (T.ty e).sz) {d g len : Nat} {xs ys : List AV} (hs : ts.ev s = .os d g len) (hg : g = ts.gen d) (hob : ts.obj d = .arr (T.ty e).sz xs)
    (hy : ts.sl (ts.ev x) = some ys) (hl : ∀ y ∈ ys, y.cells.length = (T.ty e).sz) (h1 : ∀ y ∈ ys, y.cells.all AV.one = true) (hroom : len + ys.length ≤ xs.length)
    {d' : Nat} (hd : o.dst = some d') (hd' : d' < ts.n)
    (hk : K ((ts.setObj d (.arr (T.ty e).sz (xs.take len ++ ys ++ xs.drop (len + ys.length)))).put d' (.os d g (len + ys.length)))) : SpecO P o ts K := by
  intro E G a w next Q hr hnext
  have hut := Tys.slice ht
  have hux := Tys.slice htx
  obtain ⟨ti, hi, hsz, hby, ⟨z, hz, _, hzs⟩, _⟩ := Tys.get (T := T) he
  have hex : ∀ v w', (Builtin.append_ #[t, tx] o.type #[a.eval s, a.eval x]).run P w = .ok v w' → (execOp a.eval o).run P w = .ok (.value v) w' := fun v w' h => by
    simp [execOp, ho, resolve, invoke, builtin, h]
  obtain ⟨news, hsrc, hnl, hnr⟩ := slice_src hr hy (hr.ev x) h0 hl h1 hux
  have hsrc' : Src P ti.size tx (a.eval x) ys.length news w := by rw [hsz]; exact hsrc
  have hvs := hr.ev s
  rw [hs] at hvs
  obtain ⟨_, hgl, hh⟩ := rep_os hvs
  have hos := hh hg (by simp [ctxOf, hob, Ob.kind])
  unfold OsIs at hos
  have hobk := hr.obj d
  rw [hob] at hobk
  obtain ⟨_, hszs, hrest⟩ := hobk
  unfold Oper.wp
  cases hκ : (ctxOf E G ts w).κ d with
  | none =>
    rw [hκ] at hos hrest
    obtain ⟨hl0, ad, hq⟩ := hos
    subst hrest hl0
    have hy0 : ys = [] := List.eq_nil_of_length_eq_zero (by simpa using hroom)
    subst hy0
    have hn0 : news = [] := List.eq_nil_of_length_eq_zero (by simpa using hnl)
    subst hn0
    rw [hex _ _ (by rw [hq]; exact run_append_none w t tx o.type e ti hut hi ad _ hsrc')]
    show next (a.put o.dst _) w
    rw [hd]
    refine hnext _ G _ _ hk ?_
    have e1 : ts.setObj d (.arr (T.ty e).sz (([] : List AV).take 0 ++ [] ++ ([] : List AV).drop (0 + ([] : List AV).length))) = ts := by
      simp only [TS.setObj]
      cases ts
      simp only at hob
      congr 1
      funext q
      by_cases hq : q = d
      · subst hq; simp [hob]
      · simp [upd, hq]
    rw [e1]
    exact hr.put hd' (.os d g _ _ rfl hgl fun _ _ => by unfold OsIs; rw [hκ]; exact ⟨rfl, ad, rfl⟩)
  | some cap =>
    rw [hκ] at hos hrest
    obtain ⟨hq, hcap⟩ := hos
    obtain ⟨vs, et, hheap, hsize, hfit, hcell⟩ := hrest
    have hκ' : G.κ d = some cap := hκ
    have hlive : liveR ts G d := ⟨by simp [hob, Ob.kind], by rw [hκ']; simp⟩
    have hfit2 : len * ti.size + news.length ≤ vs.size := by
      rw [hsz, hnl, hsize, ← Nat.add_mul]; exact Nat.mul_le_mul_right _ (by omega)
    have hrun := run_append_room_own (P := P) w t tx o.type e ti hut hi (G.β d) len cap vs et hheap (a.eval x) ys.length news hsrc' (by omega) hfit2
    rw [hex _ _ (by rw [hq]; exact hrun)]
    show next (a.put o.dst _) _
    rw [hd, hsz]
    have hlen2 : (xs.take len ++ ys ++ xs.drop (len + ys.length)).length = xs.length := splice_length xs ys len hroom
    have hset := hr.setObj (w' := w.setRow (G.β d) (vs.toList.take (len * (T.ty e).sz) ++ news ++ vs.toList.drop (len * (T.ty e).sz + news.length)).toArray) d (.arr (T.ty e).sz (xs.take len ++ ys ++ xs.drop (len + ys.length))) (by simp [hob, Ob.kind]) hlive rfl rfl rfl (by simp [World.setRow]) (fun i hi => setRow_other w _ i _ hi) (by
      have hle := le_setObj E G ts w (w.setRow (G.β d) (vs.toList.take (len * (T.ty e).sz) ++ news ++ vs.toList.drop (len * (T.ty e).sz + news.length)).toArray) d (.arr (T.ty e).sz (xs.take len ++ ys ++ xs.drop (len + ys.length))) (by simp [hob, Ob.kind]) hlive (fun i hi => setRow_other w _ i _ hi)
      refine ⟨h0, fun q hq' => ?_, ?_⟩
      · rcases List.mem_append.1 hq' with hq' | hq'
        · rcases List.mem_append.1 hq' with hq' | hq'
          · exact hszs q (List.mem_of_mem_take hq')
          · exact hl q hq'
        · exact hszs q (List.mem_of_mem_drop hq')
      · rw [show (ctxOf E G (ts.setObj d (.arr (T.ty e).sz (xs.take len ++ ys ++ xs.drop (len + ys.length)))) (w.setRow (G.β d) (vs.toList.take (len * (T.ty e).sz) ++ news ++ vs.toList.drop (len * (T.ty e).sz + news.length)).toArray)).κ d = some cap from hκ']
        have hspl : len * (T.ty e).sz + news.length ≤ vs.toList.length := by rw [hsz] at hfit2; simpa using hfit2
        refine ⟨_, et, setRow_heap w _ vs _ et _ hheap, ?_, by rw [hlen2]; exact hfit, fun i j hi hj => ?_⟩
        · simp only [List.size_toArray, splice_length _ _ _ hspl]; simpa using hsize
        · rw [hlen2] at hi
          have eA : ∀ (l : List Value) (k : Nat), l.toArray.getD k undef = l.getD k undef := fun l k => by simp
          rw [eA, splice_getD _ _ _ _ _ hspl, splice_getD _ _ _ _ _ hroom]
          have hm1 : len * (T.ty e).sz ≤ i * (T.ty e).sz + j ↔ len ≤ i := by
            constructor
            · intro h
              by_cases hc : len ≤ i
              · exact hc
              · have : (i + 1) * (T.ty e).sz ≤ len * (T.ty e).sz := Nat.mul_le_mul_right _ (by omega)
                rw [Nat.add_mul, Nat.one_mul] at this
                omega
            · intro h
              have := Nat.mul_le_mul_right (T.ty e).sz h
              omega
          have hm2 : i * (T.ty e).sz + j < len * (T.ty e).sz + news.length ↔ i < len + ys.length := by
            rw [hnl, ← Nat.add_mul]
            constructor
            · intro h
              by_cases hc : i < len + ys.length
              · exact hc
              · have := Nat.mul_le_mul_right (T.ty e).sz (show len + ys.length ≤ i by omega)
                omega
            · intro h; exact row_lt h (Nat.le_refl _) hj
          by_cases hin : len ≤ i ∧ i < len + ys.length
          · rw [if_pos ⟨hm1.2 hin.1, hm2.2 hin.2⟩, if_pos hin]
            have e2 : i * (T.ty e).sz + j - len * (T.ty e).sz = (i - len) * (T.ty e).sz + j := by
              have := Nat.mul_le_mul_right (T.ty e).sz hin.1
              rw [Nat.sub_mul]; omega
            rw [e2]
            exact (hnr (i - len) j (by omega) hj).mono hle
          · rw [if_neg (fun h => hin ⟨hm1.1 h.1, hm2.1 h.2⟩), if_neg hin]
            have := (hcell i j hi hj).mono hle
            simpa using this)
    refine hnext _ G _ _ hk (hset.put hd' ?_)
    refine .os d g _ _ rfl (by simpa [ctxOf, TS.setObj] using hgl) fun _ _ => ?_
    unfold OsIs
    rw [show (ctxOf E G (ts.setObj d (.arr (T.ty e).sz (xs.take len ++ ys ++ xs.drop (len + ys.length)))) (w.setRow (G.β d) (vs.toList.take (len * (T.ty e).sz) ++ news ++ vs.toList.drop (len * (T.ty e).sz + news.length)).toArray)).κ d = some cap from hκ']
    exact ⟨rfl, by omega⟩

end Go.Proofs.Ytjmnokbbodcaaaa.Lg
