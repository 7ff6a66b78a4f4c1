/- Slices of slices and strings; append; closures; equality of structs. -/
import Derived.Test.YtjmnokbbodcaaaaLg8
namespace Go.Proofs.Ytjmnokbbodcaaaa.Lg
set_option linter.unusedVariables false
set_option linter.unusedSimpArgs false
open Go
variable {P : Program}

/-- An array goes from one slot to another. -/
def TS.ren (ts : TS) (d d' : Nat) : TS := { ts with gen := upd ts.gen d' (ts.gen d' + 1), obj := upd (upd ts.obj d .dead) d' (ts.obj d) }

theorem Rel.ren {E : Env} {ts : TS} {G : Ghost} {a : Act} {w : World} (h : Rel E ts G a w) {d d' : Nat} (hd' : d' < ts.n) {v : Value} {x : AV}
    (hr : Rep (ctxOf E (G.set d' (G.β d) (G.κ d)) (ts.ren d d') w) v x) :
    Rel E ((ts.ren d d').put d' x) (G.set d' (G.β d) (G.κ d)) (a.put (some d') v) w := by
  have hobj : ∀ e, (ts.ren d d').obj e = if e = d' then ts.obj d else if e = d then .dead else ts.obj e := fun e => by
    simp only [TS.ren, upd]
  have hβ : ∀ e, (G.set d' (G.β d) (G.κ d)).β e = if e = d' then G.β d else G.β e := fun e => rfl
  have hκ : ∀ e, (G.set d' (G.β d) (G.κ d)).κ e = if e = d' then G.κ d else G.κ e := fun e => rfl
  have live : ∀ e, liveR (ts.ren d d') (G.set d' (G.β d) (G.κ d)) e → (e = d' ∧ liveR ts G d) ∨ (e ≠ d' ∧ e ≠ d ∧ liveR ts G e) := fun e he => by
    unfold liveR at he
    rw [hobj, hκ] at he
    by_cases e1 : e = d'
    · simp only [e1, if_true] at he; exact .inl ⟨e1, he⟩
    · simp only [e1, if_false] at he
      by_cases e2 : e = d
      · simp [e2, Ob.kind] at he
      · simp only [e2, if_false] at he; exact .inr ⟨e1, e2, he⟩
  have hle : (ctxOf E G ts w).Le (ctxOf E (G.set d' (G.β d) (G.κ d)) (ts.ren d d') w) :=
    { cell := fun ad u hM hc => ⟨hc, by
        rintro (hF | ⟨e, he, hb⟩)
        · exact hM (.inl hF)
        · simp only [ctxOf, hβ] at hb
          rcases live e he with ⟨e1, hl⟩ | ⟨e1, e2, hl⟩
          · rw [if_pos e1] at hb; exact hM (.inr ⟨d, hl, hb⟩)
          · rw [if_neg e1] at hb; exact hM (.inr ⟨e, hl, hb⟩)⟩
      gen := fun e => by by_cases h : e = d' <;> simp [ctxOf, TS.ren, upd, h]
      kind := fun e k hg hk => by
        by_cases e1 : e = d'
        · subst e1; simp [ctxOf, TS.ren] at hg
        · simp only [ctxOf, hobj, hβ, hκ, e1, if_false] at hk ⊢
          by_cases e2 : e = d
          · simp [e2, Ob.kind] at hk
          · simp only [e2, if_false] at hk; exact ⟨hk, by simp, by simp⟩ }
  constructor
  · simp [Act.put, h.size, TS.put, TS.ren]
  · exact h.defers
  · intro t
    rw [getD_put a d' t v (by rw [h.size]; exact hd')]
    show Rep (ctxOf E (G.set d' (G.β d) (G.κ d)) (ts.ren d d') w) _ (upd ts.tmp d' x t)
    by_cases e : t = d'
    · subst e; simpa using hr
    · rw [if_neg e, upd_ne _ _ e]; exact (h.tmp t).mono hle
  · intro e
    show ObOk (ctxOf E (G.set d' (G.β d) (G.κ d)) (ts.ren d d') w) e ((ts.ren d d').obj e)
    rw [hobj]
    by_cases e1 : e = d'
    · rw [if_pos e1]
      have := h.obj d
      cases ho : ts.obj d with
      | dead => trivial
      | box cs =>
        rw [ho] at this
        obtain ⟨p0, vs, T, p1, p2, p3⟩ := this
        refine ⟨by simp only [ctxOf, hκ, e1, if_true]; exact p0, vs, T, by simp only [ctxOf, hβ, e1, if_true]; exact p1, p2, fun i => (p3 i).mono hle⟩
      | arr sz xs =>
        rw [ho] at this
        obtain ⟨p0, p1, p2⟩ := this
        refine ⟨p0, p1, ?_⟩
        have hk' : (ctxOf E (G.set d' (G.β d) (G.κ d)) (ts.ren d d') w).κ e = (ctxOf E G ts w).κ d := by simp only [ctxOf, hκ, e1, if_true]
        rw [hk']
        cases hc : (ctxOf E G ts w).κ d with
        | none => rw [hc] at p2; exact p2
        | some cap =>
          rw [hc] at p2
          obtain ⟨vs, T, q1, q2, q3, q4⟩ := p2
          exact ⟨vs, T, by simp only [ctxOf, hβ, e1, if_true]; exact q1, q2, q3, fun i j hi hj => (q4 i j hi hj).mono hle⟩
    · rw [if_neg e1]
      by_cases e2 : e = d
      · rw [if_pos e2]; trivial
      · rw [if_neg e2]
        exact ObOk.mono hle (by simp only [ctxOf, hκ, e1, if_false]) (by simp only [ctxOf, hβ, e1, if_false]) (fun _ _ => rfl) (h.obj e)
  · intro e e' h1 h2 h3
    rw [hβ, hβ] at h3
    rcases live e h1 with ⟨e1, l1⟩ | ⟨e1, e2, l1⟩ <;> rcases live e' h2 with ⟨f1, l2⟩ | ⟨f1, f2, l2⟩
    · rw [e1, f1]
    · rw [if_pos e1, if_neg f1] at h3
      exact absurd (h.sep d e' l1 l2 h3).symm f2
    · rw [if_neg e1, if_pos f1] at h3
      exact absurd (h.sep e d l1 l2 h3) e2
    · rw [if_neg e1, if_neg f1] at h3
      exact h.sep e e' l1 l2 h3
  · intro e h1
    rw [hβ]
    rcases live e h1 with ⟨e1, l1⟩ | ⟨e1, e2, l1⟩
    · rw [if_pos e1]; exact h.own d l1
    · rw [if_neg e1]; exact h.own e l1
  · exact h.inF
  · exact h.bel
  · intro j b hj hg
    rw [hβ]
    by_cases e1 : j = d'
    · subst e1; simp [TS.put, TS.ren] at hg
    · rw [if_neg e1]; exact h.pin j b hj (by simpa [TS.put, TS.ren, upd, e1] using hg)

/-- What a slice's cells are, in the world: for append and copy. -/
theorem slice_src {E : Env} {ts : TS} {G : Ghost} {a : Act} {w : World} (h : Rel E ts G a w) {x : AV} {ys : List AV} (hs : ts.sl x = some ys) {v : Value} (hv : Rep (ctxOf E G ts w) v x) {sz : Nat} (h0 : 0 < sz)
    (hl : ∀ y ∈ ys, y.cells.length = sz) (h1 : ∀ y ∈ ys, y.cells.all AV.one = true) {tx e' : TypeId} (hk : P.underlying tx = some (.slice e')) :
    ∃ news : List Value, Src P sz tx v ys.length news w ∧ news.length = ys.length * sz ∧ ∀ i j, i < ys.length → j < sz → Rep (ctxOf E G ts w) (news.getD (i * sz + j) undef) ((ys.getD i .any).cells.getD j .any) := by
  by_cases hne : ys = []
  · subst hne
    obtain ⟨ad, cap, hq, _⟩ := sl_len hs hv
    subst hq
    refine ⟨[], ?_, by simp, fun i j hi => by simp at hi⟩
    cases ad with
    | none => exact Src.ofNil w hk cap
    | some ad => exact Src.ofSlice w hk ad 0 cap [] (by simp) (by simp) (by simp)
  · have main : ∃ b off cap, v = .slice (some ⟨b, off, none⟩) ys.length cap ∧ ∀ i j, i < ys.length → j < sz → ∃ u, w.cell? ⟨b, off + i * sz + j, none⟩ = some u ∧ Rep (ctxOf E G ts w) u ((ys.getD i .any).cells.getD j .any) := by
      unfold TS.sl at hs
      split at hs
      · cases hs
        cases hv with
        | slice0 => exact absurd rfl hne
        | slice clip b off cap sz' _ f q0 q1 hM hcap hclip hsz hc hr =>
          have : sz' = sz := by
            have hm := List.getElem_mem (List.length_pos_iff.2 q0)
            rw [← hsz _ hm, hl _ hm]
          subst this
          exact ⟨b, off, cap, rfl, fun i j hi hj => ⟨f i j, hc i j hi hj, hr i j⟩⟩
      · rename_i d g len
        split at hs
        · rename_i hg
          split at hs
          · rename_i sz' xs hob
            split at hs
            · rename_i hlen
              cases hs
              obtain ⟨_, _, hh⟩ := rep_os hv
              have hos := hh hg (by simp [ctxOf, hob, Ob.kind])
              have hlt : (xs.take len).length = len := by simp; omega
              have hpos : 0 < len := by rw [← hlt]; exact List.length_pos_iff.2 hne
              obtain ⟨cap, vs, T, hκ, hheap, hsize, hfit, q0, hsz, hcell⟩ := arr_real h hob (by intro e; simp [e] at hne)
              unfold OsIs at hos
              rw [show (ctxOf E G ts w).κ d = some cap from hκ] at hos
              have : sz' = sz := by
                have hm := List.getElem_mem (List.length_pos_iff.2 hne)
                rw [← hsz _ (List.mem_of_mem_take hm), hl _ hm]
              subst this
              refine ⟨_, 0, cap, by rw [hlt]; exact hos.1, fun i j hi hj => ?_⟩
              rw [hlt] at hi
              have hix : i < xs.length := by omega
              have hgd : (xs.take len).getD i .any = xs.getD i .any := by simp [List.getElem?_take, hi]
              rw [hgd]
              refine ⟨_, ?_, hcell i j hix hj⟩
              rw [Nat.zero_add]
              exact cell_of hheap (by rw [hsize]; exact row_lt hix hfit hj)
            · cases hs
          · cases hs
        · cases hs
      · rename_i d g o len
        split at hs
        · rename_i hg
          split at hs
          · rename_i sz' xs hob
            split at hs
            · rename_i hlen
              cases hs
              have hlt : ((xs.drop o).take len).length = len := by simp; omega
              have hpos : 0 < len := by rw [← hlt]; exact List.length_pos_iff.2 hne
              obtain ⟨cap, vs, T, hκ, hheap, hsize, hfit, q0, hsz, hcell⟩ := arr_real h hob (by intro e; simp [e] at hne)
              have hm := List.getElem_mem (List.length_pos_iff.2 hne)
              have hm' : ((xs.drop o).take len)[0]'(List.length_pos_iff.2 hne) ∈ xs := List.mem_of_mem_drop (List.mem_of_mem_take hm)
              have : sz' = sz := by rw [← hsz _ hm', hl _ hm]
              subst this
              cases hv with
              | ot _ _ _ _ _ h1 hgl hh =>
                obtain ⟨ad, cap', hq, hc, hp⟩ := hh sz' hg (by simp [ctxOf, hob, Ob.kind])
                obtain ⟨had, _⟩ := hp hpos
                subst had
                refine ⟨_, _, cap', by rw [hlt]; exact hq, fun i j hi hj => ?_⟩
                rw [hlt] at hi
                have hix : o + i < xs.length := by omega
                have hgd : ((xs.drop o).take len).getD i .any = xs.getD (o + i) .any := by simp [List.getElem?_take, hi, List.getElem?_drop]
                rw [hgd]
                refine ⟨_, ?_, hcell (o + i) j hix hj⟩
                rw [← Nat.add_mul]
                exact cell_of hheap (by rw [hsize]; exact row_lt hix hfit hj)
            · cases hs
          · cases hs
        · cases hs
      · cases hs
    obtain ⟨b, off, cap, hq, hc⟩ := main
    let g : Nat → Value := fun p => (w.cell? ⟨b, off + p, none⟩).getD undef
    have hdm : ∀ p, p < ys.length * sz → p / sz < ys.length ∧ p % sz < sz ∧ p / sz * sz + p % sz = p := fun p hp =>
      ⟨(Nat.div_lt_iff_lt_mul h0).2 hp, Nat.mod_lt _ h0, by rw [Nat.mul_comm]; exact Nat.div_add_mod p sz⟩
    have hg : ∀ p, p < ys.length * sz → ∃ u, w.cell? ⟨b, off + p, none⟩ = some u ∧ Rep (ctxOf E G ts w) u ((ys.getD (p / sz) .any).cells.getD (p % sz) .any) := fun p hp => by
      obtain ⟨p1, p2, p3⟩ := hdm p hp
      have := hc (p / sz) (p % sz) p1 p2
      rwa [Nat.add_assoc, p3] at this
    have hgetD : ∀ p, p < ys.length * sz → ((List.range (ys.length * sz)).map g).getD p undef = g p := fun p hp => by simp [hp]
    refine ⟨(List.range (ys.length * sz)).map g, ?_, by simp, fun i j hi hj => ?_⟩
    · subst hq
      refine Src.ofSlice w hk ⟨b, off, none⟩ ys.length cap _ (by simp) (fun j u hu => ?_) (fun u hu => ?_)
      · have hj : j < ys.length * sz := by have := (List.getElem?_eq_some_iff.1 hu).1; simpa using this
        obtain ⟨u', hu', _⟩ := hg j hj
        rw [Addr.add0]
        simp [hj, g, hu'] at hu
        rw [hu', hu]
      · obtain ⟨p, hp, rfl⟩ := List.mem_map.1 hu
        have hp' : p < ys.length * sz := by simpa using hp
        obtain ⟨u', hu', hrep⟩ := hg p hp'
        have e : g p = u' := by simp [g, hu']
        rw [e]
        refine hrep.one ?_
        obtain ⟨p1, p2, _⟩ := hdm p hp'
        have hy : ys.getD (p / sz) .any = ys[p / sz] := by simp [p1]
        rw [hy]
        have hm := List.getElem_mem p1
        have hcl := hl _ hm
        have : (ys[p / sz]).cells.getD (p % sz) .any = (ys[p / sz]).cells[p % sz]'(by omega) := by simp [show p % sz < (ys[p / sz]).cells.length by omega]
        rw [this]
        exact (List.all_eq_true.1 (h1 _ hm)) _ (List.getElem_mem _)
    · have hlt := row_lt (cap := ys.length) hi (Nat.le_refl _) hj
      rw [hgetD _ hlt]
      obtain ⟨u, hu, hrep⟩ := hc i j hi hj
      have : g (i * sz + j) = u := by simp [g, ← Nat.add_assoc, hu]
      rw [this]; exact hrep

end Go.Proofs.Ytjmnokbbodcaaaa.Lg
