/- More ways in which a step turns the state: an object's content; an object given up; a draw; and what is read out of the state. -/
import Derived.Test.YtjmnokbbodcaaaaLg2
namespace Go.Proofs.Ytjmnokbbodcaaaa.Lg
set_option linter.unusedVariables false
set_option linter.unusedSimpArgs false
open Go

def TS.setObj (ts : TS) (d : Nat) (o : Ob) : TS := { ts with obj := upd ts.obj d o }

theorem liveR_setObj {ts : TS} {G : Ghost} {d : Nat} {o : Ob} (hk : o.kind = (ts.obj d).kind) (e : Nat) : liveR (ts.setObj d o) G e ↔ liveR ts G e := by
  by_cases he : e = d
  · subst he; simp [liveR, TS.setObj, hk]
  · simp [liveR, TS.setObj, upd, he]

theorem le_setObj (E : Env) (G : Ghost) (ts : TS) (w w' : World) (d : Nat) (o : Ob) (hk : o.kind = (ts.obj d).kind) (hl : liveR ts G d) (hw : ∀ i, i ≠ G.β d → w'.heap[i]? = w.heap[i]?) :
    (ctxOf E G ts w).Le (ctxOf E G (ts.setObj d o) w') :=
  { cell := fun a u hMa hc => by
      have hne : a.block ≠ G.β d := fun e => hMa (.inr ⟨d, hl, e.symm⟩)
      refine ⟨(World.cell_of_heap (hw _ hne)).trans hc, ?_⟩
      rintro (hF | ⟨e, he, hb⟩)
      · exact hMa (.inl hF)
      · exact hMa (.inr ⟨e, (liveR_setObj hk e).1 he, hb⟩)
    gen := fun _ => Nat.le_refl _
    kind := fun e k _ hk' => by
      by_cases he : e = d
      · subst he; simp only [ctxOf, TS.setObj, upd_same, hk] at hk'; exact ⟨hk', rfl, rfl⟩
      · simp only [ctxOf, TS.setObj, upd, he, if_false] at hk'; exact ⟨hk', rfl, rfl⟩ }

/-- THE CONTENT OF A LIVE OBJECT TURNS. -/
theorem Rel.setObj {E : Env} {ts : TS} {G : Ghost} {a : Act} {w w' : World} (h : Rel E ts G a w) (d : Nat) (o : Ob) (hk : o.kind = (ts.obj d).kind) (hl : liveR ts G d)
    (hos : w'.os = w.os) (htape : w'.tape = w.tape) (hout : w'.output = w.output) (hsz : w'.heap.size = w.heap.size)
    (hw : ∀ i, i ≠ G.β d → w'.heap[i]? = w.heap[i]?)
    (ho : ObOk (ctxOf E G (ts.setObj d o) w') d o) (hdr : w.drawn ≤ w'.drawn := by first | exact Nat.le_refl _ | exact Nat.le_succ _) : Rel E (ts.setObj d o) G a w' := by
  have hM : ∀ b, (ctxOf E G (ts.setObj d o) w').M b ↔ (ctxOf E G ts w).M b := fun b => by
    simp only [ctxOf]
    constructor
    · rintro (hF | ⟨e, he, hb⟩)
      · exact .inl hF
      · exact .inr ⟨e, (liveR_setObj hk e).1 he, hb⟩
    · rintro (hF | ⟨e, he, hb⟩)
      · exact .inl hF
      · exact .inr ⟨e, (liveR_setObj hk e).2 he, hb⟩
  have hle : (ctxOf E G ts w).Le (ctxOf E G (ts.setObj d o) w') :=
    { cell := fun a u hMa hc => by
        have hne : a.block ≠ G.β d := fun e => hMa (.inr ⟨d, hl, e.symm⟩)
        exact ⟨(World.cell_of_heap (hw _ hne)).trans hc, fun hm => hMa ((hM _).1 hm)⟩
      gen := fun _ => Nat.le_refl _
      kind := fun e k _ hk' => by
        by_cases he : e = d
        · subst he; simp only [ctxOf, TS.setObj, upd_same, hk] at hk'; exact ⟨hk', rfl, rfl⟩
        · simp only [ctxOf, TS.setObj, upd, he, if_false] at hk'; exact ⟨hk', rfl, rfl⟩ }
  constructor
  · exact h.size
  · exact h.defers
  · exact fun t => (h.tmp t).mono hle
  · intro e
    show ObOk _ e ((upd ts.obj d o) e)
    by_cases he : e = d
    · subst he; simpa using ho
    · rw [upd_ne _ _ he]
      refine ObOk.mono hle rfl rfl ?_ (h.obj e)
      intro hkind hκ
      exact hw _ fun hb => he (h.sep e d ⟨hkind, hκ⟩ hl hb)
  · exact fun e e' h1 h2 h3 => h.sep e e' ((liveR_setObj hk e).1 h1) ((liveR_setObj hk e').1 h2) h3
  · intro e h1
    obtain ⟨p, q, r⟩ := h.own e ((liveR_setObj hk e).1 h1)
    exact ⟨p, q, by rw [hsz]; exact r⟩
  · exact fun b hb => by rw [hsz]; exact h.inF b hb
  · refine ⟨hos.trans h.bel.os, htape.trans h.bel.tape, hout.trans h.bel.output, by rw [hsz]; exact h.bel.size, fun k hk' hX => ?_, Nat.le_trans h.bel.drawn hdr⟩
    have hne : k ≠ G.β d := fun e => by
      rcases (h.own d hl).1 with h1 | h1
      · omega
      · exact hX (e ▸ h1)
    exact (hw k hne).trans (h.bel.block k hk' hX)
  · exact h.pin

/-- A draw turns nothing. -/
theorem Rel.world {E : Env} {ts : TS} {G : Ghost} {a : Act} {w w' : World} (h : Rel E ts G a w) (hh : w'.heap = w.heap) (hos : w'.os = w.os) (ht : w'.tape = w.tape) (ho : w'.output = w.output) (hdr : w.drawn ≤ w'.drawn := by first | exact Nat.le_refl _ | exact Nat.le_succ _) : Rel E ts G a w' := by
  have hle : (ctxOf E G ts w).Le (ctxOf E G ts w') :=
    { cell := fun a u hM hc => ⟨(World.cell_of_heap (show w'.heap[_]? = w.heap[_]? by rw [hh])).trans hc, hM⟩, gen := fun _ => Nat.le_refl _, kind := fun e k _ hk => ⟨hk, rfl, rfl⟩ }
  exact ⟨h.size, h.defers, fun t => (h.tmp t).mono hle, fun d => ObOk.mono hle rfl rfl (fun _ _ => by show w'.heap[_]? = w.heap[_]?; rw [hh]) (h.obj d), h.sep, fun d hd => by rw [hh]; exact h.own d hd, fun b hb => by rw [hh]; exact h.inF b hb,
    ⟨hos.trans h.bel.os, ht.trans h.bel.tape, ho.trans h.bel.output, by rw [hh]; exact h.bel.size, fun k hk hX => by rw [hh]; exact h.bel.block k hk hX, Nat.le_trans h.bel.drawn hdr⟩, h.pin⟩

theorem Rel.drew {E : Env} {ts : TS} {G : Ghost} {a : Act} {w : World} (h : Rel E ts G a w) : Rel E ts G a w.drew := h.world rfl rfl rfl rfl

def TS.kill (ts : TS) (d : Nat) : TS := ts.setObj d .dead

theorem liveR_kill {ts : TS} {G : Ghost} {d e : Nat} (h : liveR (ts.kill d) G e) : e ≠ d ∧ liveR ts G e := by
  by_cases he : e = d
  · subst he; simp [liveR, TS.kill, TS.setObj, Ob.kind] at h
  · exact ⟨he, by simpa [liveR, TS.kill, TS.setObj, upd, he] using h⟩

theorem le_kill (E : Env) (G : Ghost) (ts : TS) (w : World) (d : Nat) : (ctxOf E G ts w).Le (ctxOf E G (ts.kill d) w) :=
  { cell := fun a u hM hc => ⟨hc, by
      rintro (hF | ⟨e, he, hb⟩)
      · exact hM (.inl hF)
      · exact hM (.inr ⟨e, (liveR_kill he).2, hb⟩)⟩
    gen := fun _ => Nat.le_refl _
    kind := fun e k _ hk => by
      by_cases he : e = d
      · subst he; simp [ctxOf, TS.kill, TS.setObj, Ob.kind] at hk
      · simp only [ctxOf, TS.kill, TS.setObj, upd, he, if_false] at hk; exact ⟨hk, rfl, rfl⟩ }

/-- An object is given up: nobody writes it any more. -/
theorem Rel.kill {E : Env} {ts : TS} {G : Ghost} {a : Act} {w : World} (h : Rel E ts G a w) (d : Nat) : Rel E (ts.kill d) G a w := by
  have hle := le_kill E G ts w d
  refine ⟨h.size, h.defers, fun t => (h.tmp t).mono hle, ?_, fun e e' h1 h2 h3 => h.sep e e' (liveR_kill h1).2 (liveR_kill h2).2 h3, fun e h1 => h.own e (liveR_kill h1).2, h.inF, h.bel, h.pin⟩
  intro e
  show ObOk _ e ((upd ts.obj d .dead) e)
  by_cases he : e = d
  · subst he; simp [ObOk]
  · rw [upd_ne _ _ he]; exact ObOk.mono hle rfl rfl (fun _ _ => rfl) (h.obj e)

/-- An owned slice's value, once its array is given up: a slice that nobody writes. -/
theorem Rep.frozen {E : Env} {ts : TS} {G : Ghost} {a : Act} {w : World} (h : Rel E ts G a w) {d g len sz : Nat} {xs : List AV} {v : Value} (hv : Rep (ctxOf E G ts w) v (.os d g len))
    (hg : g = ts.gen d) (ho : ts.obj d = .arr sz xs) (hl : len ≤ xs.length) : Rep (ctxOf E G (ts.kill d) w) v (.slice false (xs.take len)) := by
  cases hv with
  | os _ _ _ _ h1 hgle hh =>
    have hh := hh hg (by simp [ctxOf, ho, Ob.kind])
    have hob := h.obj d
    rw [ho] at hob
    obtain ⟨h0, hsz, hrest⟩ := hob
    unfold OsIs at hh
    by_cases hlen : len = 0
    · subst hlen
      simp only [List.take_zero]
      split at hh
      · rw [hh.1]; exact .slice0 false _ _ (by simp)
      · obtain ⟨_, a0, rfl⟩ := hh; exact .slice0 false _ _ (by simp)
    · cases hκ : (ctxOf E G ts w).κ d with
      | none => rw [hκ] at hh; exact absurd hh.1 hlen
      | some cap =>
        rw [hκ] at hh hrest
        obtain ⟨hv, hcap⟩ := hh
        obtain ⟨vs, T, hheap, hsize, hfit, hcells⟩ := hrest
        have hlt : (xs.take len).length = len := by simp; omega
        rw [hv]
        suffices key : Rep (ctxOf E G (ts.kill d) w) (.slice (some ⟨G.β d, 0, none⟩) (xs.take len).length cap) (.slice false (xs.take len)) by
          rw [hlt] at key; exact key
        refine Rep.slice false (G.β d) 0 cap sz (xs.take len) (fun i j => if i < len ∧ j < sz then vs.getD (i * sz + j) undef else undef) (by intro e; simp [e] at hlt; omega) h0 ?_ (by rw [hlt]; exact hcap) (by simp) ?_ ?_ ?_
        · rintro (hF | ⟨e, he, hb⟩)
          · exact (h.own d ⟨by simp [ho, Ob.kind], by rw [show G.κ d = some cap from hκ]; simp⟩).2.1 hF
          · obtain ⟨hne, hl'⟩ := liveR_kill he
            exact hne (h.sep e d hl' ⟨by simp [ho, Ob.kind], by rw [show G.κ d = some cap from hκ]; simp⟩ hb)
        · exact fun x hx => hsz x (List.mem_of_mem_take hx)
        · intro i j hi hj
          rw [hlt] at hi
          have hin : i * sz + j < vs.size := by
            rw [hsize]
            calc i * sz + j < i * sz + sz := by omega
              _ = (i + 1) * sz := by rw [Nat.add_mul, Nat.one_mul]
              _ ≤ cap * sz := Nat.mul_le_mul_right _ (by omega)
          show w.cell? _ = _
          unfold World.cell?
          rw [show w.heap[G.β d]? = some (.cells vs T (0, 0)) from hheap]
          simp [hi, hj, hin]
        · intro i j
          split
          · rename_i hij
            have hi : i < xs.length := by omega
            have hgd : (xs.take len).getD i .any = xs.getD i .any := by simp [List.getElem?_take, hij.1]
            rw [hgd]
            exact (hcells i j hi hij.2).mono (le_kill E G ts w d)
          · rename_i hij
            have : ((xs.take len).getD i .any).cells.getD j .any = .any := by
              by_cases hi : i < len
              · have hj : ¬ j < sz := fun hj => hij ⟨hi, hj⟩
                have hi' : i < xs.length := by omega
                have hgd : (xs.take len).getD i .any = xs[i] := by simp [List.getElem?_take, hi, hi']
                rw [hgd]
                have := hsz xs[i] (List.getElem_mem hi')
                simp [List.getElem?_eq_none (show xs[i].cells.length ≤ j by omega)]
              · have hgd : (xs.take len).getD i .any = .any := by simp [List.getElem?_take, hi]
                rw [hgd]
                simp only [AV.cells]
                cases j <;> simp
            rw [this]; exact .any _

end Go.Proofs.Ytjmnokbbodcaaaa.Lg
