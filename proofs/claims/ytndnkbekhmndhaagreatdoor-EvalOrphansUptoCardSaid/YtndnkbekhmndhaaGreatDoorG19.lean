/- Parts of the proof, one behind the other. -/
import Derived.Test.YtndnkbekhmndhaaGreatDoorG18
namespace Go.Proofs.YtndnkbekhmndhaaGreatDoor.Lg
set_option maxRecDepth 100000
set_option linter.unusedVariables false
set_option linter.unusedSimpArgs false
open Go
variable {P : Program}
theorem Ent.frzA {ts : TS} (d j c : Nat) {sz : Nat} {xs cs : List AV} {e g len : Nat} {p : Nat × List AV} (h1 : (ts.obj d).arr? = some (sz, xs)) (h2 : xs.getD j .any = .agg cs) (h5 : cs.getD c .any = .os e g len)
    (h3 : (ts.obj e).arr? = some p) (h4 : (g = ts.gen e ∧ len = p.2.length) ∧ e ≠ d) :
    Ent ts ((ts.kill e).setObj d (.arr sz (xs.set j (.agg (cs.set c (.slice false p.2)))))) := fun E G a w hr => by
  have ho := arr?_some h1
  have ha := arr?_some h3
  obtain ⟨⟨hg, rfl⟩, hne⟩ := h4
  have hk := hr.kill e
  refine ⟨G, ?_⟩
  have hjl : j < xs.length := Classical.byContradiction fun hn => by rw [getD_past (by omega)] at h2; cases h2
  have hxj : xs[j] = .agg cs := by rw [List.getD_eq_getElem?_getD, List.getElem?_eq_getElem hjl] at h2; exact h2
  have hob := hk.obj d
  have hod : (ts.kill e).obj d = .arr sz xs := by simp [TS.kill, TS.setObj, upd, hne.symm, ho]
  rw [hod] at hob
  obtain ⟨h0, hsz, hmat⟩ := hob
  have hκe : (ctxOf E G (ts.kill e) w).κ d = G.κ d := rfl
  rw [hκe] at hmat
  cases hκ : G.κ d with
  | none => rw [hκ] at hmat; simp only at hmat; subst hmat; simp at hjl
  | some cap =>
    rw [hκ] at hmat
    obtain ⟨vs, T, b1, b2, b3, b4⟩ := hmat
    have hlive : liveR (ts.kill e) G d := ⟨by simp [hod, Ob.kind], by rw [hκ]; simp⟩
    refine hk.setObj d _ (by simp [hod, Ob.kind]) hlive rfl rfl rfl rfl (fun _ _ => rfl) ?_
    have hle : (ctxOf E G (ts.kill e) w).Le (ctxOf E G ((ts.kill e).setObj d (.arr sz (xs.set j (.agg (cs.set c (.slice false p.2)))))) w) := le_setObj E G _ w w d _ (by simp [hod, Ob.kind]) hlive (fun _ _ => rfl)
    refine ⟨h0, fun x hx => ?_, ?_⟩
    · rcases List.mem_or_eq_of_mem_set hx with hx | rfl
      · exact hsz x hx
      · have := hsz _ (List.getElem_mem hjl)
        rw [hxj] at this
        simpa [AV.cells] using this
    · have hκ2 : (ctxOf E G ((ts.kill e).setObj d (.arr sz (xs.set j (.agg (cs.set c (.slice false p.2)))))) w).κ d = some cap := hκ
      rw [hκ2]
      refine ⟨vs, T, b1, b2, by simpa using b3, fun i k hi hk' => ?_⟩
      rw [List.length_set] at hi
      by_cases hij : j = i
      · subst hij
        have e1 : (xs.set j (.agg (cs.set c (.slice false p.2)))).getD j .any = .agg (cs.set c (.slice false p.2)) := by simp [hi]
        rw [e1]
        by_cases hck : c = k
        · subst hck
          have e2 : ((AV.agg (cs.set c (.slice false p.2))).cells.getD c .any) = .slice false p.2 := by
            have : c < cs.length := Classical.byContradiction fun hn => by rw [getD_past (by omega)] at h5; cases h5
            simp [AV.cells, this]
          rw [e2]
          have hob0 := hr.obj d
          rw [ho] at hob0
          obtain ⟨_, _, hm0⟩ := hob0
          have hκ0 : (ctxOf E G ts w).κ d = some cap := hκ
          rw [hκ0] at hm0
          obtain ⟨vs', T', c1, _, _, c4⟩ := hm0
          have he : vs' = vs := by
            have := c1.symm.trans b1
            simp only [Option.some.injEq, Obj.cells.injEq] at this
            exact this.1
          subst he
          have hv := c4 j c hi hk'
          rw [h2] at hv
          have hv2 : Rep (ctxOf E G ts w) (vs'.getD (j * sz + c) undef) (.os e g p.2.length) := by rw [← h5]; exact hv
          have := Rep.frozen hr hv2 hg ha (Nat.le_refl _)
          rw [List.take_length] at this
          exact this.mono hle
        · have e2 : ((AV.agg (cs.set c (.slice false p.2))).cells.getD k .any) = (AV.agg cs).cells.getD k .any := by
            simp [AV.cells, List.getElem?_set, hck]
          rw [e2, ← h2]
          exact (b4 j k hi hk').mono hle
      · have e1 : (xs.set j (.agg (cs.set c (.slice false p.2)))).getD i .any = xs.getD i .any := by simp [List.getElem?_set, hij]
        rw [e1]
        exact (b4 i k hi hk').mono hle
def frzAQ (q p : Option (Nat × List AV)) (ts : TS) (d j c e : Nat) : TS :=
  match q, p with
  | some q, some p => (ts.kill e).setObj d (.arr q.1 (q.2.set j (.agg ((q.2.getD j .any).cells.set c (.slice false p.2)))))
  | _, _ => ts
def TS.frzAr (ts : TS) (d j c e : Nat) : TS := frzAQ (ts.obj d).arr? (ts.obj e).arr? ts d j c e
def frzAC (q p : Option (Nat × List AV)) (ts : TS) (d j c e : Nat) : Prop :=
  match q, p with
  | some q, some p => q.2.getD j .any = .agg (q.2.getD j .any).cells ∧ (q.2.getD j .any).cells.getD c .any = .os e (ts.gen e) p.2.length ∧ e ≠ d
  | _, _ => False
@[go_sem] theorem frzAr_eq (ts : TS) (d j c e : Nat) : ts.frzAr d j c e = frzAQ (ts.obj d).arr? (ts.obj e).arr? ts d j c e := rfl
@[go_sem] theorem frzAQ_some (q p : Nat × List AV) (ts : TS) (d j c e : Nat) : frzAQ (some q) (some p) ts d j c e = (ts.kill e).setObj d (.arr q.1 (q.2.set j (.agg ((q.2.getD j .any).cells.set c (.slice false p.2))))) := rfl
@[go_sem] theorem frzAC_some (q p : Nat × List AV) (ts : TS) (d j c e : Nat) : frzAC (some q) (some p) ts d j c e = (q.2.getD j .any = .agg (q.2.getD j .any).cells ∧ (q.2.getD j .any).cells.getD c .any = .os e (ts.gen e) p.2.length ∧ e ≠ d) := rfl
theorem Ent.frzA2 {ts : TS} (d j c e : Nat) (h : frzAC (ts.obj d).arr? (ts.obj e).arr? ts d j c e) : Ent ts (ts.frzAr d j c e) := by
  unfold TS.frzAr
  cases hq : (ts.obj d).arr? with
  | none => rw [hq] at h; exact h.elim
  | some q => cases hp : (ts.obj e).arr? with
    | none => rw [hq, hp] at h; exact h.elim
    | some p =>
      rw [hq, hp] at h
      exact Ent.frzA d j c hq h.1 h.2.1 hp ⟨⟨rfl, rfl⟩, h.2.2⟩
end Go.Proofs.YtndnkbekhmndhaaGreatDoor.Lg
