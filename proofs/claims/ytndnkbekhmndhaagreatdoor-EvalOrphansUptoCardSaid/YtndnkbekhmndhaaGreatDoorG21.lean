/- Parts of the proof, one behind the other. -/
import Derived.Test.YtndnkbekhmndhaaGreatDoorG20
namespace Go.Proofs.YtndnkbekhmndhaaGreatDoor.Lg
set_option maxRecDepth 100000
set_option linter.unusedVariables false
set_option linter.unusedSimpArgs false
open Go
variable {P : Program}
theorem Post.frz {E : Env} {sz : Nat} {xs : List AV} {e : Ending} {w' : World} (h : Post E (fun r' _ => r' = .own sz xs) e w') : Post E (fun r' _ => r' = .val (.slice false xs)) e w' := by
  obtain ⟨v, r, io, ts', G', h1, rfl, h3, h4, h5⟩ := h
  obtain ⟨d, g, q1, q2, q3, q4⟩ := h5
  have h3' : (ts'.obj d).arr? = some (sz, xs) := by rw [q3]; rfl
  obtain ⟨G2, hrel⟩ := Ent.frz 0 q1 q2.symm h3' (Nat.le_refl _) E G' _ _ h3
  refine ⟨v, .val (.slice false xs), io, _, G2, h1, rfl, hrel, fun j b hj => ?_, ?_⟩
  · obtain ⟨a1, a2, a3⟩ := h4 j b hj
    have hjd : j ≠ d := by rintro rfl; rw [q3] at a2; cases a2
    refine ⟨a1, ?_, a3⟩
    rw [← a2]
    simp [TS.kill, TS.setObj, TS.put, upd, hjd]
  · refine ⟨?_, ?_⟩
    · simp only [go_sem, q4]
    · simp [TS.put, upd, List.take_length]
theorem CallR.frz {f : FuncId} {args : List AV} {sz : Nat} {xs : List AV} (h : CallR P f args (.own sz xs)) : CallR P f args (.val (.slice false xs)) := by
  intro E G vals w hw hrel hpin
  have := h E G vals w hw hrel hpin
  split at this <;> rename_i heq
  · exact Calls.mono this fun e w' hp => hp.frz
  · exact this.frz
  · exact this
end Go.Proofs.YtndnkbekhmndhaaGreatDoor.Lg
