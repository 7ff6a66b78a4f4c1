/- Contracts of functions that the model answers itself (no Go body). -/
import Derived.Test.YtjmnokbbodcaaaaLg21
namespace Go.Proofs.Ytjmnokbbodcaaaa.Lg
set_option linter.unusedVariables false
set_option linter.unusedSimpArgs false
open Go
variable {P : Program}

def oneTS (x : AV) : TS := { n := 1, tmp := fun t => if t = 0 then x else .any, gen := fun _ => 0, obj := fun _ => .dead }

theorem CallP.extn {f : FuncId} {args : List AV} {x : AV} (hp : x.pure = true)
    (h : ∀ (vals : Array Value) (w : World) (c : Ctx), vals.size = args.length → (∀ i, Rep c (vals.getD i undef) (args.getD i .any)) → ∃ v, (callFunc f vals).run P w = .ok (.value v) w ∧ Rep c v x) : CallP P f args x := by
  intro E G vals w hw hrel hpin
  have hobj : ∀ d, (argTS (args.map Arg.v) (args.map Arg.v).length).obj d = .dead := fun d => by
    simp only [argTS, List.getElem?_map]
    cases args[d]? <;> rfl
  have hdead : ∀ d, ¬ liveR (argTS (args.map Arg.v) (args.map Arg.v).length) G d := fun d hl => hl.1 (by rw [hobj]; rfl)
  have hdead1 : ∀ d, ¬ liveR (oneTS x) G d := fun d hl => hl.1 rfl
  have hctx : ctxOf E G (oneTS x) w = ctxOf E G (argTS (args.map Arg.v) (args.map Arg.v).length) w := by
    unfold ctxOf
    have e1 : (fun b => E.F b ∨ ∃ d, liveR (oneTS x) G d ∧ G.β d = b) = fun b => E.F b ∨ ∃ d, liveR (argTS (args.map Arg.v) (args.map Arg.v).length) G d ∧ G.β d = b := by
      funext b
      apply propext
      constructor
      · rintro (h | ⟨d, h, _⟩)
        · exact .inl h
        · exact absurd h (hdead1 d)
      · rintro (h | ⟨d, h, _⟩)
        · exact .inl h
        · exact absurd h (hdead d)
    have e2 : (fun d => ((oneTS x).obj d).kind) = fun d => ((argTS (args.map Arg.v) (args.map Arg.v).length).obj d).kind := by
      funext d
      rw [hobj]; rfl
    rw [e1, e2]
    rfl
  obtain ⟨v, hv, hr⟩ := h vals w (ctxOf E G (argTS (args.map Arg.v) (args.map Arg.v).length) w) (by have := hrel.size; simpa [argTS] using this) fun i => by
    have := hrel.tmp i
    have e : (argTS (args.map Arg.v) (args.map Arg.v).length).tmp i = args.getD i .any := by
      simp only [argTS, List.getElem?_map, List.getD_eq_getElem?_getD]
      cases args[i]? <;> rfl
    rwa [e] at this
  rw [hv]
  refine ⟨v, .val x, fun _ => [], oneTS x, G, rfl, rfl, ?_, fun j b hj => ?_, hp, rfl⟩
  · refine ⟨rfl, rfl, fun t => ?_, fun d => trivial, fun d d' h1 _ _ => absurd h1 (hdead1 d), fun d h1 => absurd h1 (hdead1 d), hrel.inF, hrel.bel, fun j b hj _ => ?_⟩
    · rw [hctx]
      by_cases ht : t = 0
      · subst ht; simpa [oneTS] using hr
      · simp only [oneTS, if_neg ht]; exact .any _
    · obtain ⟨cs, hcs⟩ := (hpin j).2 ⟨b, hj⟩
      simp only [List.getElem?_map] at hcs
      cases hh : args[j]? <;> rw [hh] at hcs <;> simp at hcs
  · obtain ⟨cs, hcs⟩ := (hpin j).2 ⟨b, hj⟩
    simp only [List.getElem?_map] at hcs
    cases hh : args[j]? <;> rw [hh] at hcs <;> simp at hcs

end Go.Proofs.Ytjmnokbbodcaaaa.Lg
