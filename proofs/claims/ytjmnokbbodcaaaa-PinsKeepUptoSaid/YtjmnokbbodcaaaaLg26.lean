/- A contract at the top: called with plain values in whatever world. -/
import Derived.Test.YtjmnokbbodcaaaaLg25
import Derived.Sort.Grow
import Derived.Deep.Draws
namespace Go.Proofs.Ytjmnokbbodcaaaa.Lg
set_option linter.unusedVariables false
set_option linter.unusedSimpArgs false
open Go
variable {P : Program}

/-- A nil slice in a cell of an own box is an own array of no elements. -/
theorem Ent.virtB {ts : TS} (t d i sz : Nat) {cs : List AV} (hd : (ts.obj d).box? = some cs) (hne : d ≠ t) (hc : cs[i]? = some (.slice true [])) (hsz : 0 < sz) :
    Ent ts ((ts.new t (.arr sz [])).setObj d (.box (cs.set i (.os t (ts.gen t + 1) 0)))) := fun E G a w hr => by
  have ho := box?_some hd
  have hr1 := hr.newVirt t sz hsz
  refine ⟨G.set t w.heap.size none, ?_⟩
  have hob := hr1.obj d
  have ho1 : (ts.new t (.arr sz [])).obj d = .box cs := by simp [TS.new, upd, hne, ho]
  rw [ho1] at hob
  obtain ⟨hκ, vs, T, h1, h2, h3⟩ := hob
  have hlive : liveR (ts.new t (.arr sz [])) (G.set t w.heap.size none) d := ⟨by simp [ho1, Ob.kind], hκ⟩
  refine hr1.setObj d _ (by simp [ho1, Ob.kind]) hlive rfl rfl rfl rfl (fun _ _ => rfl) ?_
  refine ⟨hκ, vs, T, h1, by simp [h2], fun j => ?_⟩
  have hle : (ctxOf E (G.set t w.heap.size none) (ts.new t (.arr sz [])) w).Le (ctxOf E (G.set t w.heap.size none) ((ts.new t (.arr sz [])).setObj d (.box (cs.set i (.os t (ts.gen t + 1) 0)))) w) :=
    le_setObj E _ _ w _ d _ (by simp [ho1, Ob.kind]) hlive (fun _ _ => rfl)
  by_cases hj : j = i
  · subst hj
    have hi : j < cs.length := by
      rcases List.getElem?_eq_some_iff.1 hc with ⟨h, _⟩; exact h
    have e : (cs.set j (.os t (ts.gen t + 1) 0)).getD j .any = .os t (ts.gen t + 1) 0 := by simp [hi]
    rw [e]
    have hb := hr.obj d
    rw [ho] at hb
    obtain ⟨_, vs', T', h1', _, h3'⟩ := hb
    have hvs : vs' = vs := by
      have hβ : (G.set t w.heap.size none).β d = G.β d := by simp [Ghost.set, upd, hne]
      have e1 : w.heap[G.β d]? = some (.cells vs' T' (0, 0)) := h1'
      have e2 : w.heap[(G.set t w.heap.size none).β d]? = some (.cells vs T (0, 0)) := h1
      rw [hβ, e1] at e2
      have e3 := Option.some.inj e2
      simp only [Obj.cells.injEq] at e3
      exact e3.1
    have hc0 := h3' j
    rw [hvs] at hc0
    have e3 : cs.getD j .any = .slice true [] := by simp [List.getD_eq_getElem?_getD, hc]
    rw [e3] at hc0
    exact (nil_os (d := t) (sz := sz) hc0).mono hle
  · have e : (cs.set i (.os t (ts.gen t + 1) 0)).getD j .any = cs.getD j .any := by simp [List.getD_eq_getElem?_getD, List.getElem?_set, Ne.symm hj]
    rw [e]
    exact (h3 j).mono hle

def ctx0 (w : World) : Ctx := { w, M := fun _ => False, gen := fun _ => 0, kind := fun _ => none, β := fun _ => 0, κ := fun _ => none }
def env0 (w : World) : Env := { w0 := w, X := fun _ => False, F := fun _ => False, pin := fun _ => none }

theorem Bel.grown {w w' : World} (h : Bel (fun _ => False) w w') : ∃ q os', w' = Go.Sort.grow (w.drewN q) os' := by
  refine ⟨w'.drawn - w.drawn, w'.heap.extract w.heap.size w'.heap.size, ?_⟩
  have hh : w'.heap = w.heap ++ w'.heap.extract w.heap.size w'.heap.size := by
    apply Array.ext_getElem?
    intro i
    have hs := h.size
    by_cases hi : i < w.heap.size
    · rw [Array.getElem?_append_left hi]; exact h.block i hi (fun h => h)
    · rw [Array.getElem?_append_right (by omega), Array.getElem?_extract]
      by_cases hj : i < w'.heap.size
      · rw [if_pos (by omega)]; congr 1; omega
      · rw [if_neg (by omega), Array.getElem?_eq_none (by omega)]
  obtain ⟨hp, tp, dr, os, out⟩ := w'
  have h1 := h.os; have h2 := h.tape; have h3 := h.output; have h4 := h.drawn
  simp only at hh h1 h2 h3 h4
  simp only [Go.Sort.grow, World.drewN]
  congr 1
  omega

def TopP (W : World) (x : AV) (e : Ending) (w' : World) : Prop := ∃ v, e = .returned v ∧ Rep (ctx0 w') v x ∧ Bel (fun _ => False) W w'

theorem CallR.top {f : FuncId} {args : List AV} {x : AV} (h : CallR P f args (.val x)) (vals : Array Value) (W : World) (hsz : vals.size = args.length) (hr : ∀ i, Rep (ctx0 W) (vals.getD i undef) (args.getD i .any)) :
    match (callFunc f vals).run P W with
    | .ok (.enter f' args') w1 => Calls P f' args' w1 (TopP W x)
    | .ok (.value v) w1 => TopP W x (.returned v) w1
    | _ => False := by
  let G0 : Ghost := ⟨fun _ => 0, fun _ => none⟩
  have hobj : ∀ d, (argTS (args.map Arg.v) (args.map Arg.v).length).obj d = .dead := fun d => by
    simp only [argTS, List.getElem?_map]
    cases args[d]? <;> rfl
  have hdead : ∀ d, ¬ liveR (argTS (args.map Arg.v) (args.map Arg.v).length) G0 d := fun d hl => hl.1 (by rw [hobj]; rfl)
  have hctx : ctxOf (env0 W) G0 (argTS (args.map Arg.v) (args.map Arg.v).length) W = ctx0 W := by
    unfold ctxOf ctx0
    have e1 : (fun b => (env0 W).F b ∨ ∃ d, liveR (argTS (args.map Arg.v) (args.map Arg.v).length) G0 d ∧ G0.β d = b) = fun _ => False := by
      funext b
      apply propext
      constructor
      · rintro (h | ⟨d, h, _⟩)
        · exact h
        · exact hdead d h
      · exact False.elim
    have e2 : (fun d => ((argTS (args.map Arg.v) (args.map Arg.v).length).obj d).kind) = fun _ => none := by
      funext d
      rw [hobj]; rfl
    rw [e1, e2]
    rfl
  have hrel : Rel (env0 W) (argTS (args.map Arg.v) (args.map Arg.v).length) G0 ⟨vals, []⟩ W := by
    refine ⟨by simp [argTS, hsz], rfl, fun t => ?_, fun d => by rw [hobj]; trivial, fun d d' h1 _ _ => absurd h1 (hdead d), fun d h1 => absurd h1 (hdead d), fun b hb => hb.elim, Bel.refl _ _, fun j b hj _ => by cases hj⟩
    rw [hctx]
    have e : (argTS (args.map Arg.v) (args.map Arg.v).length).tmp t = args.getD t .any := by
      simp only [argTS, List.getElem?_map, List.getD_eq_getElem?_getD]
      cases args[t]? <;> rfl
    rw [e]; exact hr t
  have hC := h (env0 W) G0 vals W rfl hrel fun j => by
    constructor
    · rintro ⟨cs, hcs⟩
      simp only [List.getElem?_map] at hcs
      cases hh : args[j]? <;> rw [hh] at hcs <;> simp at hcs
    · rintro ⟨b, hb⟩; cases hb
  have fin : ∀ e w', Post (env0 W) (fun r' _ => r' = .val x) e w' → TopP W x e w' := by
    rintro e w' ⟨v, r', io, ts', G', rfl, rfl, hrel', _, hret⟩
    obtain ⟨hxp, hx0⟩ := hret
    have hv := hrel'.tmp 0
    rw [hx0] at hv
    exact ⟨v, rfl, Rep.mono_pure (c := ctxOf (env0 W) G' ts' w') (c' := ctx0 w') (fun ad u hm hc => ⟨hc, fun h => h⟩) (by simpa using hv) hxp, hrel'.bel⟩
  split at hC
  · rename_i heq; rw [heq]; exact Calls.mono hC fun e w' hp => fin e w' hp
  · rename_i heq; rw [heq]; exact fin _ _ hC
  · exact hC.elim
end Go.Proofs.Ytjmnokbbodcaaaa.Lg
