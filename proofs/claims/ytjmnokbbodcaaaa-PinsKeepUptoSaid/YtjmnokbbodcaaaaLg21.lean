/- A nil slice, read as an array of one's own: so that a loop that appends has one form of state from the start. -/
import Derived.Test.YtjmnokbbodcaaaaLg20
namespace Go.Proofs.Ytjmnokbbodcaaaa.Lg
set_option linter.unusedVariables false
set_option linter.unusedSimpArgs false
open Go
variable {P : Program}

theorem Rel.newVirt {E : Env} {ts : TS} {G : Ghost} {a : Act} {w : World} (h : Rel E ts G a w) (d sz : Nat) (hsz : 0 < sz) : Rel E (ts.new d (.arr sz [])) (G.set d w.heap.size none) a w := by
  have hle := le_new E G ts w w d w.heap.size none (.arr sz []) (Nat.le_refl _) (fun _ _ => rfl)
  have live : ∀ e, e ≠ d → (liveR (ts.new d (.arr sz [])) (G.set d w.heap.size none) e ↔ liveR ts G e) := fun e he => by
    simp [liveR, Ghost.set, TS.new, upd, he]
  have hβ : ∀ e, e ≠ d → (G.set d w.heap.size none).β e = G.β e := fun e he => by simp [Ghost.set, upd, he]
  have hdead : ¬ liveR (ts.new d (.arr sz [])) (G.set d w.heap.size none) d := fun hl => hl.2 (by simp [Ghost.set])
  constructor
  · exact h.size
  · exact h.defers
  · exact fun t => (h.tmp t).mono hle
  · intro e
    show ObOk (ctxOf E (G.set d w.heap.size none) (ts.new d (.arr sz [])) w) e ((upd ts.obj d (.arr sz [])) e)
    by_cases he : e = d
    · subst he
      rw [upd_same]
      exact ⟨hsz, by simp, by simp [ctxOf, Ghost.set]⟩
    · rw [upd_ne _ _ he]
      exact ObOk.mono hle (by simp [ctxOf, Ghost.set, upd, he]) (by simp [ctxOf, Ghost.set, upd, he]) (fun _ _ => rfl) (h.obj e)
  · intro e e' h1 h2 h3
    by_cases he : e = d
    · subst he; exact absurd h1 hdead
    · by_cases he' : e' = d
      · subst he'; exact absurd h2 hdead
      · rw [hβ e he, hβ e' he'] at h3
        exact h.sep e e' ((live e he).1 h1) ((live e' he').1 h2) h3
  · intro e h1
    by_cases he : e = d
    · subst he; exact absurd h1 hdead
    · rw [hβ e he]
      exact h.own e ((live e he).1 h1)
  · exact h.inF
  · exact h.bel
  · intro j b' hj hg
    by_cases he : j = d
    · subst he; simp [TS.new] at hg
    · rw [hβ j he]; exact h.pin j b' hj (by simpa [TS.new, upd, he] using hg)

theorem Rel.reput {E : Env} {ts : TS} {G : Ghost} {a : Act} {w : World} (h : Rel E ts G a w) {t : Nat} {x : AV} (hr : Rep (ctxOf E G ts w) (a.tmps.getD t undef) x) : Rel E (ts.put t x) G a w := by
  refine ⟨h.size, h.defers, fun u => ?_, h.obj, h.sep, h.own, h.inF, h.bel, h.pin⟩
  show Rep (ctxOf E G ts w) _ (upd ts.tmp t x u)
  by_cases e : u = t
  · subst e; simpa using hr
  · rw [upd_ne _ _ e]; exact h.tmp u

theorem nil_os {E : Env} {ts : TS} {G : Ghost} {w : World} {d sz : Nat} {v : Value} {c : Ctx} (h : Rep c v (.slice true [])) : Rep (ctxOf E (G.set d w.heap.size none) (ts.new d (.arr sz [])) w) v (.os d (ts.gen d + 1) 0) := by
  have hv : ∃ a, v = .slice a 0 0 := by
    cases h with
    | slice0 _ a cap h => exact ⟨a, by rw [h rfl]⟩
    | slice => contradiction
  obtain ⟨a, rfl⟩ := hv
  exact .os d _ _ _ rfl (by simp [ctxOf, TS.new]) fun _ _ => by unfold OsIs; simp [ctxOf, Ghost.set]

theorem SpecC.virt {c : Code} {ts : TS} {Q : Exit → TS → Prop} (t d sz : Nat) (hsz : 0 < sz) (ht : ts.tmp t = .slice true []) (h : SpecC P c ((ts.new d (.arr sz [])).put t (.os d (ts.gen d + 1) 0)) Q) : SpecC P c ts Q := by
  intro E G a w hr
  have h0 := hr.tmp t
  rw [ht] at h0
  exact h E _ a w ((hr.newVirt d sz hsz).reput (nil_os h0))

theorem Rel.rebox {E : Env} {ts : TS} {G : Ghost} {a : Act} {w : World} (h : Rel E ts G a w) {b j : Nat} {cs : List AV} {x : AV} (ho : ts.obj b = .box cs) (hx : ∀ v, Rep (ctxOf E G ts w) v (cs.getD j .any) → Rep (ctxOf E G ts w) v x) :
    Rel E (ts.setObj b (.box (cs.set j x))) G a w := by
  have hkind : (fun e => ((ts.setObj b (.box (cs.set j x))).obj e).kind) = fun e => (ts.obj e).kind := by
    funext e
    simp only [TS.setObj]
    by_cases he : e = b
    · subst he; rw [upd_same, ho]; rfl
    · rw [upd_ne _ _ he]
  have hlive : ∀ e, liveR (ts.setObj b (.box (cs.set j x))) G e ↔ liveR ts G e := fun e => by
    unfold liveR
    rw [congrFun hkind e]
  have hctx : ctxOf E G (ts.setObj b (.box (cs.set j x))) w = ctxOf E G ts w := by
    unfold ctxOf
    have e1 : (fun k => E.F k ∨ ∃ e, liveR (ts.setObj b (.box (cs.set j x))) G e ∧ G.β e = k) = fun k => E.F k ∨ ∃ e, liveR ts G e ∧ G.β e = k := by
      funext k
      simp only [hlive]
    rw [e1, hkind]
    rfl
  refine ⟨h.size, h.defers, fun t => by rw [hctx]; exact h.tmp t, fun e => ?_, fun e e' h1 h2 h3 => h.sep e e' ((hlive e).1 h1) ((hlive e').1 h2) h3, fun e h1 => h.own e ((hlive e).1 h1), h.inF, h.bel, h.pin⟩
  rw [hctx]
  by_cases he : e = b
  · subst he
    have := h.obj e
    rw [ho] at this
    show ObOk _ e (upd ts.obj e _ e)
    rw [upd_same]
    obtain ⟨h1, vs, Ty, h2, h3, h4⟩ := this
    refine ⟨h1, vs, Ty, h2, by simpa using h3, fun i => ?_⟩
    by_cases hi : i = j
    · subst hi
      by_cases hlt : i < cs.length
      · have e1 : (cs.set i x).getD i .any = x := by simp [hlt]
        rw [e1]; exact hx _ (h4 i)
      · have e1 : (cs.set i x).getD i .any = .any := by simp [hlt]
        rw [e1]; exact .any _
    · have e1 : (cs.set j x).getD i .any = cs.getD i .any := by simp [List.getElem?_set_ne (Ne.symm hi)]
      rw [e1]; exact h4 i
  · show ObOk _ e (upd ts.obj b _ e)
    rw [upd_ne _ _ he]
    exact h.obj e

theorem SpecC.virtBox {c : Code} {ts : TS} {Q : Exit → TS → Prop} (b j d sz : Nat) {cs : List AV} (hsz : 0 < sz) (hbd : b ≠ d) (ho : ts.obj b = .box cs) (hj : cs.getD j .any = .slice true [])
    (h : SpecC P c ((ts.new d (.arr sz [])).setObj b (.box (cs.set j (.os d (ts.gen d + 1) 0)))) Q) : SpecC P c ts Q := by
  intro E G a w hr
  refine h E _ a w ((hr.newVirt d sz hsz).rebox (by simp [TS.new, upd, hbd, ho]) fun v hv => ?_)
  rw [hj] at hv
  exact nil_os hv

end Go.Proofs.Ytjmnokbbodcaaaa.Lg
