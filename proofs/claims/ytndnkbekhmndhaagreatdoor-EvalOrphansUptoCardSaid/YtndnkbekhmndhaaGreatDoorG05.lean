/- Parts of the proof, one behind the other. -/
import Derived.Sort.Grow
import Derived.Deep.Draws
import Derived.Test.YtndnkbekhmndhaaGreatDoorG04
namespace Go.Proofs.YtndnkbekhmndhaaGreatDoor.Lg
set_option maxRecDepth 100000
set_option linter.unusedVariables false
set_option linter.unusedSimpArgs false
open Go
variable {P : Program}
def ctx0 (w : World) : Ctx := { w, M := fun _ => False, gen := fun _ => 0, kind := fun _ => none, β := fun _ => 0, κ := fun _ => none }
def env0 (w : World) : Env := { w0 := w, X := fun _ => False, F := fun _ => False, pin := fun _ => none }
theorem Bel.grown {w w' : World} (h : Bel (fun _ => False) w w') : ∃ q os', w' = Go.Sort.grow (w.drewN q) os' := by
  refine ⟨w'.drawn - w.drawn, w'.heap.extract w.heap.size w'.heap.size, ?_⟩
  have hh : w'.heap = w.heap ++ w'.heap.extract w.heap.size w'.heap.size := by
    apply Array.ext_getElem?
    intro i
    have hs := h.size
    by_cases hi : i < w.heap.size
    · rw [Array.getElem?_append_left hi]; exact h.block i hi (fun h => h)
    · rw [Array.getElem?_append_right (by omega), Array.getElem?_extract]
      by_cases hj : i < w'.heap.size
      · rw [if_pos (by omega)]; congr 1; omega
      · rw [if_neg (by omega), Array.getElem?_eq_none (by omega)]
  obtain ⟨hp, tp, dr, os, out⟩ := w'
  have h1 := h.os; have h2 := h.tape; have h3 := h.output; have h4 := h.drawn
  simp only at hh h1 h2 h3 h4
  simp only [Go.Sort.grow, World.drewN]
  congr 1
  omega
def TopP (W : World) (x : AV) (e : Ending) (w' : World) : Prop := ∃ v, e = .returned v ∧ Rep (ctx0 w') v x ∧ Bel (fun _ => False) W w'
theorem CallR.top {f : FuncId} {args : List AV} {x : AV} (h : CallR P f args (.val x)) (vals : Array Value) (W : World) (hsz : vals.size = args.length) (hr : ∀ i, Rep (ctx0 W) (vals.getD i undef) (args.getD i .any)) :
    match (callFunc f vals).run P W with
    | .ok (.enter f' args') w1 => Calls P f' args' w1 (TopP W x)
    | .ok (.value v) w1 => TopP W x (.returned v) w1
    | _ => False := by
  let G0 : Ghost := ⟨fun _ => 0, fun _ => none⟩
  have hobj : ∀ d, (argTS (args.map Arg.v) (args.map Arg.v).length).obj d = .dead := fun d => by
    simp only [argTS, List.getElem?_map]
    cases args[d]? <;> rfl
  have hdead : ∀ d, ¬ liveR (argTS (args.map Arg.v) (args.map Arg.v).length) G0 d := fun d hl => hl.1 (by rw [hobj]; rfl)
  have hctx : ctxOf (env0 W) G0 (argTS (args.map Arg.v) (args.map Arg.v).length) W = ctx0 W := by
    unfold ctxOf ctx0
    have e1 : (fun b => (env0 W).F b ∨ ∃ d, liveR (argTS (args.map Arg.v) (args.map Arg.v).length) G0 d ∧ G0.β d = b) = fun _ => False := by
      funext b
      apply propext
      constructor
      · rintro (h | ⟨d, h, _⟩)
        · exact h
        · exact hdead d h
      · exact False.elim
    have e2 : (fun d => ((argTS (args.map Arg.v) (args.map Arg.v).length).obj d).kind) = fun _ => none := by
      funext d
      rw [hobj]; rfl
    rw [e1, e2]
    rfl
  have hrel : Rel (env0 W) (argTS (args.map Arg.v) (args.map Arg.v).length) G0 ⟨vals, []⟩ W := by
    refine ⟨by simp [argTS, hsz], rfl, fun t => ?_, fun d => by rw [hobj]; trivial, fun d d' h1 _ _ => absurd h1 (hdead d), fun d h1 => absurd h1 (hdead d), fun b hb => hb.elim, Bel.refl _ _, fun j b hj _ => by cases hj⟩
    rw [hctx]
    have e : (argTS (args.map Arg.v) (args.map Arg.v).length).tmp t = args.getD t .any := by
      simp only [argTS, List.getElem?_map, List.getD_eq_getElem?_getD]
      cases args[t]? <;> rfl
    rw [e]; exact hr t
  have hC := h (env0 W) G0 vals W rfl hrel fun j => by
    constructor
    · rintro ⟨cs, hcs⟩
      simp only [List.getElem?_map] at hcs
      cases hh : args[j]? <;> rw [hh] at hcs <;> simp at hcs
    · rintro ⟨b, hb⟩; cases hb
  have fin : ∀ e w', Post (env0 W) (fun r' _ => r' = .val x) e w' → TopP W x e w' := by
    rintro e w' ⟨v, r', io, ts', G', rfl, rfl, hrel', _, hret⟩
    obtain ⟨hxp, hx0⟩ := hret
    have hv := hrel'.tmp 0
    rw [hx0] at hv
    exact ⟨v, rfl, Rep.mono_pure (c := ctxOf (env0 W) G' ts' w') (c' := ctx0 w') (fun b hm _ => ⟨rfl, fun h => h⟩) (by simpa using hv) hxp, hrel'.bel⟩
  split at hC
  · rename_i heq; rw [heq]; exact Calls.mono hC fun e w' hp => fin e w' hp
  · rename_i heq; rw [heq]; exact fin _ _ hC
  · exact hC.elim
end Go.Proofs.YtndnkbekhmndhaaGreatDoor.Lg

namespace Go.Proofs.YtndnkbekhmndhaaGreatDoor.Lg
set_option maxRecDepth 100000
set_option linter.unusedVariables false
set_option linter.unusedSimpArgs false
open Go
variable {P : Program}
@[go_sem] theorem true_to (p : Prop) : (True → p) = p := by simp
def TS.frzWith (ts : TS) (d : Nat) (cs : List AV) : TS := { ts with tmp := fun t => frzR d (ts.gen d) cs (ts.tmp t), obj := upd ts.obj d .dead }
def frzAt (ob : Ob) (ts : TS) (d : Nat) : TS :=
  match ob with
  | .box cs => ts.frzWith d cs
  | _ => ts
@[go_sem] theorem frzBox_at (ts : TS) (d : Nat) : ts.frzBox d = frzAt (ts.obj d) ts d := by
  unfold TS.frzBox frzAt TS.frzWith
  cases ts.obj d <;> rfl
@[go_sem] theorem frzAt_box (ts : TS) (d : Nat) (cs : List AV) : frzAt (.box cs) ts d = ts.frzWith d cs := rfl
@[go_sem] theorem frzAll_nil (ts : TS) : ts.frzAll [] = ts := rfl
@[go_sem] theorem frzAll_ref (ts : TS) (d g : Nat) (r : List AV) : ts.frzAll (.ref d g 0 :: r) = (ts.frzBox d).frzAll r := rfl
@[go_sem] theorem frzWith_n (ts : TS) (d : Nat) (cs : List AV) : (ts.frzWith d cs).n = ts.n := rfl
@[go_sem] theorem frzWith_gen (ts : TS) (d e : Nat) (cs : List AV) : (ts.frzWith d cs).gen e = ts.gen e := rfl
@[go_sem] theorem frzWith_obj (ts : TS) (d e : Nat) (cs : List AV) : (ts.frzWith d cs).obj e = if e = d then .dead else ts.obj e := rfl
@[go_sem] theorem frzWith_tmp (ts : TS) (d t : Nat) (cs : List AV) : (ts.frzWith d cs).tmp t = frzR d (ts.gen d) cs (ts.tmp t) := rfl
@[go_sem] theorem frzR_ref (d g : Nat) (cs : List AV) (e q o : Nat) : frzR d g cs (.ref e q o) = if e = d then (if q = g ∧ o < cs.length then .ro (cs.drop o) else .ref e q o) else .ref e q o := by
  unfold frzR
  by_cases h : e = d <;> simp [h]
@[go_sem] theorem frzR_any (d g : Nat) (cs : List AV) : frzR d g cs (.any) = .any := rfl
@[go_sem] theorem frzR_mp (d g : Nat) (cs : List AV) (a b : List AV) : frzR d g cs (.mp a b) = .mp a b := rfl
@[go_sem] theorem frzR_mref (d g : Nat) (cs : List AV) (e q : Nat) : frzR d g cs (.mref e q) = .mref e q := rfl
@[go_sem] theorem frzR_bool (d g : Nat) (cs : List AV) (b : Bool) : frzR d g cs (.bool b) = .bool b := rfl
@[go_sem] theorem frzR_int (d g : Nat) (cs : List AV) (k : IntKind) (n : Int) : frzR d g cs (.int k n) = .int k n := rfl
@[go_sem] theorem frzR_str (d g : Nat) (cs : List AV) (s : List UInt8) : frzR d g cs (.str s) = .str s := rfl
@[go_sem] theorem frzR_agg (d g : Nat) (cs : List AV) (l : List AV) : frzR d g cs (.agg l) = .agg l := rfl
@[go_sem] theorem frzR_tup (d g : Nat) (cs : List AV) (l : List AV) : frzR d g cs (.tup l) = .tup l := rfl
@[go_sem] theorem frzR_slice (d g : Nat) (cs : List AV) (c : Bool) (l : List AV) : frzR d g cs (.slice c l) = .slice c l := rfl
@[go_sem] theorem frzR_ro (d g : Nat) (cs : List AV) (l : List AV) : frzR d g cs (.ro l) = .ro l := rfl
@[go_sem] theorem frzR_nilp (d g : Nat) (cs : List AV) : frzR d g cs (.nilp) = .nilp := rfl
@[go_sem] theorem frzR_clo (d g : Nat) (cs : List AV) (f : Fn) (a b : List AV) : frzR d g cs (.clo f a b) = .clo f a b := rfl
@[go_sem] theorem frzR_nilf (d g : Nat) (cs : List AV) : frzR d g cs (.nilf) = .nilf := rfl
@[go_sem] theorem frzR_nilm (d g : Nat) (cs : List AV) : frzR d g cs (.nilm) = .nilm := rfl
@[go_sem] theorem frzR_niface (d g : Nat) (cs : List AV) : frzR d g cs (.niface) = .niface := rfl
@[go_sem] theorem frzR_iface (d g : Nat) (cs : List AV) (t : TypeId) (v : AV) : frzR d g cs (.iface t v) = .iface t v := rfl
@[go_sem] theorem frzR_os (d g : Nat) (cs : List AV) (e q n : Nat) : frzR d g cs (.os e q n) = .os e q n := rfl
@[go_sem] theorem frzR_eref (d g : Nat) (cs : List AV) (e q i o : Nat) : frzR d g cs (.eref e q i o) = .eref e q i o := rfl
@[go_sem] theorem frzR_ot (d g : Nat) (cs : List AV) (e q o n : Nat) : frzR d g cs (.ot e q o n) = .ot e q o n := rfl
def cutK (M : TS → Prop) (Q : Exit → TS → Prop) : Exit → TS → Prop
  | .normal, ts => M ts
  | e, ts => Q e ts
@[go_sem] theorem cutK_normal (M : TS → Prop) (Q : Exit → TS → Prop) (ts : TS) : cutK M Q .normal ts = M ts := rfl
@[go_sem] theorem cutK_ret (M : TS → Prop) (Q : Exit → TS → Prop) (ts : TS) : cutK M Q .ret ts = Q .ret ts := rfl
@[go_sem] theorem cutK_exit (M : TS → Prop) (Q : Exit → TS → Prop) (ts : TS) (id : Nat) : cutK M Q (.exit id) ts = Q (.exit id) ts := rfl
def MidK (keep : List Nat) (ts0 : TS) (M : TS → Prop) (ts : TS) : Prop := ∃ ts', Ent ts ts' ∧ Keeps keep ts' ts0 ∧ M ts'
def CutB (P : Program) (keep : List Nat) (M : TS → Prop) (B : Code) (ts0 : TS) (Q : Exit → TS → Prop) : Prop := ∀ ts, Keeps keep ts ts0 → M ts → SpecC P B ts Q
theorem SpecC.cut {A B : Code} {ts : TS} {Q : Exit → TS → Prop} (M : TS → Prop) (h1 : SpecC P A ts (cutK M Q)) (h2 : ∀ ts', M ts' → SpecC P B ts' Q) : SpecC P (.seq A B) ts Q := by
  intro E G a w hr
  refine wp_seq (wp_mono (h1 E G a w hr) ?_)
  rintro e a' w' ⟨ts', G', hq, hr'⟩
  cases e with
  | normal => exact h2 ts' hq E G' a' w' hr'
  | _ => exact ⟨ts', G', hq, hr'⟩
theorem SpecC.cutAtS (n : Nat) {A C D : Code} {ops : Array Oper} {b : Bool} {ts : TS} {Q : Exit → TS → Prop} (keep : List Nat) (M : TS → Prop) (h1 : SpecC P A ts (cutK (MidK keep ts M) Q))
    (h2 : CutB P keep M (.seq (.seq (.region n ops b) C) D) ts Q) : SpecC P (.seq A (.seq (.seq (.region n ops b) C) D)) ts Q :=
  SpecC.cut (MidK keep ts M) h1 fun _ ⟨ts', he, hk, hm⟩ => SpecC.ent he (h2 ts' hk hm)
end Go.Proofs.YtndnkbekhmndhaaGreatDoor.Lg

namespace Go.Proofs.YtndnkbekhmndhaaGreatDoor.Lg
set_option maxRecDepth 100000
set_option linter.unusedVariables false
set_option linter.unusedSimpArgs false
open Go
variable {P : Program}
theorem CallR.calls {f : FuncId} {args : List AV} {x : AV} (hp : x.pure = true) (hE : ∀ (vals : Array Value) (w : World), (callFunc f vals).run P w = .ok (.enter f vals) w)
    (h : ∀ (vals : Array Value) (w : World) (c : Ctx), vals.size = args.length → (∀ i, Rep c (vals.getD i undef) (args.getD i .any)) →
      Calls P f vals w fun e w' => ∃ v, e = .returned v ∧ (∀ c', Rep c' v x) ∧ Bel (fun _ => False) w w') : CallR P f args (.val x) := by
  intro E G vals w hw hrel hpin
  have hobj : ∀ d, (argTS (args.map Arg.v) (args.map Arg.v).length).obj d = .dead := fun d => by
    simp only [argTS, List.getElem?_map]
    cases args[d]? <;> rfl
  have hdead1 : ∀ d, ¬ liveR (oneTS x) G d := fun d hl => hl.1 rfl
  have hC := h vals w (ctxOf E G (argTS (args.map Arg.v) (args.map Arg.v).length) w) (by have := hrel.size; simpa [argTS] using this) fun i => by
    have := hrel.tmp i
    have e : (argTS (args.map Arg.v) (args.map Arg.v).length).tmp i = args.getD i .any := by
      simp only [argTS, List.getElem?_map, List.getD_eq_getElem?_getD]
      cases args[i]? <;> rfl
    rwa [e] at this
  rw [hE]
  have hnp : ∀ j b, E.pin j = some b → False := fun j b hj => by
    obtain ⟨cs, hcs⟩ := (hpin j).2 ⟨b, hj⟩
    simp only [List.getElem?_map] at hcs
    cases hh : args[j]? <;> rw [hh] at hcs <;> simp at hcs
  refine Calls.mono hC ?_
  rintro e w' ⟨v, rfl, hv, hb⟩
  refine ⟨v, .val x, fun _ => [], oneTS x, G, rfl, rfl, ?_, fun j b hj => (hnp j b hj).elim, hp, rfl⟩
  refine ⟨rfl, rfl, fun t => ?_, fun d => trivial, fun d d' h1 _ _ => absurd h1 (hdead1 d), fun d h1 => absurd h1 (hdead1 d), fun b hF => Nat.lt_of_lt_of_le (hrel.inF b hF) hb.size, ?_, fun j b hj _ => (hnp j b hj).elim⟩
  · by_cases ht : t = 0
    · subst ht
      simpa [oneTS] using hv _
    · simp only [oneTS, if_neg ht]; exact .any _
  · exact hrel.bel.trans ⟨hb.os, hb.tape, hb.output, hb.size, fun k hk _ => hb.block k hk (fun h => h), hb.drawn⟩
end Go.Proofs.YtndnkbekhmndhaaGreatDoor.Lg
