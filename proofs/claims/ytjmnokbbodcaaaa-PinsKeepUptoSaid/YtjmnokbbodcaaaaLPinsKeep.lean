/- The law PinsKeep holds of every input whose reading is of bulk at most 1048576: it returns true, and each argument reads behind the call as before. Its conditions: those of the statement alone. -/
import Derived.Test.YtjmnokbbodcaaaaP21
import Derived.Test.YtjmnokbbodcaaaaRd
namespace Go.Proofs.Ytjmnokbbodcaaaa.pinsKeep
open Go Go.ChangeShapes Go.WideShapes Go.ChangeAt Go.RowKit Go.Proofs.Ytjmnokbbodcaaaa.Lg
set_option linter.unusedVariables false
set_option linter.unusedSimpArgs false

theorem own : ownKnob Try.prog.godebug = none := by kernel_rfl
theorem laid : laidOutB Try.prog = true := by kernel_rfl

set_option maxRecDepth 100000 in
theorem contract (H : Type) (enc : TypeId × Value → H) (W : World) (base : Nat) (args : Array Value) (ds gs : List (DataW H)) (before : List MemPlace)
    (hval : ∀ (j : Nat) t v, Try.f6.params[j]? = some t → args[j]? = some v → Value.okWide Try.prog W .any base t v)
    (hW : DataW.Whole enc Try.prog Try.f6.params.toList Rows.pinsKeepSpec.vars false W args.toList ds gs before) (hk : Rows.uptoSmall H (ds ++ gs) = true) :
    Calls Try.prog 6 args W fun e W' => ∃ v, e = .returned v ∧ Rows.pinsKeepSpec.post enc Try.prog Try.f6 false true false false W args v W' := by
  have hW' := hW
  have hlt := hW.lt
  obtain ⟨p, q, hA0, hV, rfl, hfz, hnd⟩ := hW
  have hA : DataW.TrodAll enc Try.prog W 0 (fun _ => true) true Try.f6.params.toList args.toList ds p := hA0
  have hA1 := hA
  rw [Try.params6] at hA hval
  obtain ⟨v0, vs0, d0, ds0, p0, q0, hargs, rfl, rfl, h0, r0⟩ := trodAll_cons hA
  obtain ⟨v1, vs1, d1, ds1, p1, q1, rfl, rfl, rfl, h1, r1⟩ := trodAll_cons r0
  obtain ⟨rfl, rfl, rfl⟩ := trodAll_nil r1
  obtain rfl : args = #[v0, v1] := by cases args; simp_all
  obtain ⟨rfl, rfl⟩ := trodVars_none hV
  have hbk : Rows.uptoBulkAll [d0, d1] ≤ 1048576 := by simpa [Rows.uptoSmall] using hk
  simp only [Rows.uptoBulkAll] at hbk
  obtain ⟨y0, g0, s0⟩ := rd_t71.arg_slice Try.underlying71 (fun y => rfl) (hval 0 71 v0 rfl rfl) h0
  have s0 := s0 (by omega)
  obtain ⟨y1, g1, s1⟩ := (RD.int Try.underlying3).arg_int Try.underlying3 (fun y => rfl) (hval 1 3 v1 rfl rfl) h1
  have s1 := s1 (by omega)
  have hc := keep_c y0 y1 s0.1 s0.2
  refine Calls.mono (hc.law (Try.call6 _ _) rfl (fun i => ?_)) fun e W' ⟨he, hb⟩ => ?_
  · match i with
    | 0 => exact g0
    | 1 => exact g1
    | n + 2 => exact .any _
  · subst he
    simp only [List.append_nil] at hlt hW' hA1
    refine ⟨_, rfl, post_of_below (pv := []) hW' (fun _ _ _ => trodAll_cons_mk (shut_bool Try.underlying4 _) trodAll_mk0) (fun sp hs => trodAll_below laid hb hA1 (by kernel_rfl) hlt hs) (fun _ _ => rfl) (by simp) hb (ok_one (by kernel_rfl) rfl (okWide_bool_mk Try.underlying4 _))⟩

set_option maxRecDepth 100000 in
theorem lifted (os : Os) (started : os.Started) (H : Type) (enc : TypeId × Value → H) (F : Stop.Interp) :
    ReturnsInHanded {} Try.checked os 6 .any ((Rows.OpenSpec.upto Rows.pinsKeepSpec).pre6 enc Try.prog Try.f6 Rows.pinsKeepUptoRow.domain false) (((Rows.OpenSpec.upto Rows.pinsKeepSpec).at F).post enc Try.prog Try.f6 false true false false) := by
  refine returnsInHanded_of_cond (C := Try.checked) (s := Rows.OpenSpec.upto Rows.pinsKeepSpec) (k := Rows.uptoSmall) rfl own started (by kernel_rfl) Try.func6
    (OpenSpec.witness (enc := enc) (C := Try.checked) (s := Rows.OpenSpec.upto Rows.pinsKeepSpec) (k := Rows.uptoSmall) rfl false ⟨#[], #[.slice none 0 0, .int .i64 0], []⟩ 8 (by kernel_rfl) (by kernel_rfl) (by kernel_rfl)
      (x := ([.nil, .lit (.int .i64 0)], [], [])) (by kernel_rfl) rfl (by kernel_rfl)) ?_
  intro W base args ds gs before hval hW _ hk _
  exact contract H enc W base args ds gs before hval hW hk

theorem over : Rows.pinsKeepUptoRow.holds Try.pinned (Rows.OpenSpec.upto Rows.pinsKeepSpec) :=
  OpenClaim.holds_of_cond 6 Try.f6 rfl rfl rfl rfl rfl rfl rfl ⟨rfl, rfl, rfl, rfl, rfl⟩ rfl rfl rfl rfl rfl (by kernel_rfl) Try.func6 (by kernel_rfl)
    (of_decide_eq_true (by kernel_rfl)) (by unfold Func.isWrapper; first | (rw [if_pos (by decide +kernel)]; kernel_rfl) | (rw [if_neg (by decide +kernel)]; exact ⟨rfl, rfl⟩))
    (fun os started H enc _ F => lifted os started H enc F)

theorem proved : Rows.PinsKeepUptoSaid := over
end Go.Proofs.Ytjmnokbbodcaaaa.pinsKeep
#print axioms Go.Proofs.Ytjmnokbbodcaaaa.pinsKeep.proved
