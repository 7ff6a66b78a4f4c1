/- The law RequestHolds holds of every input whose reading is of bulk at most 1048576: it returns true, and each argument reads behind the call as before. Its conditions: those of the statement alone. -/
import Derived.SevenTiedAt
import Derived.Test.YthjalhfmpffbjaaGreatDoorCards
import Derived.Test.YthjalhfmpffbjaaGreatDoorTie
import Derived.Deep.DeepHandedRow
import Derived.Deep.DeepWitnessRowRef
import Derived.Lib.LaidIn
import Derived.Lib.LaidU8
import Derived.Lib.DecodeN
import Derived.Test.YthjalhfmpffbjaaGreatDoorG31
namespace Go.Proofs.YthjalhfmpffbjaaGreatDoor.requestHolds
open Go Go.ChangeShapes Go.WideShapes Go.ChangeAt Go.RowKit Go.Proofs.YthjalhfmpffbjaaGreatDoor.Lg
set_option linter.unusedVariables false
set_option linter.unusedSimpArgs false

theorem own : ownKnob Tryz.prog.godebug = none := by kernel_rfl
theorem laid : laidOutB Tryz.prog = true := by kernel_rfl

set_option maxRecDepth 100000 in
theorem contract (H : Type) (enc : TypeId × Value → H) (W : World) (base : Nat) (args : Array Value) (ds gs : List (DataW H)) (before : List MemPlace)
    (hval : ∀ (j : Nat) t v, Tryz.f6.params[j]? = some t → args[j]? = some v → Value.okWide Tryz.prog W .any base t v)
    (hW : DataW.Whole enc Tryz.prog Tryz.f6.params.toList Rows.requestHoldsSpec.vars false W args.toList ds gs before) (hk : Rows.uptoSmall H (ds ++ gs) = true) :
    Calls Tryz.prog 6 args W fun e W' => ∃ v, e = .returned v ∧ Rows.requestHoldsSpec.post enc Tryz.prog Tryz.f6 false true false false W args v W' := by
  have hW' := hW
  have hlt := hW.lt
  obtain ⟨p, q, hA0, hV, rfl, hfz, hnd⟩ := hW
  have hA : DataW.TrodAll enc Tryz.prog W 0 (fun _ => true) true Tryz.f6.params.toList args.toList ds p := hA0
  have hA1 := hA
  rw [Tryz.params6] at hA hval
  obtain ⟨v0, vs0, d0, ds0, p0, q0, hargs, rfl, rfl, h0, r0⟩ := trodAll_cons hA
  obtain ⟨v1, vs1, d1, ds1, p1, q1, rfl, rfl, rfl, h1, r1⟩ := trodAll_cons r0
  obtain ⟨v2, vs2, d2, ds2, p2, q2, rfl, rfl, rfl, h2, r2⟩ := trodAll_cons r1
  obtain ⟨rfl, rfl, rfl⟩ := trodAll_nil r2
  obtain rfl : args = #[v0, v1, v2] := by cases args; simp_all
  obtain ⟨rfl, rfl⟩ := trodVars_none hV
  have hbk : Rows.uptoBulkAll [d0, d1, d2] ≤ 1048576 := by simpa [Rows.uptoSmall] using hk
  simp only [Rows.uptoBulkAll] at hbk
  obtain ⟨y0, g0, s0⟩ := rd_t42.arg_agg Tryz.underlying42 (fun y => ⟨_, rfl⟩) (hval 0 42 v0 rfl rfl) h0
  have s0 := s0 (by omega)
  obtain ⟨y1, g1, s1⟩ := rd_t23.arg_agg Tryz.underlying23 (fun y => ⟨_, rfl⟩) (hval 1 23 v1 rfl rfl) h1
  have s1 := s1 (by omega)
  obtain ⟨y2, g2, s2⟩ := rd_t75.arg_slice Tryz.underlying75 (fun y => rfl) (hval 2 75 v2 rfl rfl) h2
  have s2 := s2 (by omega)
  have hc := Jqc y0.epoch y0.turn y0.up y0.in'.last.a0 y0.in'.last.a1 y0.in'.last.a2 y0.in'.last.a3 y0.in'.max y0.errs.a0 y0.errs.a1 y0.errs.a2 y0.errs.a3 y0.w.c.cap y0.w.c.l y0.w.ready y0.w.shown y0.p.next' y0.p.snaps y1.port y1.host y1.path y1.first y1.other y2 s0.2.2.1 s0.2.2.2.1 s0.2.2.2.2 s2.1 s2.2
  refine Calls.mono (hc.law (Tryz.call6 _ _) rfl (fun i => ?_)) fun e W' ⟨he, hb⟩ => ?_
  · match i with
    | 0 => exact g0
    | 1 => exact g1
    | 2 => exact g2
    | n + 3 => exact .any _
  · subst he
    simp only [List.append_nil] at hlt hW' hA1
    refine ⟨_, rfl, JpA (pv := []) hW' (fun _ _ _ => trodAll_cons_mk (shut_bool Tryz.underlying4 _) trodAll_mk0) (fun sp hs => JkB laid hb hA1 (by kernel_rfl) hlt hs) (fun _ _ => rfl) (by simp) hb (ok_one (by kernel_rfl) rfl (okWide_bool_mk Tryz.underlying4 _))⟩

/-- The witness's world: the settled one, the listed tables holding what their initialisers lay. -/
noncomputable def laidWorld (os : Os) : World :=
  let w0 := World.holding Tryz.prog os ⟨#[], #[], []⟩
  let put (h : Array Obj) (g : Nat) (cs : Array Value) : Array Obj := h.modify g fun
    | .cells _ t frozen => .cells cs t frozen
    | o => o
  { w0 with heap := put (put (w0.heap) 2 ((List.range 16).flatMap fun i => [Value.int .u8 (Lib.accLo i), Value.int .u8 (Lib.accHi i)]).toArray) 1 (Lib.firstTab.map fun z => Value.int .u8 z).toArray }
set_option maxRecDepth 1000000 in
theorem laid_met (os : Os) (args : Array Value) : laidMet Tryz.prog Rows.requestHoldsUptoRow.laid ((laidWorld os).forCall (fun _ _ => 0) ⟨#[], args, []⟩).memory :=
  (LaidIn.of_run [2, 1] 8 (by kernel_rfl) (by kernel_rfl) (by kernel_rfl) (by kernel_rfl)).met

theorem witness_row (os : Os) {H : Type} (enc : TypeId × Value → H) :
    (Rows.OpenSpec.upto Rows.requestHoldsSpec).preRow enc Tryz.prog Tryz.f6 Rows.requestHoldsUptoRow.domain false Rows.requestHoldsUptoRow.laid ((laidWorld os).forCall (fun _ _ => 0) ⟨#[], #[.agg #[.int .i64 0, .int .i64 0, .bool false, .int .i64 0, .int .i64 0, .int .i64 0, .int .i64 0, .int .i64 0, .int .i64 0, .int .i64 0, .int .i64 0, .int .i64 0, .int .i64 0, .slice none 0 0, .bool false, .slice none 0 0, .int .i64 0, .slice none 0 0], .agg #[.int .i64 0, .string ⟨#[]⟩, .string ⟨#[]⟩, .int .i64 0, .int .i64 0], .slice none 0 0], []⟩).memory #[.agg #[.int .i64 0, .int .i64 0, .bool false, .int .i64 0, .int .i64 0, .int .i64 0, .int .i64 0, .int .i64 0, .int .i64 0, .int .i64 0, .int .i64 0, .int .i64 0, .int .i64 0, .slice none 0 0, .bool false, .slice none 0 0, .int .i64 0, .slice none 0 0], .agg #[.int .i64 0, .string ⟨#[]⟩, .string ⟨#[]⟩, .int .i64 0, .int .i64 0], .slice none 0 0] := by
  have hw : (DataW.whole enc Tryz.prog ((laidWorld os).forCall (fun _ _ => 0) ⟨#[], #[.agg #[.int .i64 0, .int .i64 0, .bool false, .int .i64 0, .int .i64 0, .int .i64 0, .int .i64 0, .int .i64 0, .int .i64 0, .int .i64 0, .int .i64 0, .int .i64 0, .int .i64 0, .slice none 0 0, .bool false, .slice none 0 0, .int .i64 0, .slice none 0 0], .agg #[.int .i64 0, .string ⟨#[]⟩, .string ⟨#[]⟩, .int .i64 0, .int .i64 0], .slice none 0 0], []⟩).memory Tryz.f6.params.toList (Rows.OpenSpec.upto Rows.requestHoldsSpec).vars false (#[.agg #[.int .i64 0, .int .i64 0, .bool false, .int .i64 0, .int .i64 0, .int .i64 0, .int .i64 0, .int .i64 0, .int .i64 0, .int .i64 0, .int .i64 0, .int .i64 0, .int .i64 0, .slice none 0 0, .bool false, .slice none 0 0, .int .i64 0, .slice none 0 0], .agg #[.int .i64 0, .string ⟨#[]⟩, .string ⟨#[]⟩, .int .i64 0, .int .i64 0], .slice none 0 0] : Array Value).toList 8).map (fun x => (x.1, x.2.1)) =
      some ([.agg [.lit (.int .i64 0), .lit (.int .i64 0), .lit (.bool false), .agg [.agg [.lit (.int .i64 0), .lit (.int .i64 0), .lit (.int .i64 0), .lit (.int .i64 0)], .lit (.int .i64 0)], .agg [.lit (.int .i64 0), .lit (.int .i64 0), .lit (.int .i64 0), .lit (.int .i64 0)], .agg [.agg [.lit (.int .i64 0), .nil], .lit (.bool false), .nil], .agg [.lit (.int .i64 0), .nil]], .agg [.lit (.int .i64 0), .lit (.string []), .lit (.string []), .lit (.int .i64 0), .lit (.int .i64 0)], .nil], []) := by kernel_rfl
  obtain ⟨⟨x1, x2, x3⟩, hx, hx1⟩ := Option.map_eq_some_iff.1 hw
  simp only [Prod.mk.injEq] at hx1
  obtain ⟨rfl, rfl⟩ := hx1
  exact OpenSpec.preRow_of_cond 8 hx (by kernel_rfl) (fun k hk => by cases hk; kernel_rfl) (by kernel_rfl) (laid_met os _)

set_option maxRecDepth 100000 in
theorem lifted (os : Os) (started : os.Started) (H : Type) (enc : TypeId × Value → H) (F : Stop.Interp) :
    ReturnsInHanded {} Tryz.checked os 6 .any ((Rows.OpenSpec.upto Rows.requestHoldsSpec).preRow enc Tryz.prog Tryz.f6 Rows.requestHoldsUptoRow.domain false Rows.requestHoldsUptoRow.laid) (((Rows.OpenSpec.upto Rows.requestHoldsSpec).at F).post enc Tryz.prog Tryz.f6 false true false false) := by
  refine returnsInHanded_of_row (C := Tryz.checked) (s := Rows.OpenSpec.upto Rows.requestHoldsSpec) own started (by kernel_rfl) Tryz.func6
    (witness_row_atRef (enc := enc) (C := Tryz.checked) false (laidWorld os) #[.agg #[.int .i64 0, .int .i64 0, .bool false, .int .i64 0, .int .i64 0, .int .i64 0, .int .i64 0, .int .i64 0, .int .i64 0, .int .i64 0, .int .i64 0, .int .i64 0, .int .i64 0, .slice none 0 0, .bool false, .slice none 0 0, .int .i64 0, .slice none 0 0], .agg #[.int .i64 0, .string ⟨#[]⟩, .string ⟨#[]⟩, .int .i64 0, .int .i64 0], .slice none 0 0] rfl (by kernel_rfl) (by kernel_rfl) (by kernel_rfl) (witness_row os enc)) ?_
  intro W base args ds gs before hval hW _ hk _ _ _ _
  exact contract H enc W base args ds gs before hval hW (hk _ rfl)

theorem over : Rows.requestHoldsUptoRow.holds Tryz.pinned (Rows.OpenSpec.upto Rows.requestHoldsSpec) :=
  OpenClaim.holds_of_cond 6 Tryz.f6 rfl rfl rfl rfl rfl rfl rfl ⟨rfl, rfl, rfl, rfl, rfl⟩ rfl rfl rfl rfl rfl (by kernel_rfl) Tryz.func6 (by kernel_rfl)
    (of_decide_eq_true (by kernel_rfl)) (by unfold Func.isWrapper; first | (rw [if_pos (by decide +kernel)]; kernel_rfl) | (rw [if_neg (by decide +kernel)]; exact ⟨rfl, rfl⟩))
    (fun os started H enc _ F => by rw [OpenClaim.pre_eq_preRow]; exact lifted os started H enc F)

theorem proved : Rows.RequestHoldsUptoCardSaid :=
  Claim7.holds_tied_plain_at .later [] [.data, .pinned] true (true, "472d6e4b87fb0286901671acc141c8681e092b56b8586c0e4e6b8eb56ef3e228") true over (fun _ h => by cases h) (by kernel_rfl) (fun _ h => by cases h) requestHoldsUpto_row_tie rfl ⟨rfl, rfl⟩ (by kernel_rfl) rfl
    (fun f fn hf hfn => by
      obtain rfl : f = 6 := Option.some.inj ((show Tryz.prog.funcNamed "groyne/groynelaw21.RequestHolds" = some 6 by kernel_rfl).symm.trans hf) |>.symm
      obtain rfl : fn = Tryz.f6 := (Option.some.inj (Tryz.func6.symm.trans hfn)).symm
      exact ⟨by kernel_rfl, fun j t ht => by
        rw [Tryz.params6] at ht
        have hm : t ∈ [42, 23, 75] := by simpa using Array.mem_of_getElem? ht
        have hall : ([42, 23, 75].all fun u => !Tryz.prog.wantsStandIn u) = true := by kernel_rfl
        exact (show Tryz.prog.wantsStandIn t = false by simpa using List.all_eq_true.1 hall t hm)⟩)
    (by kernel_rfl)
end Go.Proofs.YthjalhfmpffbjaaGreatDoor.requestHolds
#print axioms Go.Proofs.YthjalhfmpffbjaaGreatDoor.requestHolds.proved
