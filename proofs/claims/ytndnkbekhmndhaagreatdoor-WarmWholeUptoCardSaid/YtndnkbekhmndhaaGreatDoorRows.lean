/-
  NARROWER THAN 'FOR EVERY INPUT', by the rows' own cells (each row's printed sentence says how): RefsAre: laid · WarmIs: laid · WarmSteps: laid · WarmWhole: laid · EvalOrphans: laid · WarmPlans: laid.
  DERIVED. THE GIVEN ROWS OF THIS SEAT. 6 by the template 'for every input the law returns true; each argument reads behind the call as it read before'; 0 by the template 'total and deterministic' (their statements: YtndnkbekhmndhaaGreatDoorTotals.lean).
  GIVEN WITH THE SEED: the statements are not yours to turn. If you find one false, say at which input.
  Laid BY PROGRAM, IN A SANDBOX (cutbox-rows.mjs): the forced cells as the released guide's own fill.sh prints them over the translation 384b82924df0870a… (all of the seat's roots in one cut). By AI agents, Wed Nov 11 2026. No macro, syntax, notation, axiom, sorry.
-/
import Derived.Test.YtndnkbekhmndhaaGreatDoorChecked
import GoSem.PinnedTables
import GoSem.Claim
import GoSem.ClaimJoined
import GoSem.ClaimMapViews
import Derived.JoinedTies
import Derived.KernelRfl
namespace Go.Proofs.YtndnkbekhmndhaaGreatDoor
/- THE CELL 'sum', in the pinned program and in every row, IS THE sha256 OF THE DUMP (.gsa) THAT YtndnkbekhmndhaaGreatDoorProg.lean LOADS. Nothing in Lean hashes anything: it is a label: what it is worth is what the hold of that sum in a sandbox is worth. -/
noncomputable def Tryz.pinned : Pinned := { name := "ytndnkbekhmndhaagreatdoor", sum := "384b82924df0870aff443e2ae1a3bd65535fd44a18448bfb4cf4404d81593b53", checked := Tryz.checked }
namespace Rows
def none {H : Type} : Left H := { results := [], args := [] }

/- WHAT THE LISTED PACKAGE-LEVEL VARIABLES READ AS WHEN THE CALL BEGINS. Each datum BY PROGRAM (the guide's laid-datum.mjs) off the statement by which the dump's own 'gosem.cut.vars' lays the variable. In a bare row this is a premise. The card (YtndnkbekhmndhaaGreatDoorCards.lean) ties it to the program's text. -/
def laid_unicode_utf8_acceptRanges {H : Type} : DataW H := .agg [.agg [.lit (.int .u8 128), .lit (.int .u8 191)], .agg [.lit (.int .u8 160), .lit (.int .u8 191)], .agg [.lit (.int .u8 128), .lit (.int .u8 159)], .agg [.lit (.int .u8 144), .lit (.int .u8 191)], .agg [.lit (.int .u8 128), .lit (.int .u8 143)], .agg [.lit (.int .u8 0), .lit (.int .u8 0)], .agg [.lit (.int .u8 0), .lit (.int .u8 0)], .agg [.lit (.int .u8 0), .lit (.int .u8 0)], .agg [.lit (.int .u8 0), .lit (.int .u8 0)], .agg [.lit (.int .u8 0), .lit (.int .u8 0)], .agg [.lit (.int .u8 0), .lit (.int .u8 0)], .agg [.lit (.int .u8 0), .lit (.int .u8 0)], .agg [.lit (.int .u8 0), .lit (.int .u8 0)], .agg [.lit (.int .u8 0), .lit (.int .u8 0)], .agg [.lit (.int .u8 0), .lit (.int .u8 0)], .agg [.lit (.int .u8 0), .lit (.int .u8 0)]]
/-- One of Go's own tables, pinned by name: the form's constant. -/
def laid_unicode_utf8_first : DataW Unit := Go.Pinned.utf8First

/-- 'groynelaw06.RefsAre': WHATEVER THE INPUT: true; the input reads as it did. -/
def refsAreSpec : ChangeSpec := { name := "refsAre", fn := fun _ => fun
  | [d1, d2] => { results := [.lit (.bool true)], args := [d1, d2] }
  | _ => none }
def refsAreRow : OpenClaim := { program := "ytndnkbekhmndhaagreatdoor", sum := "384b82924df0870aff443e2ae1a3bd65535fd44a18448bfb4cf4404d81593b53", func := "groyne/groynelaw06.RefsAre", spec := "refsAre", inPlace := ["internal/bytealg.IndexByteString", "internal/bytealg.IndexString", "internal/bytealg.abigen_runtime_cmpstring"], unfollowed := true, recurses := true, named := ["unicode/utf8.first", "unicode/utf8.acceptRanges", "internal/bytealg.MaxLen"], plainKeys := false, apart := false, laid := [("unicode/utf8.acceptRanges", laid_unicode_utf8_acceptRanges), ("unicode/utf8.first", laid_unicode_utf8_first)] }
def RefsAreSaid : Prop := refsAreRow.holds Tryz.pinned (OpenSpec.ofChange refsAreSpec)

/-- ITS FALSE NEIGHBOUR: 'it returns false'. Refute it at one input. -/
def refsAreWrong : ChangeSpec := { name := "refsAre", fn := fun _ => fun
  | [d1, d2] => { results := [.lit (.bool false)], args := [d1, d2] }
  | _ => none }
def RefsAreWrongFalsely : Prop := refsAreRow.holds Tryz.pinned (OpenSpec.ofChange refsAreWrong)

/-- 'groynelaw17.WarmIs': WHATEVER THE INPUT: true; the input reads as it did. -/
def warmIsSpec : ChangeSpec := { name := "warmIs", fn := fun _ => fun
  | [d1, d2, d3] => { results := [.lit (.bool true)], args := [d1, d2, d3] }
  | _ => none }
def warmIsRow : OpenClaim := { program := "ytndnkbekhmndhaagreatdoor", sum := "384b82924df0870aff443e2ae1a3bd65535fd44a18448bfb4cf4404d81593b53", func := "groyne/groynelaw17.WarmIs", spec := "warmIs", inPlace := ["internal/bytealg.IndexByteString", "internal/bytealg.IndexString", "internal/bytealg.abigen_runtime_cmpstring"], unfollowed := true, recurses := true, named := ["unicode/utf8.first", "unicode/utf8.acceptRanges", "internal/bytealg.MaxLen"], plainKeys := false, apart := false, laid := [("unicode/utf8.acceptRanges", laid_unicode_utf8_acceptRanges), ("unicode/utf8.first", laid_unicode_utf8_first)] }
def WarmIsSaid : Prop := warmIsRow.holds Tryz.pinned (OpenSpec.ofChange warmIsSpec)

/-- ITS FALSE NEIGHBOUR: 'it returns false'. Refute it at one input. -/
def warmIsWrong : ChangeSpec := { name := "warmIs", fn := fun _ => fun
  | [d1, d2, d3] => { results := [.lit (.bool false)], args := [d1, d2, d3] }
  | _ => none }
def WarmIsWrongFalsely : Prop := warmIsRow.holds Tryz.pinned (OpenSpec.ofChange warmIsWrong)

/-- 'groynelaw17.WarmSteps': WHATEVER THE INPUT: true; the input reads as it did. -/
def warmStepsSpec : ChangeSpec := { name := "warmSteps", fn := fun _ => fun
  | [d1, d2, d3, d4] => { results := [.lit (.bool true)], args := [d1, d2, d3, d4] }
  | _ => none }
def warmStepsRow : OpenClaim := { program := "ytndnkbekhmndhaagreatdoor", sum := "384b82924df0870aff443e2ae1a3bd65535fd44a18448bfb4cf4404d81593b53", func := "groyne/groynelaw17.WarmSteps", spec := "warmSteps", inPlace := ["internal/bytealg.IndexByteString", "internal/bytealg.IndexString", "internal/bytealg.abigen_runtime_cmpstring"], unfollowed := true, recurses := true, named := ["unicode/utf8.first", "unicode/utf8.acceptRanges", "internal/bytealg.MaxLen"], plainKeys := false, apart := false, laid := [("unicode/utf8.acceptRanges", laid_unicode_utf8_acceptRanges), ("unicode/utf8.first", laid_unicode_utf8_first)] }
def WarmStepsSaid : Prop := warmStepsRow.holds Tryz.pinned (OpenSpec.ofChange warmStepsSpec)

/-- ITS FALSE NEIGHBOUR: 'it returns false'. Refute it at one input. -/
def warmStepsWrong : ChangeSpec := { name := "warmSteps", fn := fun _ => fun
  | [d1, d2, d3, d4] => { results := [.lit (.bool false)], args := [d1, d2, d3, d4] }
  | _ => none }
def WarmStepsWrongFalsely : Prop := warmStepsRow.holds Tryz.pinned (OpenSpec.ofChange warmStepsWrong)

/-- 'groynelaw17.WarmWhole': WHATEVER THE INPUT: true; the input reads as it did. -/
def warmWholeSpec : ChangeSpec := { name := "warmWhole", fn := fun _ => fun
  | [d1, d2] => { results := [.lit (.bool true)], args := [d1, d2] }
  | _ => none }
def warmWholeRow : OpenClaim := { program := "ytndnkbekhmndhaagreatdoor", sum := "384b82924df0870aff443e2ae1a3bd65535fd44a18448bfb4cf4404d81593b53", func := "groyne/groynelaw17.WarmWhole", spec := "warmWhole", inPlace := ["internal/bytealg.IndexByteString", "internal/bytealg.IndexString", "internal/bytealg.abigen_runtime_cmpstring"], unfollowed := true, recurses := true, named := ["unicode/utf8.first", "unicode/utf8.acceptRanges", "internal/bytealg.MaxLen"], plainKeys := false, apart := false, laid := [("unicode/utf8.acceptRanges", laid_unicode_utf8_acceptRanges), ("unicode/utf8.first", laid_unicode_utf8_first)] }
def WarmWholeSaid : Prop := warmWholeRow.holds Tryz.pinned (OpenSpec.ofChange warmWholeSpec)

/-- ITS FALSE NEIGHBOUR: 'it returns false'. Refute it at one input. -/
def warmWholeWrong : ChangeSpec := { name := "warmWhole", fn := fun _ => fun
  | [d1, d2] => { results := [.lit (.bool false)], args := [d1, d2] }
  | _ => none }
def WarmWholeWrongFalsely : Prop := warmWholeRow.holds Tryz.pinned (OpenSpec.ofChange warmWholeWrong)

/-- 'groynelaw08.EvalOrphans': WHATEVER THE INPUT: true; the input reads as it did. -/
def evalOrphansSpec : ChangeSpec := { name := "evalOrphans", fn := fun _ => fun
  | [d1, d2, d3] => { results := [.lit (.bool true)], args := [d1, d2, d3] }
  | _ => none }
def evalOrphansRow : OpenClaim := { program := "ytndnkbekhmndhaagreatdoor", sum := "384b82924df0870aff443e2ae1a3bd65535fd44a18448bfb4cf4404d81593b53", func := "groyne/groynelaw08.EvalOrphans", spec := "evalOrphans", inPlace := ["internal/bytealg.IndexByteString", "internal/bytealg.IndexString", "internal/bytealg.abigen_runtime_cmpstring"], unfollowed := true, recurses := true, named := ["unicode/utf8.first", "unicode/utf8.acceptRanges", "internal/bytealg.MaxLen"], plainKeys := false, apart := false, laid := [("unicode/utf8.acceptRanges", laid_unicode_utf8_acceptRanges), ("unicode/utf8.first", laid_unicode_utf8_first)] }
def EvalOrphansSaid : Prop := evalOrphansRow.holds Tryz.pinned (OpenSpec.ofChange evalOrphansSpec)

/-- ITS FALSE NEIGHBOUR: 'it returns false'. Refute it at one input. -/
def evalOrphansWrong : ChangeSpec := { name := "evalOrphans", fn := fun _ => fun
  | [d1, d2, d3] => { results := [.lit (.bool false)], args := [d1, d2, d3] }
  | _ => none }
def EvalOrphansWrongFalsely : Prop := evalOrphansRow.holds Tryz.pinned (OpenSpec.ofChange evalOrphansWrong)

/-- 'groynelaw17.WarmPlans': WHATEVER THE INPUT: true; the input reads as it did. -/
def warmPlansSpec : ChangeSpec := { name := "warmPlans", fn := fun _ => fun
  | [d1, d2] => { results := [.lit (.bool true)], args := [d1, d2] }
  | _ => none }
def warmPlansRow : OpenClaim := { program := "ytndnkbekhmndhaagreatdoor", sum := "384b82924df0870aff443e2ae1a3bd65535fd44a18448bfb4cf4404d81593b53", func := "groyne/groynelaw17.WarmPlans", spec := "warmPlans", inPlace := ["internal/bytealg.IndexByteString", "internal/bytealg.IndexString", "internal/bytealg.abigen_runtime_cmpstring"], unfollowed := true, recurses := true, named := ["unicode/utf8.first", "unicode/utf8.acceptRanges", "internal/bytealg.MaxLen"], plainKeys := false, apart := false, laid := [("unicode/utf8.acceptRanges", laid_unicode_utf8_acceptRanges), ("unicode/utf8.first", laid_unicode_utf8_first)] }
def WarmPlansSaid : Prop := warmPlansRow.holds Tryz.pinned (OpenSpec.ofChange warmPlansSpec)

/-- ITS FALSE NEIGHBOUR: 'it returns false'. Refute it at one input. -/
def warmPlansWrong : ChangeSpec := { name := "warmPlans", fn := fun _ => fun
  | [d1, d2] => { results := [.lit (.bool false)], args := [d1, d2] }
  | _ => none }
def WarmPlansWrongFalsely : Prop := warmPlansRow.holds Tryz.pinned (OpenSpec.ofChange warmPlansWrong)

/- THE SECOND FORM. 'bulk': how many values and letters a reading holds, each counted each time it is reached (what is shared counts as often as it is met; a slice's spare places count too). A statement '..UptoSaid' is the law's where the arguments, and the package variables that the reading takes, are together of bulk at most 1048576: NARROWER than '..Said'. Prove '..Said' where nothing that the law and all that it calls make is longer than what came in: it says more and counts as full. Else prove '..UptoSaid'. A law counts once. -/
mutual
def uptoBulk {H : Type} : DataW H → Nat
  | .lit (.string bytes) => bytes.length + 1
  | .lit _ => 1
  | .nil => 1
  | .ptr d => uptoBulk d + 1
  | .slice elems spare => uptoBulkAll elems + uptoBulkAll spare + 1
  | .agg parts => uptoBulkAll parts + 1
  | .iface _ d => uptoBulk d + 1
  | .map entries => uptoBulkEntries entries + 1
  | .held _ => 1
def uptoBulkAll {H : Type} : List (DataW H) → Nat
  | [] => 0
  | d :: r => uptoBulk d + uptoBulkAll r
def uptoBulkEntries {H : Type} : List (Lit × DataW H) → Nat
  | [] => 0
  | x :: r => uptoBulkEntry x + uptoBulkEntries r
def uptoBulkEntry {H : Type} : Lit × DataW H → Nat
  | (.string bytes, d) => bytes.length + uptoBulk d + 1
  | (_, d) => uptoBulk d + 1
 end
def uptoSmall : (H : Type) → List (DataW H) → Bool := fun _ ds => decide (uptoBulkAll ds ≤ 1048576)
def OpenSpec.upto (s : _root_.Go.ChangeSpec) : _root_.Go.OpenSpec := { _root_.Go.OpenSpec.ofChange s with cond := some uptoSmall }

/-- 'groynelaw06.RefsAre', WHERE WHAT IT READS IS OF BULK AT MOST 1048576: true; the input reads as it did. -/
def refsAreUptoRow : OpenClaim := { program := "ytndnkbekhmndhaagreatdoor", sum := "384b82924df0870aff443e2ae1a3bd65535fd44a18448bfb4cf4404d81593b53", func := "groyne/groynelaw06.RefsAre", spec := "refsAre", inPlace := ["internal/bytealg.IndexByteString", "internal/bytealg.IndexString", "internal/bytealg.abigen_runtime_cmpstring"], unfollowed := true, recurses := true, named := ["unicode/utf8.first", "unicode/utf8.acceptRanges", "internal/bytealg.MaxLen"], plainKeys := false, apart := false, laid := [("unicode/utf8.acceptRanges", laid_unicode_utf8_acceptRanges), ("unicode/utf8.first", laid_unicode_utf8_first)], narrowed := true }
def RefsAreUptoSaid : Prop := refsAreUptoRow.holds Tryz.pinned (OpenSpec.upto refsAreSpec)

/-- 'groynelaw17.WarmIs', WHERE WHAT IT READS IS OF BULK AT MOST 1048576: true; the input reads as it did. -/
def warmIsUptoRow : OpenClaim := { program := "ytndnkbekhmndhaagreatdoor", sum := "384b82924df0870aff443e2ae1a3bd65535fd44a18448bfb4cf4404d81593b53", func := "groyne/groynelaw17.WarmIs", spec := "warmIs", inPlace := ["internal/bytealg.IndexByteString", "internal/bytealg.IndexString", "internal/bytealg.abigen_runtime_cmpstring"], unfollowed := true, recurses := true, named := ["unicode/utf8.first", "unicode/utf8.acceptRanges", "internal/bytealg.MaxLen"], plainKeys := false, apart := false, laid := [("unicode/utf8.acceptRanges", laid_unicode_utf8_acceptRanges), ("unicode/utf8.first", laid_unicode_utf8_first)], narrowed := true }
def WarmIsUptoSaid : Prop := warmIsUptoRow.holds Tryz.pinned (OpenSpec.upto warmIsSpec)

/-- 'groynelaw17.WarmSteps', WHERE WHAT IT READS IS OF BULK AT MOST 1048576: true; the input reads as it did. -/
def warmStepsUptoRow : OpenClaim := { program := "ytndnkbekhmndhaagreatdoor", sum := "384b82924df0870aff443e2ae1a3bd65535fd44a18448bfb4cf4404d81593b53", func := "groyne/groynelaw17.WarmSteps", spec := "warmSteps", inPlace := ["internal/bytealg.IndexByteString", "internal/bytealg.IndexString", "internal/bytealg.abigen_runtime_cmpstring"], unfollowed := true, recurses := true, named := ["unicode/utf8.first", "unicode/utf8.acceptRanges", "internal/bytealg.MaxLen"], plainKeys := false, apart := false, laid := [("unicode/utf8.acceptRanges", laid_unicode_utf8_acceptRanges), ("unicode/utf8.first", laid_unicode_utf8_first)], narrowed := true }
def WarmStepsUptoSaid : Prop := warmStepsUptoRow.holds Tryz.pinned (OpenSpec.upto warmStepsSpec)

/-- 'groynelaw17.WarmWhole', WHERE WHAT IT READS IS OF BULK AT MOST 1048576: true; the input reads as it did. -/
def warmWholeUptoRow : OpenClaim := { program := "ytndnkbekhmndhaagreatdoor", sum := "384b82924df0870aff443e2ae1a3bd65535fd44a18448bfb4cf4404d81593b53", func := "groyne/groynelaw17.WarmWhole", spec := "warmWhole", inPlace := ["internal/bytealg.IndexByteString", "internal/bytealg.IndexString", "internal/bytealg.abigen_runtime_cmpstring"], unfollowed := true, recurses := true, named := ["unicode/utf8.first", "unicode/utf8.acceptRanges", "internal/bytealg.MaxLen"], plainKeys := false, apart := false, laid := [("unicode/utf8.acceptRanges", laid_unicode_utf8_acceptRanges), ("unicode/utf8.first", laid_unicode_utf8_first)], narrowed := true }
def WarmWholeUptoSaid : Prop := warmWholeUptoRow.holds Tryz.pinned (OpenSpec.upto warmWholeSpec)

/-- 'groynelaw08.EvalOrphans', WHERE WHAT IT READS IS OF BULK AT MOST 1048576: true; the input reads as it did. -/
def evalOrphansUptoRow : OpenClaim := { program := "ytndnkbekhmndhaagreatdoor", sum := "384b82924df0870aff443e2ae1a3bd65535fd44a18448bfb4cf4404d81593b53", func := "groyne/groynelaw08.EvalOrphans", spec := "evalOrphans", inPlace := ["internal/bytealg.IndexByteString", "internal/bytealg.IndexString", "internal/bytealg.abigen_runtime_cmpstring"], unfollowed := true, recurses := true, named := ["unicode/utf8.first", "unicode/utf8.acceptRanges", "internal/bytealg.MaxLen"], plainKeys := false, apart := false, laid := [("unicode/utf8.acceptRanges", laid_unicode_utf8_acceptRanges), ("unicode/utf8.first", laid_unicode_utf8_first)], narrowed := true }
def EvalOrphansUptoSaid : Prop := evalOrphansUptoRow.holds Tryz.pinned (OpenSpec.upto evalOrphansSpec)

/-- 'groynelaw17.WarmPlans', WHERE WHAT IT READS IS OF BULK AT MOST 1048576: true; the input reads as it did. -/
def warmPlansUptoRow : OpenClaim := { program := "ytndnkbekhmndhaagreatdoor", sum := "384b82924df0870aff443e2ae1a3bd65535fd44a18448bfb4cf4404d81593b53", func := "groyne/groynelaw17.WarmPlans", spec := "warmPlans", inPlace := ["internal/bytealg.IndexByteString", "internal/bytealg.IndexString", "internal/bytealg.abigen_runtime_cmpstring"], unfollowed := true, recurses := true, named := ["unicode/utf8.first", "unicode/utf8.acceptRanges", "internal/bytealg.MaxLen"], plainKeys := false, apart := false, laid := [("unicode/utf8.acceptRanges", laid_unicode_utf8_acceptRanges), ("unicode/utf8.first", laid_unicode_utf8_first)], narrowed := true }
def WarmPlansUptoSaid : Prop := warmPlansUptoRow.holds Tryz.pinned (OpenSpec.upto warmPlansSpec)

end Rows
end Go.Proofs.YtndnkbekhmndhaaGreatDoor
