/-
  NARROWER THAN 'FOR EVERY INPUT', by the rows' own cells (each row's printed sentence says how): EvalGood: laid · EvalFinds: laid · EvalDraws: laid · EvalEmpty: laid · EvalOrphans: laid.
  DERIVED. THE GIVEN ROWS OF THIS SEAT. 5 by the template 'for every input the law returns true; each argument reads behind the call as it read before'; 0 by the template 'total and deterministic' (their statements: YtdhbkffionmmaaaGreatDoorTotals.lean).
  GIVEN WITH THE SEED: the statements are not yours to turn. If you find one false, say at which input.
  Laid BY PROGRAM, IN A SANDBOX (cutbox-rows.mjs): the forced cells as the released guide's own fill.sh prints them over the translation 791a98ca1ed98a67… (all of the seat's roots in one cut). By AI agents, Wed Nov 11 2026. No macro, syntax, notation, axiom, sorry.
-/
import Derived.Test.YtdhbkffionmmaaaGreatDoorChecked
import GoSem.PinnedTables
import GoSem.Claim
import GoSem.ClaimJoined
import GoSem.ClaimMapViews
import Derived.JoinedTies
import Derived.KernelRfl
namespace Go.Proofs.YtdhbkffionmmaaaGreatDoor
/- THE CELL 'sum', in the pinned program and in every row, IS THE sha256 OF THE DUMP (.gsa) THAT YtdhbkffionmmaaaGreatDoorProg.lean LOADS. Nothing in Lean hashes anything: it is a label: what it is worth is what the hold of that sum in a sandbox is worth. -/
noncomputable def Tryz.pinned : Pinned := { name := "ytdhbkffionmmaaagreatdoor", sum := "791a98ca1ed98a676404508c5aa4b81e9d7d1229b70a381c1778adb6f07f5168", checked := Tryz.checked }
namespace Rows
def none {H : Type} : Left H := { results := [], args := [] }

/- WHAT THE LISTED PACKAGE-LEVEL VARIABLES READ AS WHEN THE CALL BEGINS. Each datum BY PROGRAM (the guide's laid-datum.mjs) off the statement by which the dump's own 'gosem.cut.vars' lays the variable. In a bare row this is a premise. The card (YtdhbkffionmmaaaGreatDoorCards.lean) ties it to the program's text. -/
def laid_unicode_utf8_acceptRanges {H : Type} : DataW H := .agg [.agg [.lit (.int .u8 128), .lit (.int .u8 191)], .agg [.lit (.int .u8 160), .lit (.int .u8 191)], .agg [.lit (.int .u8 128), .lit (.int .u8 159)], .agg [.lit (.int .u8 144), .lit (.int .u8 191)], .agg [.lit (.int .u8 128), .lit (.int .u8 143)], .agg [.lit (.int .u8 0), .lit (.int .u8 0)], .agg [.lit (.int .u8 0), .lit (.int .u8 0)], .agg [.lit (.int .u8 0), .lit (.int .u8 0)], .agg [.lit (.int .u8 0), .lit (.int .u8 0)], .agg [.lit (.int .u8 0), .lit (.int .u8 0)], .agg [.lit (.int .u8 0), .lit (.int .u8 0)], .agg [.lit (.int .u8 0), .lit (.int .u8 0)], .agg [.lit (.int .u8 0), .lit (.int .u8 0)], .agg [.lit (.int .u8 0), .lit (.int .u8 0)], .agg [.lit (.int .u8 0), .lit (.int .u8 0)], .agg [.lit (.int .u8 0), .lit (.int .u8 0)]]
/-- One of Go's own tables, pinned by name: the form's constant. -/
def laid_unicode_utf8_first : DataW Unit := Go.Pinned.utf8First

/-- 'groynelaw08.EvalGood': WHATEVER THE INPUT: true; the input reads as it did. -/
def evalGoodSpec : ChangeSpec := { name := "evalGood", fn := fun _ => fun
  | [d1, d2] => { results := [.lit (.bool true)], args := [d1, d2] }
  | _ => none }
def evalGoodRow : OpenClaim := { program := "ytdhbkffionmmaaagreatdoor", sum := "791a98ca1ed98a676404508c5aa4b81e9d7d1229b70a381c1778adb6f07f5168", func := "groyne/groynelaw08.EvalGood", spec := "evalGood", inPlace := ["internal/bytealg.IndexByteString", "internal/bytealg.IndexString", "internal/bytealg.abigen_runtime_cmpstring"], unfollowed := true, recurses := true, named := ["unicode/utf8.first", "unicode/utf8.acceptRanges", "internal/bytealg.MaxLen"], plainKeys := false, apart := false, laid := [("unicode/utf8.acceptRanges", laid_unicode_utf8_acceptRanges), ("unicode/utf8.first", laid_unicode_utf8_first)] }
def EvalGoodSaid : Prop := evalGoodRow.holds Tryz.pinned (OpenSpec.ofChange evalGoodSpec)

/-- ITS FALSE NEIGHBOUR: 'it returns false'. Refute it at one input. -/
def evalGoodWrong : ChangeSpec := { name := "evalGood", fn := fun _ => fun
  | [d1, d2] => { results := [.lit (.bool false)], args := [d1, d2] }
  | _ => none }
def EvalGoodWrongFalsely : Prop := evalGoodRow.holds Tryz.pinned (OpenSpec.ofChange evalGoodWrong)

/-- 'groynelaw08.EvalFinds': WHATEVER THE INPUT: true; the input reads as it did. -/
def evalFindsSpec : ChangeSpec := { name := "evalFinds", fn := fun _ => fun
  | [d1, d2] => { results := [.lit (.bool true)], args := [d1, d2] }
  | _ => none }
def evalFindsRow : OpenClaim := { program := "ytdhbkffionmmaaagreatdoor", sum := "791a98ca1ed98a676404508c5aa4b81e9d7d1229b70a381c1778adb6f07f5168", func := "groyne/groynelaw08.EvalFinds", spec := "evalFinds", inPlace := ["internal/bytealg.IndexByteString", "internal/bytealg.IndexString", "internal/bytealg.abigen_runtime_cmpstring"], unfollowed := true, recurses := true, named := ["unicode/utf8.first", "unicode/utf8.acceptRanges", "internal/bytealg.MaxLen"], plainKeys := false, apart := false, laid := [("unicode/utf8.acceptRanges", laid_unicode_utf8_acceptRanges), ("unicode/utf8.first", laid_unicode_utf8_first)] }
def EvalFindsSaid : Prop := evalFindsRow.holds Tryz.pinned (OpenSpec.ofChange evalFindsSpec)

/-- ITS FALSE NEIGHBOUR: 'it returns false'. Refute it at one input. -/
def evalFindsWrong : ChangeSpec := { name := "evalFinds", fn := fun _ => fun
  | [d1, d2] => { results := [.lit (.bool false)], args := [d1, d2] }
  | _ => none }
def EvalFindsWrongFalsely : Prop := evalFindsRow.holds Tryz.pinned (OpenSpec.ofChange evalFindsWrong)

/-- 'groynelaw08.EvalDraws': WHATEVER THE INPUT: true; the input reads as it did. -/
def evalDrawsSpec : ChangeSpec := { name := "evalDraws", fn := fun _ => fun
  | [d1, d2, d3, d4] => { results := [.lit (.bool true)], args := [d1, d2, d3, d4] }
  | _ => none }
def evalDrawsRow : OpenClaim := { program := "ytdhbkffionmmaaagreatdoor", sum := "791a98ca1ed98a676404508c5aa4b81e9d7d1229b70a381c1778adb6f07f5168", func := "groyne/groynelaw08.EvalDraws", spec := "evalDraws", inPlace := ["internal/bytealg.IndexByteString", "internal/bytealg.IndexString", "internal/bytealg.abigen_runtime_cmpstring"], unfollowed := true, recurses := true, named := ["unicode/utf8.first", "unicode/utf8.acceptRanges", "internal/bytealg.MaxLen"], plainKeys := false, apart := false, laid := [("unicode/utf8.acceptRanges", laid_unicode_utf8_acceptRanges), ("unicode/utf8.first", laid_unicode_utf8_first)] }
def EvalDrawsSaid : Prop := evalDrawsRow.holds Tryz.pinned (OpenSpec.ofChange evalDrawsSpec)

/-- ITS FALSE NEIGHBOUR: 'it returns false'. Refute it at one input. -/
def evalDrawsWrong : ChangeSpec := { name := "evalDraws", fn := fun _ => fun
  | [d1, d2, d3, d4] => { results := [.lit (.bool false)], args := [d1, d2, d3, d4] }
  | _ => none }
def EvalDrawsWrongFalsely : Prop := evalDrawsRow.holds Tryz.pinned (OpenSpec.ofChange evalDrawsWrong)

/-- 'groynelaw08.EvalEmpty': WHATEVER THE INPUT: true; the input reads as it did. -/
def evalEmptySpec : ChangeSpec := { name := "evalEmpty", fn := fun _ => fun
  | [d1, d2] => { results := [.lit (.bool true)], args := [d1, d2] }
  | _ => none }
def evalEmptyRow : OpenClaim := { program := "ytdhbkffionmmaaagreatdoor", sum := "791a98ca1ed98a676404508c5aa4b81e9d7d1229b70a381c1778adb6f07f5168", func := "groyne/groynelaw08.EvalEmpty", spec := "evalEmpty", inPlace := ["internal/bytealg.IndexByteString", "internal/bytealg.IndexString", "internal/bytealg.abigen_runtime_cmpstring"], unfollowed := true, recurses := true, named := ["unicode/utf8.first", "unicode/utf8.acceptRanges", "internal/bytealg.MaxLen"], plainKeys := false, apart := false, laid := [("unicode/utf8.acceptRanges", laid_unicode_utf8_acceptRanges), ("unicode/utf8.first", laid_unicode_utf8_first)] }
def EvalEmptySaid : Prop := evalEmptyRow.holds Tryz.pinned (OpenSpec.ofChange evalEmptySpec)

/-- ITS FALSE NEIGHBOUR: 'it returns false'. Refute it at one input. -/
def evalEmptyWrong : ChangeSpec := { name := "evalEmpty", fn := fun _ => fun
  | [d1, d2] => { results := [.lit (.bool false)], args := [d1, d2] }
  | _ => none }
def EvalEmptyWrongFalsely : Prop := evalEmptyRow.holds Tryz.pinned (OpenSpec.ofChange evalEmptyWrong)

/-- 'groynelaw08.EvalOrphans': WHATEVER THE INPUT: true; the input reads as it did. -/
def evalOrphansSpec : ChangeSpec := { name := "evalOrphans", fn := fun _ => fun
  | [d1, d2, d3] => { results := [.lit (.bool true)], args := [d1, d2, d3] }
  | _ => none }
def evalOrphansRow : OpenClaim := { program := "ytdhbkffionmmaaagreatdoor", sum := "791a98ca1ed98a676404508c5aa4b81e9d7d1229b70a381c1778adb6f07f5168", func := "groyne/groynelaw08.EvalOrphans", spec := "evalOrphans", inPlace := ["internal/bytealg.IndexByteString", "internal/bytealg.IndexString", "internal/bytealg.abigen_runtime_cmpstring"], unfollowed := true, recurses := true, named := ["unicode/utf8.first", "unicode/utf8.acceptRanges", "internal/bytealg.MaxLen"], plainKeys := false, apart := false, laid := [("unicode/utf8.acceptRanges", laid_unicode_utf8_acceptRanges), ("unicode/utf8.first", laid_unicode_utf8_first)] }
def EvalOrphansSaid : Prop := evalOrphansRow.holds Tryz.pinned (OpenSpec.ofChange evalOrphansSpec)

/-- ITS FALSE NEIGHBOUR: 'it returns false'. Refute it at one input. -/
def evalOrphansWrong : ChangeSpec := { name := "evalOrphans", fn := fun _ => fun
  | [d1, d2, d3] => { results := [.lit (.bool false)], args := [d1, d2, d3] }
  | _ => none }
def EvalOrphansWrongFalsely : Prop := evalOrphansRow.holds Tryz.pinned (OpenSpec.ofChange evalOrphansWrong)

/- THE SECOND FORM. 'bulk': how many values and letters a reading holds, each counted each time it is reached (what is shared counts as often as it is met; a slice's spare places count too). A statement '..UptoSaid' is the law's where the arguments, and the package variables that the reading takes, are together of bulk at most 1048576: NARROWER than '..Said'. Prove '..Said' where nothing that the law and all that it calls make is longer than what came in: it says more and counts as full. Else prove '..UptoSaid'. A law counts once. -/
mutual
def uptoBulk {H : Type} : DataW H → Nat
  | .lit (.string bytes) => bytes.length + 1
  | .lit _ => 1
  | .nil => 1
  | .ptr d => uptoBulk d + 1
  | .slice elems spare => uptoBulkAll elems + uptoBulkAll spare + 1
  | .agg parts => uptoBulkAll parts + 1
  | .iface _ d => uptoBulk d + 1
  | .map entries => uptoBulkEntries entries + 1
  | .held _ => 1
def uptoBulkAll {H : Type} : List (DataW H) → Nat
  | [] => 0
  | d :: r => uptoBulk d + uptoBulkAll r
def uptoBulkEntries {H : Type} : List (Lit × DataW H) → Nat
  | [] => 0
  | x :: r => uptoBulkEntry x + uptoBulkEntries r
def uptoBulkEntry {H : Type} : Lit × DataW H → Nat
  | (.string bytes, d) => bytes.length + uptoBulk d + 1
  | (_, d) => uptoBulk d + 1
 end
def uptoSmall : (H : Type) → List (DataW H) → Bool := fun _ ds => decide (uptoBulkAll ds ≤ 1048576)
def OpenSpec.upto (s : _root_.Go.ChangeSpec) : _root_.Go.OpenSpec := { _root_.Go.OpenSpec.ofChange s with cond := some uptoSmall }

/-- 'groynelaw08.EvalGood', WHERE WHAT IT READS IS OF BULK AT MOST 1048576: true; the input reads as it did. -/
def evalGoodUptoRow : OpenClaim := { program := "ytdhbkffionmmaaagreatdoor", sum := "791a98ca1ed98a676404508c5aa4b81e9d7d1229b70a381c1778adb6f07f5168", func := "groyne/groynelaw08.EvalGood", spec := "evalGood", inPlace := ["internal/bytealg.IndexByteString", "internal/bytealg.IndexString", "internal/bytealg.abigen_runtime_cmpstring"], unfollowed := true, recurses := true, named := ["unicode/utf8.first", "unicode/utf8.acceptRanges", "internal/bytealg.MaxLen"], plainKeys := false, apart := false, laid := [("unicode/utf8.acceptRanges", laid_unicode_utf8_acceptRanges), ("unicode/utf8.first", laid_unicode_utf8_first)], narrowed := true }
def EvalGoodUptoSaid : Prop := evalGoodUptoRow.holds Tryz.pinned (OpenSpec.upto evalGoodSpec)

/-- 'groynelaw08.EvalFinds', WHERE WHAT IT READS IS OF BULK AT MOST 1048576: true; the input reads as it did. -/
def evalFindsUptoRow : OpenClaim := { program := "ytdhbkffionmmaaagreatdoor", sum := "791a98ca1ed98a676404508c5aa4b81e9d7d1229b70a381c1778adb6f07f5168", func := "groyne/groynelaw08.EvalFinds", spec := "evalFinds", inPlace := ["internal/bytealg.IndexByteString", "internal/bytealg.IndexString", "internal/bytealg.abigen_runtime_cmpstring"], unfollowed := true, recurses := true, named := ["unicode/utf8.first", "unicode/utf8.acceptRanges", "internal/bytealg.MaxLen"], plainKeys := false, apart := false, laid := [("unicode/utf8.acceptRanges", laid_unicode_utf8_acceptRanges), ("unicode/utf8.first", laid_unicode_utf8_first)], narrowed := true }
def EvalFindsUptoSaid : Prop := evalFindsUptoRow.holds Tryz.pinned (OpenSpec.upto evalFindsSpec)

/-- 'groynelaw08.EvalDraws', WHERE WHAT IT READS IS OF BULK AT MOST 1048576: true; the input reads as it did. -/
def evalDrawsUptoRow : OpenClaim := { program := "ytdhbkffionmmaaagreatdoor", sum := "791a98ca1ed98a676404508c5aa4b81e9d7d1229b70a381c1778adb6f07f5168", func := "groyne/groynelaw08.EvalDraws", spec := "evalDraws", inPlace := ["internal/bytealg.IndexByteString", "internal/bytealg.IndexString", "internal/bytealg.abigen_runtime_cmpstring"], unfollowed := true, recurses := true, named := ["unicode/utf8.first", "unicode/utf8.acceptRanges", "internal/bytealg.MaxLen"], plainKeys := false, apart := false, laid := [("unicode/utf8.acceptRanges", laid_unicode_utf8_acceptRanges), ("unicode/utf8.first", laid_unicode_utf8_first)], narrowed := true }
def EvalDrawsUptoSaid : Prop := evalDrawsUptoRow.holds Tryz.pinned (OpenSpec.upto evalDrawsSpec)

/-- 'groynelaw08.EvalEmpty', WHERE WHAT IT READS IS OF BULK AT MOST 1048576: true; the input reads as it did. -/
def evalEmptyUptoRow : OpenClaim := { program := "ytdhbkffionmmaaagreatdoor", sum := "791a98ca1ed98a676404508c5aa4b81e9d7d1229b70a381c1778adb6f07f5168", func := "groyne/groynelaw08.EvalEmpty", spec := "evalEmpty", inPlace := ["internal/bytealg.IndexByteString", "internal/bytealg.IndexString", "internal/bytealg.abigen_runtime_cmpstring"], unfollowed := true, recurses := true, named := ["unicode/utf8.first", "unicode/utf8.acceptRanges", "internal/bytealg.MaxLen"], plainKeys := false, apart := false, laid := [("unicode/utf8.acceptRanges", laid_unicode_utf8_acceptRanges), ("unicode/utf8.first", laid_unicode_utf8_first)], narrowed := true }
def EvalEmptyUptoSaid : Prop := evalEmptyUptoRow.holds Tryz.pinned (OpenSpec.upto evalEmptySpec)

/-- 'groynelaw08.EvalOrphans', WHERE WHAT IT READS IS OF BULK AT MOST 1048576: true; the input reads as it did. -/
def evalOrphansUptoRow : OpenClaim := { program := "ytdhbkffionmmaaagreatdoor", sum := "791a98ca1ed98a676404508c5aa4b81e9d7d1229b70a381c1778adb6f07f5168", func := "groyne/groynelaw08.EvalOrphans", spec := "evalOrphans", inPlace := ["internal/bytealg.IndexByteString", "internal/bytealg.IndexString", "internal/bytealg.abigen_runtime_cmpstring"], unfollowed := true, recurses := true, named := ["unicode/utf8.first", "unicode/utf8.acceptRanges", "internal/bytealg.MaxLen"], plainKeys := false, apart := false, laid := [("unicode/utf8.acceptRanges", laid_unicode_utf8_acceptRanges), ("unicode/utf8.first", laid_unicode_utf8_first)], narrowed := true }
def EvalOrphansUptoSaid : Prop := evalOrphansUptoRow.holds Tryz.pinned (OpenSpec.upto evalOrphansSpec)

end Rows
end Go.Proofs.YtdhbkffionmmaaaGreatDoor
