/-
  NARROWER THAN 'FOR EVERY INPUT', by the rows' own cells (each row's printed sentence says how): RequestStages: laid · RequestFrees: laid · RequestAll: laid · RequestHolds: laid · RequestOne: laid.
  DERIVED. THE GIVEN ROWS OF THIS SEAT. 5 by the template 'for every input the law returns true; each argument reads behind the call as it read before'; 0 by the template 'total and deterministic' (their statements: YthjalhfmpffbjaaGreatDoorTotals.lean).
  GIVEN WITH THE SEED: the statements are not yours to turn. If you find one false, say at which input.
  Laid BY PROGRAM, IN A SANDBOX (cutbox-rows.mjs): the forced cells as the released guide's own fill.sh prints them over the translation 507ae7d88fbdb005… (all of the seat's roots in one cut). By AI agents, Wed Nov 11 2026. No macro, syntax, notation, axiom, sorry.
-/
import Derived.Test.YthjalhfmpffbjaaGreatDoorChecked
import GoSem.PinnedTables
import GoSem.Claim
import GoSem.ClaimJoined
import GoSem.ClaimMapViews
import Derived.JoinedTies
import Derived.KernelRfl
namespace Go.Proofs.YthjalhfmpffbjaaGreatDoor
/- THE CELL 'sum', in the pinned program and in every row, IS THE sha256 OF THE DUMP (.gsa) THAT YthjalhfmpffbjaaGreatDoorProg.lean LOADS. Nothing in Lean hashes anything: it is a label: what it is worth is what the hold of that sum in a sandbox is worth. -/
noncomputable def Tryz.pinned : Pinned := { name := "ythjalhfmpffbjaagreatdoor", sum := "507ae7d88fbdb00593b8f5b0b60b08963fa338af161c313c1a830021a0a6a2c2", checked := Tryz.checked }
namespace Rows
def none {H : Type} : Left H := { results := [], args := [] }

/- WHAT THE LISTED PACKAGE-LEVEL VARIABLES READ AS WHEN THE CALL BEGINS. Each datum BY PROGRAM (the guide's laid-datum.mjs) off the statement by which the dump's own 'gosem.cut.vars' lays the variable. In a bare row this is a premise. The card (YthjalhfmpffbjaaGreatDoorCards.lean) ties it to the program's text. -/
def laid_unicode_utf8_acceptRanges {H : Type} : DataW H := .agg [.agg [.lit (.int .u8 128), .lit (.int .u8 191)], .agg [.lit (.int .u8 160), .lit (.int .u8 191)], .agg [.lit (.int .u8 128), .lit (.int .u8 159)], .agg [.lit (.int .u8 144), .lit (.int .u8 191)], .agg [.lit (.int .u8 128), .lit (.int .u8 143)], .agg [.lit (.int .u8 0), .lit (.int .u8 0)], .agg [.lit (.int .u8 0), .lit (.int .u8 0)], .agg [.lit (.int .u8 0), .lit (.int .u8 0)], .agg [.lit (.int .u8 0), .lit (.int .u8 0)], .agg [.lit (.int .u8 0), .lit (.int .u8 0)], .agg [.lit (.int .u8 0), .lit (.int .u8 0)], .agg [.lit (.int .u8 0), .lit (.int .u8 0)], .agg [.lit (.int .u8 0), .lit (.int .u8 0)], .agg [.lit (.int .u8 0), .lit (.int .u8 0)], .agg [.lit (.int .u8 0), .lit (.int .u8 0)], .agg [.lit (.int .u8 0), .lit (.int .u8 0)]]
/-- One of Go's own tables, pinned by name: the form's constant. -/
def laid_unicode_utf8_first : DataW Unit := Go.Pinned.utf8First

/-- 'groynelaw21.RequestStages': WHATEVER THE INPUT: true; the input reads as it did. -/
def requestStagesSpec : ChangeSpec := { name := "requestStages", fn := fun _ => fun
  | [d1, d2] => { results := [.lit (.bool true)], args := [d1, d2] }
  | _ => none }
def requestStagesRow : OpenClaim := { program := "ythjalhfmpffbjaagreatdoor", sum := "507ae7d88fbdb00593b8f5b0b60b08963fa338af161c313c1a830021a0a6a2c2", func := "groyne/groynelaw21.RequestStages", spec := "requestStages", inPlace := ["internal/bytealg.IndexByteString", "internal/bytealg.IndexString", "internal/bytealg.abigen_runtime_cmpstring"], unfollowed := true, recurses := true, named := ["unicode/utf8.first", "unicode/utf8.acceptRanges", "internal/bytealg.MaxLen"], plainKeys := false, apart := false, laid := [("unicode/utf8.acceptRanges", laid_unicode_utf8_acceptRanges), ("unicode/utf8.first", laid_unicode_utf8_first)] }
def RequestStagesSaid : Prop := requestStagesRow.holds Tryz.pinned (OpenSpec.ofChange requestStagesSpec)

/-- ITS FALSE NEIGHBOUR: 'it returns false'. Refute it at one input. -/
def requestStagesWrong : ChangeSpec := { name := "requestStages", fn := fun _ => fun
  | [d1, d2] => { results := [.lit (.bool false)], args := [d1, d2] }
  | _ => none }
def RequestStagesWrongFalsely : Prop := requestStagesRow.holds Tryz.pinned (OpenSpec.ofChange requestStagesWrong)

/-- 'groynelaw21.RequestFrees': WHATEVER THE INPUT: true; the input reads as it did. -/
def requestFreesSpec : ChangeSpec := { name := "requestFrees", fn := fun _ => fun
  | [d1, d2] => { results := [.lit (.bool true)], args := [d1, d2] }
  | _ => none }
def requestFreesRow : OpenClaim := { program := "ythjalhfmpffbjaagreatdoor", sum := "507ae7d88fbdb00593b8f5b0b60b08963fa338af161c313c1a830021a0a6a2c2", func := "groyne/groynelaw21.RequestFrees", spec := "requestFrees", inPlace := ["internal/bytealg.IndexByteString", "internal/bytealg.IndexString", "internal/bytealg.abigen_runtime_cmpstring"], unfollowed := true, recurses := true, named := ["unicode/utf8.first", "unicode/utf8.acceptRanges", "internal/bytealg.MaxLen"], plainKeys := false, apart := false, laid := [("unicode/utf8.acceptRanges", laid_unicode_utf8_acceptRanges), ("unicode/utf8.first", laid_unicode_utf8_first)] }
def RequestFreesSaid : Prop := requestFreesRow.holds Tryz.pinned (OpenSpec.ofChange requestFreesSpec)

/-- ITS FALSE NEIGHBOUR: 'it returns false'. Refute it at one input. -/
def requestFreesWrong : ChangeSpec := { name := "requestFrees", fn := fun _ => fun
  | [d1, d2] => { results := [.lit (.bool false)], args := [d1, d2] }
  | _ => none }
def RequestFreesWrongFalsely : Prop := requestFreesRow.holds Tryz.pinned (OpenSpec.ofChange requestFreesWrong)

/-- 'groynelaw21.RequestAll': WHATEVER THE INPUT: true; the input reads as it did. -/
def requestAllSpec : ChangeSpec := { name := "requestAll", fn := fun _ => fun
  | [d1, d2] => { results := [.lit (.bool true)], args := [d1, d2] }
  | _ => none }
def requestAllRow : OpenClaim := { program := "ythjalhfmpffbjaagreatdoor", sum := "507ae7d88fbdb00593b8f5b0b60b08963fa338af161c313c1a830021a0a6a2c2", func := "groyne/groynelaw21.RequestAll", spec := "requestAll", inPlace := ["internal/bytealg.IndexByteString", "internal/bytealg.IndexString", "internal/bytealg.abigen_runtime_cmpstring"], unfollowed := true, recurses := true, named := ["unicode/utf8.first", "unicode/utf8.acceptRanges", "internal/bytealg.MaxLen"], plainKeys := false, apart := false, laid := [("unicode/utf8.acceptRanges", laid_unicode_utf8_acceptRanges), ("unicode/utf8.first", laid_unicode_utf8_first)] }
def RequestAllSaid : Prop := requestAllRow.holds Tryz.pinned (OpenSpec.ofChange requestAllSpec)

/-- ITS FALSE NEIGHBOUR: 'it returns false'. Refute it at one input. -/
def requestAllWrong : ChangeSpec := { name := "requestAll", fn := fun _ => fun
  | [d1, d2] => { results := [.lit (.bool false)], args := [d1, d2] }
  | _ => none }
def RequestAllWrongFalsely : Prop := requestAllRow.holds Tryz.pinned (OpenSpec.ofChange requestAllWrong)

/-- 'groynelaw21.RequestHolds': WHATEVER THE INPUT: true; the input reads as it did. -/
def requestHoldsSpec : ChangeSpec := { name := "requestHolds", fn := fun _ => fun
  | [d1, d2, d3] => { results := [.lit (.bool true)], args := [d1, d2, d3] }
  | _ => none }
def requestHoldsRow : OpenClaim := { program := "ythjalhfmpffbjaagreatdoor", sum := "507ae7d88fbdb00593b8f5b0b60b08963fa338af161c313c1a830021a0a6a2c2", func := "groyne/groynelaw21.RequestHolds", spec := "requestHolds", inPlace := ["internal/bytealg.IndexByteString", "internal/bytealg.IndexString", "internal/bytealg.abigen_runtime_cmpstring"], unfollowed := true, recurses := true, named := ["unicode/utf8.first", "unicode/utf8.acceptRanges", "internal/bytealg.MaxLen"], plainKeys := false, apart := false, laid := [("unicode/utf8.acceptRanges", laid_unicode_utf8_acceptRanges), ("unicode/utf8.first", laid_unicode_utf8_first)] }
def RequestHoldsSaid : Prop := requestHoldsRow.holds Tryz.pinned (OpenSpec.ofChange requestHoldsSpec)

/-- ITS FALSE NEIGHBOUR: 'it returns false'. Refute it at one input. -/
def requestHoldsWrong : ChangeSpec := { name := "requestHolds", fn := fun _ => fun
  | [d1, d2, d3] => { results := [.lit (.bool false)], args := [d1, d2, d3] }
  | _ => none }
def RequestHoldsWrongFalsely : Prop := requestHoldsRow.holds Tryz.pinned (OpenSpec.ofChange requestHoldsWrong)

/-- 'groynelaw21.RequestOne': WHATEVER THE INPUT: true; the input reads as it did. -/
def requestOneSpec : ChangeSpec := { name := "requestOne", fn := fun _ => fun
  | [d1, d2, d3] => { results := [.lit (.bool true)], args := [d1, d2, d3] }
  | _ => none }
def requestOneRow : OpenClaim := { program := "ythjalhfmpffbjaagreatdoor", sum := "507ae7d88fbdb00593b8f5b0b60b08963fa338af161c313c1a830021a0a6a2c2", func := "groyne/groynelaw21.RequestOne", spec := "requestOne", inPlace := ["internal/bytealg.IndexByteString", "internal/bytealg.IndexString", "internal/bytealg.abigen_runtime_cmpstring"], unfollowed := true, recurses := true, named := ["unicode/utf8.first", "unicode/utf8.acceptRanges", "internal/bytealg.MaxLen"], plainKeys := false, apart := false, laid := [("unicode/utf8.acceptRanges", laid_unicode_utf8_acceptRanges), ("unicode/utf8.first", laid_unicode_utf8_first)] }
def RequestOneSaid : Prop := requestOneRow.holds Tryz.pinned (OpenSpec.ofChange requestOneSpec)

/-- ITS FALSE NEIGHBOUR: 'it returns false'. Refute it at one input. -/
def requestOneWrong : ChangeSpec := { name := "requestOne", fn := fun _ => fun
  | [d1, d2, d3] => { results := [.lit (.bool false)], args := [d1, d2, d3] }
  | _ => none }
def RequestOneWrongFalsely : Prop := requestOneRow.holds Tryz.pinned (OpenSpec.ofChange requestOneWrong)

/- THE SECOND FORM. 'bulk': how many values and letters a reading holds, each counted each time it is reached (what is shared counts as often as it is met; a slice's spare places count too). A statement '..UptoSaid' is the law's where the arguments, and the package variables that the reading takes, are together of bulk at most 1048576: NARROWER than '..Said'. Prove '..Said' where nothing that the law and all that it calls make is longer than what came in: it says more and counts as full. Else prove '..UptoSaid'. A law counts once. -/
mutual
def uptoBulk {H : Type} : DataW H → Nat
  | .lit (.string bytes) => bytes.length + 1
  | .lit _ => 1
  | .nil => 1
  | .ptr d => uptoBulk d + 1
  | .slice elems spare => uptoBulkAll elems + uptoBulkAll spare + 1
  | .agg parts => uptoBulkAll parts + 1
  | .iface _ d => uptoBulk d + 1
  | .map entries => uptoBulkEntries entries + 1
  | .held _ => 1
def uptoBulkAll {H : Type} : List (DataW H) → Nat
  | [] => 0
  | d :: r => uptoBulk d + uptoBulkAll r
def uptoBulkEntries {H : Type} : List (Lit × DataW H) → Nat
  | [] => 0
  | x :: r => uptoBulkEntry x + uptoBulkEntries r
def uptoBulkEntry {H : Type} : Lit × DataW H → Nat
  | (.string bytes, d) => bytes.length + uptoBulk d + 1
  | (_, d) => uptoBulk d + 1
 end
def uptoSmall : (H : Type) → List (DataW H) → Bool := fun _ ds => decide (uptoBulkAll ds ≤ 1048576)
def OpenSpec.upto (s : _root_.Go.ChangeSpec) : _root_.Go.OpenSpec := { _root_.Go.OpenSpec.ofChange s with cond := some uptoSmall }

/-- 'groynelaw21.RequestStages', WHERE WHAT IT READS IS OF BULK AT MOST 1048576: true; the input reads as it did. -/
def requestStagesUptoRow : OpenClaim := { program := "ythjalhfmpffbjaagreatdoor", sum := "507ae7d88fbdb00593b8f5b0b60b08963fa338af161c313c1a830021a0a6a2c2", func := "groyne/groynelaw21.RequestStages", spec := "requestStages", inPlace := ["internal/bytealg.IndexByteString", "internal/bytealg.IndexString", "internal/bytealg.abigen_runtime_cmpstring"], unfollowed := true, recurses := true, named := ["unicode/utf8.first", "unicode/utf8.acceptRanges", "internal/bytealg.MaxLen"], plainKeys := false, apart := false, laid := [("unicode/utf8.acceptRanges", laid_unicode_utf8_acceptRanges), ("unicode/utf8.first", laid_unicode_utf8_first)], narrowed := true }
def RequestStagesUptoSaid : Prop := requestStagesUptoRow.holds Tryz.pinned (OpenSpec.upto requestStagesSpec)

/-- 'groynelaw21.RequestFrees', WHERE WHAT IT READS IS OF BULK AT MOST 1048576: true; the input reads as it did. -/
def requestFreesUptoRow : OpenClaim := { program := "ythjalhfmpffbjaagreatdoor", sum := "507ae7d88fbdb00593b8f5b0b60b08963fa338af161c313c1a830021a0a6a2c2", func := "groyne/groynelaw21.RequestFrees", spec := "requestFrees", inPlace := ["internal/bytealg.IndexByteString", "internal/bytealg.IndexString", "internal/bytealg.abigen_runtime_cmpstring"], unfollowed := true, recurses := true, named := ["unicode/utf8.first", "unicode/utf8.acceptRanges", "internal/bytealg.MaxLen"], plainKeys := false, apart := false, laid := [("unicode/utf8.acceptRanges", laid_unicode_utf8_acceptRanges), ("unicode/utf8.first", laid_unicode_utf8_first)], narrowed := true }
def RequestFreesUptoSaid : Prop := requestFreesUptoRow.holds Tryz.pinned (OpenSpec.upto requestFreesSpec)

/-- 'groynelaw21.RequestAll', WHERE WHAT IT READS IS OF BULK AT MOST 1048576: true; the input reads as it did. -/
def requestAllUptoRow : OpenClaim := { program := "ythjalhfmpffbjaagreatdoor", sum := "507ae7d88fbdb00593b8f5b0b60b08963fa338af161c313c1a830021a0a6a2c2", func := "groyne/groynelaw21.RequestAll", spec := "requestAll", inPlace := ["internal/bytealg.IndexByteString", "internal/bytealg.IndexString", "internal/bytealg.abigen_runtime_cmpstring"], unfollowed := true, recurses := true, named := ["unicode/utf8.first", "unicode/utf8.acceptRanges", "internal/bytealg.MaxLen"], plainKeys := false, apart := false, laid := [("unicode/utf8.acceptRanges", laid_unicode_utf8_acceptRanges), ("unicode/utf8.first", laid_unicode_utf8_first)], narrowed := true }
def RequestAllUptoSaid : Prop := requestAllUptoRow.holds Tryz.pinned (OpenSpec.upto requestAllSpec)

/-- 'groynelaw21.RequestHolds', WHERE WHAT IT READS IS OF BULK AT MOST 1048576: true; the input reads as it did. -/
def requestHoldsUptoRow : OpenClaim := { program := "ythjalhfmpffbjaagreatdoor", sum := "507ae7d88fbdb00593b8f5b0b60b08963fa338af161c313c1a830021a0a6a2c2", func := "groyne/groynelaw21.RequestHolds", spec := "requestHolds", inPlace := ["internal/bytealg.IndexByteString", "internal/bytealg.IndexString", "internal/bytealg.abigen_runtime_cmpstring"], unfollowed := true, recurses := true, named := ["unicode/utf8.first", "unicode/utf8.acceptRanges", "internal/bytealg.MaxLen"], plainKeys := false, apart := false, laid := [("unicode/utf8.acceptRanges", laid_unicode_utf8_acceptRanges), ("unicode/utf8.first", laid_unicode_utf8_first)], narrowed := true }
def RequestHoldsUptoSaid : Prop := requestHoldsUptoRow.holds Tryz.pinned (OpenSpec.upto requestHoldsSpec)

/-- 'groynelaw21.RequestOne', WHERE WHAT IT READS IS OF BULK AT MOST 1048576: true; the input reads as it did. -/
def requestOneUptoRow : OpenClaim := { program := "ythjalhfmpffbjaagreatdoor", sum := "507ae7d88fbdb00593b8f5b0b60b08963fa338af161c313c1a830021a0a6a2c2", func := "groyne/groynelaw21.RequestOne", spec := "requestOne", inPlace := ["internal/bytealg.IndexByteString", "internal/bytealg.IndexString", "internal/bytealg.abigen_runtime_cmpstring"], unfollowed := true, recurses := true, named := ["unicode/utf8.first", "unicode/utf8.acceptRanges", "internal/bytealg.MaxLen"], plainKeys := false, apart := false, laid := [("unicode/utf8.acceptRanges", laid_unicode_utf8_acceptRanges), ("unicode/utf8.first", laid_unicode_utf8_first)], narrowed := true }
def RequestOneUptoSaid : Prop := requestOneUptoRow.holds Tryz.pinned (OpenSpec.upto requestOneSpec)

end Rows
end Go.Proofs.YthjalhfmpffbjaaGreatDoor
