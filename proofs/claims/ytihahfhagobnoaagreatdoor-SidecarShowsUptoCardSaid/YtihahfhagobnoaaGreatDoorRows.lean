/-
  NARROWER THAN 'FOR EVERY INPUT', by the rows' own cells (each row's printed sentence says how): SidecarStale: laid · SidecarAgain: laid · SidecarStays: laid · SidecarShows: laid.
  DERIVED. THE GIVEN ROWS OF THIS SEAT. 4 by the template 'for every input the law returns true; each argument reads behind the call as it read before'; 0 by the template 'total and deterministic' (their statements: YtihahfhagobnoaaGreatDoorTotals.lean).
  GIVEN WITH THE SEED: the statements are not yours to turn. If you find one false, say at which input.
  Laid BY PROGRAM, IN A SANDBOX (cutbox-rows.mjs): the forced cells as the released guide's own fill.sh prints them over the translation 0e16b5d265b1dc58… (all of the seat's roots in one cut). By AI agents, Wed Nov 11 2026. No macro, syntax, notation, axiom, sorry.
-/
import Derived.Test.YtihahfhagobnoaaGreatDoorChecked
import GoSem.PinnedTables
import GoSem.Claim
import GoSem.ClaimJoined
import GoSem.ClaimMapViews
import Derived.JoinedTies
import Derived.KernelRfl
namespace Go.Proofs.YtihahfhagobnoaaGreatDoor
/- THE CELL 'sum', in the pinned program and in every row, IS THE sha256 OF THE DUMP (.gsa) THAT YtihahfhagobnoaaGreatDoorProg.lean LOADS. Nothing in Lean hashes anything: it is a label: what it is worth is what the hold of that sum in a sandbox is worth. -/
noncomputable def Tryz.pinned : Pinned := { name := "ytihahfhagobnoaagreatdoor", sum := "0e16b5d265b1dc5807c005eafa6abcd817d5cdc76c84ca742c5cbb4ad2f16781", checked := Tryz.checked }
namespace Rows
def none {H : Type} : Left H := { results := [], args := [] }

/- WHAT THE LISTED PACKAGE-LEVEL VARIABLES READ AS WHEN THE CALL BEGINS. Each datum BY PROGRAM (the guide's laid-datum.mjs) off the statement by which the dump's own 'gosem.cut.vars' lays the variable. In a bare row this is a premise. The card (YtihahfhagobnoaaGreatDoorCards.lean) ties it to the program's text. -/
def laid_unicode_utf8_acceptRanges {H : Type} : DataW H := .agg [.agg [.lit (.int .u8 128), .lit (.int .u8 191)], .agg [.lit (.int .u8 160), .lit (.int .u8 191)], .agg [.lit (.int .u8 128), .lit (.int .u8 159)], .agg [.lit (.int .u8 144), .lit (.int .u8 191)], .agg [.lit (.int .u8 128), .lit (.int .u8 143)], .agg [.lit (.int .u8 0), .lit (.int .u8 0)], .agg [.lit (.int .u8 0), .lit (.int .u8 0)], .agg [.lit (.int .u8 0), .lit (.int .u8 0)], .agg [.lit (.int .u8 0), .lit (.int .u8 0)], .agg [.lit (.int .u8 0), .lit (.int .u8 0)], .agg [.lit (.int .u8 0), .lit (.int .u8 0)], .agg [.lit (.int .u8 0), .lit (.int .u8 0)], .agg [.lit (.int .u8 0), .lit (.int .u8 0)], .agg [.lit (.int .u8 0), .lit (.int .u8 0)], .agg [.lit (.int .u8 0), .lit (.int .u8 0)], .agg [.lit (.int .u8 0), .lit (.int .u8 0)]]
/-- One of Go's own tables, pinned by name: the form's constant. -/
def laid_unicode_utf8_first : DataW Unit := Go.Pinned.utf8First

/-- 'groynelaw19.SidecarStale': WHATEVER THE INPUT: true; the input reads as it did. -/
def sidecarStaleSpec : ChangeSpec := { name := "sidecarStale", fn := fun _ => fun
  | [d1, d2] => { results := [.lit (.bool true)], args := [d1, d2] }
  | _ => none }
def sidecarStaleRow : OpenClaim := { program := "ytihahfhagobnoaagreatdoor", sum := "0e16b5d265b1dc5807c005eafa6abcd817d5cdc76c84ca742c5cbb4ad2f16781", func := "groyne/groynelaw19.SidecarStale", spec := "sidecarStale", inPlace := ["internal/bytealg.IndexByteString", "internal/bytealg.IndexString", "internal/bytealg.abigen_runtime_cmpstring"], unfollowed := true, recurses := true, named := ["unicode/utf8.first", "unicode/utf8.acceptRanges", "internal/bytealg.MaxLen"], plainKeys := false, apart := false, laid := [("unicode/utf8.acceptRanges", laid_unicode_utf8_acceptRanges), ("unicode/utf8.first", laid_unicode_utf8_first)] }
def SidecarStaleSaid : Prop := sidecarStaleRow.holds Tryz.pinned (OpenSpec.ofChange sidecarStaleSpec)

/-- ITS FALSE NEIGHBOUR: 'it returns false'. Refute it at one input. -/
def sidecarStaleWrong : ChangeSpec := { name := "sidecarStale", fn := fun _ => fun
  | [d1, d2] => { results := [.lit (.bool false)], args := [d1, d2] }
  | _ => none }
def SidecarStaleWrongFalsely : Prop := sidecarStaleRow.holds Tryz.pinned (OpenSpec.ofChange sidecarStaleWrong)

/-- 'groynelaw19.SidecarAgain': WHATEVER THE INPUT: true; the input reads as it did. -/
def sidecarAgainSpec : ChangeSpec := { name := "sidecarAgain", fn := fun _ => fun
  | [d1, d2] => { results := [.lit (.bool true)], args := [d1, d2] }
  | _ => none }
def sidecarAgainRow : OpenClaim := { program := "ytihahfhagobnoaagreatdoor", sum := "0e16b5d265b1dc5807c005eafa6abcd817d5cdc76c84ca742c5cbb4ad2f16781", func := "groyne/groynelaw19.SidecarAgain", spec := "sidecarAgain", inPlace := ["internal/bytealg.IndexByteString", "internal/bytealg.IndexString", "internal/bytealg.abigen_runtime_cmpstring"], unfollowed := true, recurses := true, named := ["unicode/utf8.first", "unicode/utf8.acceptRanges", "internal/bytealg.MaxLen"], plainKeys := false, apart := false, laid := [("unicode/utf8.acceptRanges", laid_unicode_utf8_acceptRanges), ("unicode/utf8.first", laid_unicode_utf8_first)] }
def SidecarAgainSaid : Prop := sidecarAgainRow.holds Tryz.pinned (OpenSpec.ofChange sidecarAgainSpec)

/-- ITS FALSE NEIGHBOUR: 'it returns false'. Refute it at one input. -/
def sidecarAgainWrong : ChangeSpec := { name := "sidecarAgain", fn := fun _ => fun
  | [d1, d2] => { results := [.lit (.bool false)], args := [d1, d2] }
  | _ => none }
def SidecarAgainWrongFalsely : Prop := sidecarAgainRow.holds Tryz.pinned (OpenSpec.ofChange sidecarAgainWrong)

/-- 'groynelaw19.SidecarStays': WHATEVER THE INPUT: true; the input reads as it did. -/
def sidecarStaysSpec : ChangeSpec := { name := "sidecarStays", fn := fun _ => fun
  | [d1, d2] => { results := [.lit (.bool true)], args := [d1, d2] }
  | _ => none }
def sidecarStaysRow : OpenClaim := { program := "ytihahfhagobnoaagreatdoor", sum := "0e16b5d265b1dc5807c005eafa6abcd817d5cdc76c84ca742c5cbb4ad2f16781", func := "groyne/groynelaw19.SidecarStays", spec := "sidecarStays", inPlace := ["internal/bytealg.IndexByteString", "internal/bytealg.IndexString", "internal/bytealg.abigen_runtime_cmpstring"], unfollowed := true, recurses := true, named := ["unicode/utf8.first", "unicode/utf8.acceptRanges", "internal/bytealg.MaxLen"], plainKeys := false, apart := false, laid := [("unicode/utf8.acceptRanges", laid_unicode_utf8_acceptRanges), ("unicode/utf8.first", laid_unicode_utf8_first)] }
def SidecarStaysSaid : Prop := sidecarStaysRow.holds Tryz.pinned (OpenSpec.ofChange sidecarStaysSpec)

/-- ITS FALSE NEIGHBOUR: 'it returns false'. Refute it at one input. -/
def sidecarStaysWrong : ChangeSpec := { name := "sidecarStays", fn := fun _ => fun
  | [d1, d2] => { results := [.lit (.bool false)], args := [d1, d2] }
  | _ => none }
def SidecarStaysWrongFalsely : Prop := sidecarStaysRow.holds Tryz.pinned (OpenSpec.ofChange sidecarStaysWrong)

/-- 'groynelaw19.SidecarShows': WHATEVER THE INPUT: true; the input reads as it did. -/
def sidecarShowsSpec : ChangeSpec := { name := "sidecarShows", fn := fun _ => fun
  | [d1, d2, d3] => { results := [.lit (.bool true)], args := [d1, d2, d3] }
  | _ => none }
def sidecarShowsRow : OpenClaim := { program := "ytihahfhagobnoaagreatdoor", sum := "0e16b5d265b1dc5807c005eafa6abcd817d5cdc76c84ca742c5cbb4ad2f16781", func := "groyne/groynelaw19.SidecarShows", spec := "sidecarShows", inPlace := ["internal/bytealg.IndexByteString", "internal/bytealg.IndexString", "internal/bytealg.abigen_runtime_cmpstring"], unfollowed := true, recurses := true, named := ["unicode/utf8.first", "unicode/utf8.acceptRanges", "internal/bytealg.MaxLen"], plainKeys := false, apart := false, laid := [("unicode/utf8.acceptRanges", laid_unicode_utf8_acceptRanges), ("unicode/utf8.first", laid_unicode_utf8_first)] }
def SidecarShowsSaid : Prop := sidecarShowsRow.holds Tryz.pinned (OpenSpec.ofChange sidecarShowsSpec)

/-- ITS FALSE NEIGHBOUR: 'it returns false'. Refute it at one input. -/
def sidecarShowsWrong : ChangeSpec := { name := "sidecarShows", fn := fun _ => fun
  | [d1, d2, d3] => { results := [.lit (.bool false)], args := [d1, d2, d3] }
  | _ => none }
def SidecarShowsWrongFalsely : Prop := sidecarShowsRow.holds Tryz.pinned (OpenSpec.ofChange sidecarShowsWrong)

/- THE SECOND FORM. 'bulk': how many values and letters a reading holds, each counted each time it is reached (what is shared counts as often as it is met; a slice's spare places count too). A statement '..UptoSaid' is the law's where the arguments, and the package variables that the reading takes, are together of bulk at most 1048576: NARROWER than '..Said'. Prove '..Said' where nothing that the law and all that it calls make is longer than what came in: it says more and counts as full. Else prove '..UptoSaid'. A law counts once. -/
mutual
def uptoBulk {H : Type} : DataW H → Nat
  | .lit (.string bytes) => bytes.length + 1
  | .lit _ => 1
  | .nil => 1
  | .ptr d => uptoBulk d + 1
  | .slice elems spare => uptoBulkAll elems + uptoBulkAll spare + 1
  | .agg parts => uptoBulkAll parts + 1
  | .iface _ d => uptoBulk d + 1
  | .map entries => uptoBulkEntries entries + 1
  | .held _ => 1
def uptoBulkAll {H : Type} : List (DataW H) → Nat
  | [] => 0
  | d :: r => uptoBulk d + uptoBulkAll r
def uptoBulkEntries {H : Type} : List (Lit × DataW H) → Nat
  | [] => 0
  | x :: r => uptoBulkEntry x + uptoBulkEntries r
def uptoBulkEntry {H : Type} : Lit × DataW H → Nat
  | (.string bytes, d) => bytes.length + uptoBulk d + 1
  | (_, d) => uptoBulk d + 1
 end
def uptoSmall : (H : Type) → List (DataW H) → Bool := fun _ ds => decide (uptoBulkAll ds ≤ 1048576)
def OpenSpec.upto (s : _root_.Go.ChangeSpec) : _root_.Go.OpenSpec := { _root_.Go.OpenSpec.ofChange s with cond := some uptoSmall }

/-- 'groynelaw19.SidecarStale', WHERE WHAT IT READS IS OF BULK AT MOST 1048576: true; the input reads as it did. -/
def sidecarStaleUptoRow : OpenClaim := { program := "ytihahfhagobnoaagreatdoor", sum := "0e16b5d265b1dc5807c005eafa6abcd817d5cdc76c84ca742c5cbb4ad2f16781", func := "groyne/groynelaw19.SidecarStale", spec := "sidecarStale", inPlace := ["internal/bytealg.IndexByteString", "internal/bytealg.IndexString", "internal/bytealg.abigen_runtime_cmpstring"], unfollowed := true, recurses := true, named := ["unicode/utf8.first", "unicode/utf8.acceptRanges", "internal/bytealg.MaxLen"], plainKeys := false, apart := false, laid := [("unicode/utf8.acceptRanges", laid_unicode_utf8_acceptRanges), ("unicode/utf8.first", laid_unicode_utf8_first)], narrowed := true }
def SidecarStaleUptoSaid : Prop := sidecarStaleUptoRow.holds Tryz.pinned (OpenSpec.upto sidecarStaleSpec)

/-- 'groynelaw19.SidecarAgain', WHERE WHAT IT READS IS OF BULK AT MOST 1048576: true; the input reads as it did. -/
def sidecarAgainUptoRow : OpenClaim := { program := "ytihahfhagobnoaagreatdoor", sum := "0e16b5d265b1dc5807c005eafa6abcd817d5cdc76c84ca742c5cbb4ad2f16781", func := "groyne/groynelaw19.SidecarAgain", spec := "sidecarAgain", inPlace := ["internal/bytealg.IndexByteString", "internal/bytealg.IndexString", "internal/bytealg.abigen_runtime_cmpstring"], unfollowed := true, recurses := true, named := ["unicode/utf8.first", "unicode/utf8.acceptRanges", "internal/bytealg.MaxLen"], plainKeys := false, apart := false, laid := [("unicode/utf8.acceptRanges", laid_unicode_utf8_acceptRanges), ("unicode/utf8.first", laid_unicode_utf8_first)], narrowed := true }
def SidecarAgainUptoSaid : Prop := sidecarAgainUptoRow.holds Tryz.pinned (OpenSpec.upto sidecarAgainSpec)

/-- 'groynelaw19.SidecarStays', WHERE WHAT IT READS IS OF BULK AT MOST 1048576: true; the input reads as it did. -/
def sidecarStaysUptoRow : OpenClaim := { program := "ytihahfhagobnoaagreatdoor", sum := "0e16b5d265b1dc5807c005eafa6abcd817d5cdc76c84ca742c5cbb4ad2f16781", func := "groyne/groynelaw19.SidecarStays", spec := "sidecarStays", inPlace := ["internal/bytealg.IndexByteString", "internal/bytealg.IndexString", "internal/bytealg.abigen_runtime_cmpstring"], unfollowed := true, recurses := true, named := ["unicode/utf8.first", "unicode/utf8.acceptRanges", "internal/bytealg.MaxLen"], plainKeys := false, apart := false, laid := [("unicode/utf8.acceptRanges", laid_unicode_utf8_acceptRanges), ("unicode/utf8.first", laid_unicode_utf8_first)], narrowed := true }
def SidecarStaysUptoSaid : Prop := sidecarStaysUptoRow.holds Tryz.pinned (OpenSpec.upto sidecarStaysSpec)

/-- 'groynelaw19.SidecarShows', WHERE WHAT IT READS IS OF BULK AT MOST 1048576: true; the input reads as it did. -/
def sidecarShowsUptoRow : OpenClaim := { program := "ytihahfhagobnoaagreatdoor", sum := "0e16b5d265b1dc5807c005eafa6abcd817d5cdc76c84ca742c5cbb4ad2f16781", func := "groyne/groynelaw19.SidecarShows", spec := "sidecarShows", inPlace := ["internal/bytealg.IndexByteString", "internal/bytealg.IndexString", "internal/bytealg.abigen_runtime_cmpstring"], unfollowed := true, recurses := true, named := ["unicode/utf8.first", "unicode/utf8.acceptRanges", "internal/bytealg.MaxLen"], plainKeys := false, apart := false, laid := [("unicode/utf8.acceptRanges", laid_unicode_utf8_acceptRanges), ("unicode/utf8.first", laid_unicode_utf8_first)], narrowed := true }
def SidecarShowsUptoSaid : Prop := sidecarShowsUptoRow.holds Tryz.pinned (OpenSpec.upto sidecarShowsSpec)

end Rows
end Go.Proofs.YtihahfhagobnoaaGreatDoor
