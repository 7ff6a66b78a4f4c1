/-
  NARROWER THAN 'FOR EVERY INPUT', by the rows' own cells (each row's printed sentence says how): ResIs: laid · RefsAre: laid · RefsOrder: laid · RefsReach: laid · RefsTaken: laid · RefsMissing: laid · RefsLines: laid.
  DERIVED. THE GIVEN ROWS OF THIS SEAT. 7 by the template 'for every input the law returns true; each argument reads behind the call as it read before'; 0 by the template 'total and deterministic' (their statements: YtbmdbkgjgjggiaaGreatDoorTotals.lean).
  GIVEN WITH THE SEED: the statements are not yours to turn. If you find one false, say at which input.
  Laid BY PROGRAM, IN A SANDBOX (cutbox-rows.mjs): the forced cells as the released guide's own fill.sh prints them over the translation 46769fdb96047057… (all of the seat's roots in one cut). By AI agents, Wed Nov 11 2026. No macro, syntax, notation, axiom, sorry.
-/
import Derived.Test.YtbmdbkgjgjggiaaGreatDoorChecked
import GoSem.PinnedTables
import GoSem.Claim
import GoSem.ClaimJoined
import GoSem.ClaimMapViews
import Derived.JoinedTies
import Derived.KernelRfl
namespace Go.Proofs.YtbmdbkgjgjggiaaGreatDoor
/- THE CELL 'sum', in the pinned program and in every row, IS THE sha256 OF THE DUMP (.gsa) THAT YtbmdbkgjgjggiaaGreatDoorProg.lean LOADS. Nothing in Lean hashes anything: it is a label: what it is worth is what the hold of that sum in a sandbox is worth. -/
noncomputable def Tryz.pinned : Pinned := { name := "ytbmdbkgjgjggiaagreatdoor", sum := "46769fdb960470577ce90259377114109de031a7cab381165ac14c90bee809c9", checked := Tryz.checked }
namespace Rows
def none {H : Type} : Left H := { results := [], args := [] }

/- WHAT THE LISTED PACKAGE-LEVEL VARIABLES READ AS WHEN THE CALL BEGINS. Each datum BY PROGRAM (the guide's laid-datum.mjs) off the statement by which the dump's own 'gosem.cut.vars' lays the variable. In a bare row this is a premise. The card (YtbmdbkgjgjggiaaGreatDoorCards.lean) ties it to the program's text. -/
def laid_unicode_utf8_acceptRanges {H : Type} : DataW H := .agg [.agg [.lit (.int .u8 128), .lit (.int .u8 191)], .agg [.lit (.int .u8 160), .lit (.int .u8 191)], .agg [.lit (.int .u8 128), .lit (.int .u8 159)], .agg [.lit (.int .u8 144), .lit (.int .u8 191)], .agg [.lit (.int .u8 128), .lit (.int .u8 143)], .agg [.lit (.int .u8 0), .lit (.int .u8 0)], .agg [.lit (.int .u8 0), .lit (.int .u8 0)], .agg [.lit (.int .u8 0), .lit (.int .u8 0)], .agg [.lit (.int .u8 0), .lit (.int .u8 0)], .agg [.lit (.int .u8 0), .lit (.int .u8 0)], .agg [.lit (.int .u8 0), .lit (.int .u8 0)], .agg [.lit (.int .u8 0), .lit (.int .u8 0)], .agg [.lit (.int .u8 0), .lit (.int .u8 0)], .agg [.lit (.int .u8 0), .lit (.int .u8 0)], .agg [.lit (.int .u8 0), .lit (.int .u8 0)], .agg [.lit (.int .u8 0), .lit (.int .u8 0)]]
/-- One of Go's own tables, pinned by name: the form's constant. -/
def laid_unicode_utf8_first : DataW Unit := Go.Pinned.utf8First

/-- 'groynelaw03.ResIs': WHATEVER THE INPUT: true; the input reads as it did. -/
def resIsSpec : ChangeSpec := { name := "resIs", fn := fun _ => fun
  | [d1, d2, d3, d4] => { results := [.lit (.bool true)], args := [d1, d2, d3, d4] }
  | _ => none }
def resIsRow : OpenClaim := { program := "ytbmdbkgjgjggiaagreatdoor", sum := "46769fdb960470577ce90259377114109de031a7cab381165ac14c90bee809c9", func := "groyne/groynelaw03.ResIs", spec := "resIs", inPlace := ["internal/bytealg.IndexByteString", "internal/bytealg.IndexString", "internal/bytealg.abigen_runtime_cmpstring"], unfollowed := true, recurses := true, named := ["unicode/utf8.first", "unicode/utf8.acceptRanges", "internal/bytealg.MaxLen"], plainKeys := false, apart := false, laid := [("unicode/utf8.acceptRanges", laid_unicode_utf8_acceptRanges), ("unicode/utf8.first", laid_unicode_utf8_first)] }
def ResIsSaid : Prop := resIsRow.holds Tryz.pinned (OpenSpec.ofChange resIsSpec)

/-- ITS FALSE NEIGHBOUR: 'it returns false'. Refute it at one input. -/
def resIsWrong : ChangeSpec := { name := "resIs", fn := fun _ => fun
  | [d1, d2, d3, d4] => { results := [.lit (.bool false)], args := [d1, d2, d3, d4] }
  | _ => none }
def ResIsWrongFalsely : Prop := resIsRow.holds Tryz.pinned (OpenSpec.ofChange resIsWrong)

/-- 'groynelaw06.RefsAre': WHATEVER THE INPUT: true; the input reads as it did. -/
def refsAreSpec : ChangeSpec := { name := "refsAre", fn := fun _ => fun
  | [d1, d2] => { results := [.lit (.bool true)], args := [d1, d2] }
  | _ => none }
def refsAreRow : OpenClaim := { program := "ytbmdbkgjgjggiaagreatdoor", sum := "46769fdb960470577ce90259377114109de031a7cab381165ac14c90bee809c9", func := "groyne/groynelaw06.RefsAre", spec := "refsAre", inPlace := ["internal/bytealg.IndexByteString", "internal/bytealg.IndexString", "internal/bytealg.abigen_runtime_cmpstring"], unfollowed := true, recurses := true, named := ["unicode/utf8.first", "unicode/utf8.acceptRanges", "internal/bytealg.MaxLen"], plainKeys := false, apart := false, laid := [("unicode/utf8.acceptRanges", laid_unicode_utf8_acceptRanges), ("unicode/utf8.first", laid_unicode_utf8_first)] }
def RefsAreSaid : Prop := refsAreRow.holds Tryz.pinned (OpenSpec.ofChange refsAreSpec)

/-- ITS FALSE NEIGHBOUR: 'it returns false'. Refute it at one input. -/
def refsAreWrong : ChangeSpec := { name := "refsAre", fn := fun _ => fun
  | [d1, d2] => { results := [.lit (.bool false)], args := [d1, d2] }
  | _ => none }
def RefsAreWrongFalsely : Prop := refsAreRow.holds Tryz.pinned (OpenSpec.ofChange refsAreWrong)

/-- 'groynelaw06.RefsOrder': WHATEVER THE INPUT: true; the input reads as it did. -/
def refsOrderSpec : ChangeSpec := { name := "refsOrder", fn := fun _ => fun
  | [d] => { results := [.lit (.bool true)], args := [d] }
  | _ => none }
def refsOrderRow : OpenClaim := { program := "ytbmdbkgjgjggiaagreatdoor", sum := "46769fdb960470577ce90259377114109de031a7cab381165ac14c90bee809c9", func := "groyne/groynelaw06.RefsOrder", spec := "refsOrder", inPlace := ["internal/bytealg.IndexByteString", "internal/bytealg.IndexString", "internal/bytealg.abigen_runtime_cmpstring"], unfollowed := true, recurses := true, named := ["unicode/utf8.first", "unicode/utf8.acceptRanges", "internal/bytealg.MaxLen"], plainKeys := false, apart := false, laid := [("unicode/utf8.acceptRanges", laid_unicode_utf8_acceptRanges), ("unicode/utf8.first", laid_unicode_utf8_first)] }
def RefsOrderSaid : Prop := refsOrderRow.holds Tryz.pinned (OpenSpec.ofChange refsOrderSpec)

/-- ITS FALSE NEIGHBOUR: 'it returns false'. Refute it at one input. -/
def refsOrderWrong : ChangeSpec := { name := "refsOrder", fn := fun _ => fun
  | [d] => { results := [.lit (.bool false)], args := [d] }
  | _ => none }
def RefsOrderWrongFalsely : Prop := refsOrderRow.holds Tryz.pinned (OpenSpec.ofChange refsOrderWrong)

/-- 'groynelaw06.RefsReach': WHATEVER THE INPUT: true; the input reads as it did. -/
def refsReachSpec : ChangeSpec := { name := "refsReach", fn := fun _ => fun
  | [d] => { results := [.lit (.bool true)], args := [d] }
  | _ => none }
def refsReachRow : OpenClaim := { program := "ytbmdbkgjgjggiaagreatdoor", sum := "46769fdb960470577ce90259377114109de031a7cab381165ac14c90bee809c9", func := "groyne/groynelaw06.RefsReach", spec := "refsReach", inPlace := ["internal/bytealg.IndexByteString", "internal/bytealg.IndexString", "internal/bytealg.abigen_runtime_cmpstring"], unfollowed := true, recurses := true, named := ["unicode/utf8.first", "unicode/utf8.acceptRanges", "internal/bytealg.MaxLen"], plainKeys := false, apart := false, laid := [("unicode/utf8.acceptRanges", laid_unicode_utf8_acceptRanges), ("unicode/utf8.first", laid_unicode_utf8_first)] }
def RefsReachSaid : Prop := refsReachRow.holds Tryz.pinned (OpenSpec.ofChange refsReachSpec)

/-- ITS FALSE NEIGHBOUR: 'it returns false'. Refute it at one input. -/
def refsReachWrong : ChangeSpec := { name := "refsReach", fn := fun _ => fun
  | [d] => { results := [.lit (.bool false)], args := [d] }
  | _ => none }
def RefsReachWrongFalsely : Prop := refsReachRow.holds Tryz.pinned (OpenSpec.ofChange refsReachWrong)

/-- 'groynelaw06.RefsTaken': WHATEVER THE INPUT: true; the input reads as it did. -/
def refsTakenSpec : ChangeSpec := { name := "refsTaken", fn := fun _ => fun
  | [d1, d2] => { results := [.lit (.bool true)], args := [d1, d2] }
  | _ => none }
def refsTakenRow : OpenClaim := { program := "ytbmdbkgjgjggiaagreatdoor", sum := "46769fdb960470577ce90259377114109de031a7cab381165ac14c90bee809c9", func := "groyne/groynelaw06.RefsTaken", spec := "refsTaken", inPlace := ["internal/bytealg.IndexByteString", "internal/bytealg.IndexString", "internal/bytealg.abigen_runtime_cmpstring"], unfollowed := true, recurses := true, named := ["unicode/utf8.first", "unicode/utf8.acceptRanges", "internal/bytealg.MaxLen"], plainKeys := false, apart := false, laid := [("unicode/utf8.acceptRanges", laid_unicode_utf8_acceptRanges), ("unicode/utf8.first", laid_unicode_utf8_first)] }
def RefsTakenSaid : Prop := refsTakenRow.holds Tryz.pinned (OpenSpec.ofChange refsTakenSpec)

/-- ITS FALSE NEIGHBOUR: 'it returns false'. Refute it at one input. -/
def refsTakenWrong : ChangeSpec := { name := "refsTaken", fn := fun _ => fun
  | [d1, d2] => { results := [.lit (.bool false)], args := [d1, d2] }
  | _ => none }
def RefsTakenWrongFalsely : Prop := refsTakenRow.holds Tryz.pinned (OpenSpec.ofChange refsTakenWrong)

/-- 'groynelaw06.RefsMissing': WHATEVER THE INPUT: true; the input reads as it did. -/
def refsMissingSpec : ChangeSpec := { name := "refsMissing", fn := fun _ => fun
  | [d1, d2] => { results := [.lit (.bool true)], args := [d1, d2] }
  | _ => none }
def refsMissingRow : OpenClaim := { program := "ytbmdbkgjgjggiaagreatdoor", sum := "46769fdb960470577ce90259377114109de031a7cab381165ac14c90bee809c9", func := "groyne/groynelaw06.RefsMissing", spec := "refsMissing", inPlace := ["internal/bytealg.IndexByteString", "internal/bytealg.IndexString", "internal/bytealg.abigen_runtime_cmpstring"], unfollowed := true, recurses := true, named := ["unicode/utf8.first", "unicode/utf8.acceptRanges", "internal/bytealg.MaxLen"], plainKeys := false, apart := false, laid := [("unicode/utf8.acceptRanges", laid_unicode_utf8_acceptRanges), ("unicode/utf8.first", laid_unicode_utf8_first)] }
def RefsMissingSaid : Prop := refsMissingRow.holds Tryz.pinned (OpenSpec.ofChange refsMissingSpec)

/-- ITS FALSE NEIGHBOUR: 'it returns false'. Refute it at one input. -/
def refsMissingWrong : ChangeSpec := { name := "refsMissing", fn := fun _ => fun
  | [d1, d2] => { results := [.lit (.bool false)], args := [d1, d2] }
  | _ => none }
def RefsMissingWrongFalsely : Prop := refsMissingRow.holds Tryz.pinned (OpenSpec.ofChange refsMissingWrong)

/-- 'groynelaw06.RefsLines': WHATEVER THE INPUT: true; the input reads as it did. -/
def refsLinesSpec : ChangeSpec := { name := "refsLines", fn := fun _ => fun
  | [d] => { results := [.lit (.bool true)], args := [d] }
  | _ => none }
def refsLinesRow : OpenClaim := { program := "ytbmdbkgjgjggiaagreatdoor", sum := "46769fdb960470577ce90259377114109de031a7cab381165ac14c90bee809c9", func := "groyne/groynelaw06.RefsLines", spec := "refsLines", inPlace := ["internal/bytealg.IndexByteString", "internal/bytealg.IndexString", "internal/bytealg.abigen_runtime_cmpstring"], unfollowed := true, recurses := true, named := ["unicode/utf8.first", "unicode/utf8.acceptRanges", "internal/bytealg.MaxLen"], plainKeys := false, apart := false, laid := [("unicode/utf8.acceptRanges", laid_unicode_utf8_acceptRanges), ("unicode/utf8.first", laid_unicode_utf8_first)] }
def RefsLinesSaid : Prop := refsLinesRow.holds Tryz.pinned (OpenSpec.ofChange refsLinesSpec)

/-- ITS FALSE NEIGHBOUR: 'it returns false'. Refute it at one input. -/
def refsLinesWrong : ChangeSpec := { name := "refsLines", fn := fun _ => fun
  | [d] => { results := [.lit (.bool false)], args := [d] }
  | _ => none }
def RefsLinesWrongFalsely : Prop := refsLinesRow.holds Tryz.pinned (OpenSpec.ofChange refsLinesWrong)

/- THE SECOND FORM. 'bulk': how many values and letters a reading holds, each counted each time it is reached (what is shared counts as often as it is met; a slice's spare places count too). A statement '..UptoSaid' is the law's where the arguments, and the package variables that the reading takes, are together of bulk at most 1048576: NARROWER than '..Said'. Prove '..Said' where nothing that the law and all that it calls make is longer than what came in: it says more and counts as full. Else prove '..UptoSaid'. A law counts once. -/
mutual
def uptoBulk {H : Type} : DataW H → Nat
  | .lit (.string bytes) => bytes.length + 1
  | .lit _ => 1
  | .nil => 1
  | .ptr d => uptoBulk d + 1
  | .slice elems spare => uptoBulkAll elems + uptoBulkAll spare + 1
  | .agg parts => uptoBulkAll parts + 1
  | .iface _ d => uptoBulk d + 1
  | .map entries => uptoBulkEntries entries + 1
  | .held _ => 1
def uptoBulkAll {H : Type} : List (DataW H) → Nat
  | [] => 0
  | d :: r => uptoBulk d + uptoBulkAll r
def uptoBulkEntries {H : Type} : List (Lit × DataW H) → Nat
  | [] => 0
  | x :: r => uptoBulkEntry x + uptoBulkEntries r
def uptoBulkEntry {H : Type} : Lit × DataW H → Nat
  | (.string bytes, d) => bytes.length + uptoBulk d + 1
  | (_, d) => uptoBulk d + 1
 end
def uptoSmall : (H : Type) → List (DataW H) → Bool := fun _ ds => decide (uptoBulkAll ds ≤ 1048576)
def OpenSpec.upto (s : _root_.Go.ChangeSpec) : _root_.Go.OpenSpec := { _root_.Go.OpenSpec.ofChange s with cond := some uptoSmall }

/-- 'groynelaw03.ResIs', WHERE WHAT IT READS IS OF BULK AT MOST 1048576: true; the input reads as it did. -/
def resIsUptoRow : OpenClaim := { program := "ytbmdbkgjgjggiaagreatdoor", sum := "46769fdb960470577ce90259377114109de031a7cab381165ac14c90bee809c9", func := "groyne/groynelaw03.ResIs", spec := "resIs", inPlace := ["internal/bytealg.IndexByteString", "internal/bytealg.IndexString", "internal/bytealg.abigen_runtime_cmpstring"], unfollowed := true, recurses := true, named := ["unicode/utf8.first", "unicode/utf8.acceptRanges", "internal/bytealg.MaxLen"], plainKeys := false, apart := false, laid := [("unicode/utf8.acceptRanges", laid_unicode_utf8_acceptRanges), ("unicode/utf8.first", laid_unicode_utf8_first)], narrowed := true }
def ResIsUptoSaid : Prop := resIsUptoRow.holds Tryz.pinned (OpenSpec.upto resIsSpec)

/-- 'groynelaw06.RefsAre', WHERE WHAT IT READS IS OF BULK AT MOST 1048576: true; the input reads as it did. -/
def refsAreUptoRow : OpenClaim := { program := "ytbmdbkgjgjggiaagreatdoor", sum := "46769fdb960470577ce90259377114109de031a7cab381165ac14c90bee809c9", func := "groyne/groynelaw06.RefsAre", spec := "refsAre", inPlace := ["internal/bytealg.IndexByteString", "internal/bytealg.IndexString", "internal/bytealg.abigen_runtime_cmpstring"], unfollowed := true, recurses := true, named := ["unicode/utf8.first", "unicode/utf8.acceptRanges", "internal/bytealg.MaxLen"], plainKeys := false, apart := false, laid := [("unicode/utf8.acceptRanges", laid_unicode_utf8_acceptRanges), ("unicode/utf8.first", laid_unicode_utf8_first)], narrowed := true }
def RefsAreUptoSaid : Prop := refsAreUptoRow.holds Tryz.pinned (OpenSpec.upto refsAreSpec)

/-- 'groynelaw06.RefsOrder', WHERE WHAT IT READS IS OF BULK AT MOST 1048576: true; the input reads as it did. -/
def refsOrderUptoRow : OpenClaim := { program := "ytbmdbkgjgjggiaagreatdoor", sum := "46769fdb960470577ce90259377114109de031a7cab381165ac14c90bee809c9", func := "groyne/groynelaw06.RefsOrder", spec := "refsOrder", inPlace := ["internal/bytealg.IndexByteString", "internal/bytealg.IndexString", "internal/bytealg.abigen_runtime_cmpstring"], unfollowed := true, recurses := true, named := ["unicode/utf8.first", "unicode/utf8.acceptRanges", "internal/bytealg.MaxLen"], plainKeys := false, apart := false, laid := [("unicode/utf8.acceptRanges", laid_unicode_utf8_acceptRanges), ("unicode/utf8.first", laid_unicode_utf8_first)], narrowed := true }
def RefsOrderUptoSaid : Prop := refsOrderUptoRow.holds Tryz.pinned (OpenSpec.upto refsOrderSpec)

/-- 'groynelaw06.RefsReach', WHERE WHAT IT READS IS OF BULK AT MOST 1048576: true; the input reads as it did. -/
def refsReachUptoRow : OpenClaim := { program := "ytbmdbkgjgjggiaagreatdoor", sum := "46769fdb960470577ce90259377114109de031a7cab381165ac14c90bee809c9", func := "groyne/groynelaw06.RefsReach", spec := "refsReach", inPlace := ["internal/bytealg.IndexByteString", "internal/bytealg.IndexString", "internal/bytealg.abigen_runtime_cmpstring"], unfollowed := true, recurses := true, named := ["unicode/utf8.first", "unicode/utf8.acceptRanges", "internal/bytealg.MaxLen"], plainKeys := false, apart := false, laid := [("unicode/utf8.acceptRanges", laid_unicode_utf8_acceptRanges), ("unicode/utf8.first", laid_unicode_utf8_first)], narrowed := true }
def RefsReachUptoSaid : Prop := refsReachUptoRow.holds Tryz.pinned (OpenSpec.upto refsReachSpec)

/-- 'groynelaw06.RefsTaken', WHERE WHAT IT READS IS OF BULK AT MOST 1048576: true; the input reads as it did. -/
def refsTakenUptoRow : OpenClaim := { program := "ytbmdbkgjgjggiaagreatdoor", sum := "46769fdb960470577ce90259377114109de031a7cab381165ac14c90bee809c9", func := "groyne/groynelaw06.RefsTaken", spec := "refsTaken", inPlace := ["internal/bytealg.IndexByteString", "internal/bytealg.IndexString", "internal/bytealg.abigen_runtime_cmpstring"], unfollowed := true, recurses := true, named := ["unicode/utf8.first", "unicode/utf8.acceptRanges", "internal/bytealg.MaxLen"], plainKeys := false, apart := false, laid := [("unicode/utf8.acceptRanges", laid_unicode_utf8_acceptRanges), ("unicode/utf8.first", laid_unicode_utf8_first)], narrowed := true }
def RefsTakenUptoSaid : Prop := refsTakenUptoRow.holds Tryz.pinned (OpenSpec.upto refsTakenSpec)

/-- 'groynelaw06.RefsMissing', WHERE WHAT IT READS IS OF BULK AT MOST 1048576: true; the input reads as it did. -/
def refsMissingUptoRow : OpenClaim := { program := "ytbmdbkgjgjggiaagreatdoor", sum := "46769fdb960470577ce90259377114109de031a7cab381165ac14c90bee809c9", func := "groyne/groynelaw06.RefsMissing", spec := "refsMissing", inPlace := ["internal/bytealg.IndexByteString", "internal/bytealg.IndexString", "internal/bytealg.abigen_runtime_cmpstring"], unfollowed := true, recurses := true, named := ["unicode/utf8.first", "unicode/utf8.acceptRanges", "internal/bytealg.MaxLen"], plainKeys := false, apart := false, laid := [("unicode/utf8.acceptRanges", laid_unicode_utf8_acceptRanges), ("unicode/utf8.first", laid_unicode_utf8_first)], narrowed := true }
def RefsMissingUptoSaid : Prop := refsMissingUptoRow.holds Tryz.pinned (OpenSpec.upto refsMissingSpec)

/-- 'groynelaw06.RefsLines', WHERE WHAT IT READS IS OF BULK AT MOST 1048576: true; the input reads as it did. -/
def refsLinesUptoRow : OpenClaim := { program := "ytbmdbkgjgjggiaagreatdoor", sum := "46769fdb960470577ce90259377114109de031a7cab381165ac14c90bee809c9", func := "groyne/groynelaw06.RefsLines", spec := "refsLines", inPlace := ["internal/bytealg.IndexByteString", "internal/bytealg.IndexString", "internal/bytealg.abigen_runtime_cmpstring"], unfollowed := true, recurses := true, named := ["unicode/utf8.first", "unicode/utf8.acceptRanges", "internal/bytealg.MaxLen"], plainKeys := false, apart := false, laid := [("unicode/utf8.acceptRanges", laid_unicode_utf8_acceptRanges), ("unicode/utf8.first", laid_unicode_utf8_first)], narrowed := true }
def RefsLinesUptoSaid : Prop := refsLinesUptoRow.holds Tryz.pinned (OpenSpec.upto refsLinesSpec)

end Rows
end Go.Proofs.YtbmdbkgjgjggiaaGreatDoor
