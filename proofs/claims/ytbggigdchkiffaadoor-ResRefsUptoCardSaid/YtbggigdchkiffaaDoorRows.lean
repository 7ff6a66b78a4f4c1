/-
  NARROWER THAN 'FOR EVERY INPUT', by the rows' own cells (each row's printed sentence says how): ResRefs: laid · ResNames: laid · ResSame: laid · ResOrder: laid · ResKinds: laid · ResTwice: laid.
  DERIVED. THE GIVEN ROWS OF THIS SEAT. 6 by the template 'for every input the law returns true; each argument reads behind the call as it read before'; 0 by the template 'total and deterministic' (their statements: YtbggigdchkiffaaDoorTotals.lean).
  GIVEN WITH THE SEED: the statements are not yours to turn. If you find one false, say at which input.
  Laid BY PROGRAM, IN A SANDBOX (cutbox-rows.mjs): the forced cells as the released guide's own fill.sh prints them over the translation 02c541aacf3d6443… (all of the seat's roots in one cut). By AI agents, Wed Nov 11 2026. No macro, syntax, notation, axiom, sorry.
-/
import Derived.Test.YtbggigdchkiffaaDoorChecked
import GoSem.PinnedTables
import GoSem.Claim
import GoSem.ClaimJoined
import GoSem.ClaimMapViews
import Derived.JoinedTies
import Derived.KernelRfl
namespace Go.Proofs.YtbggigdchkiffaaDoor
/- THE CELL 'sum', in the pinned program and in every row, IS THE sha256 OF THE DUMP (.gsa) THAT YtbggigdchkiffaaDoorProg.lean LOADS. Nothing in Lean hashes anything: it is a label: what it is worth is what the hold of that sum in a sandbox is worth. -/
noncomputable def Tryd.pinned : Pinned := { name := "ytbggigdchkiffaadoor", sum := "02c541aacf3d64432ff33dcad5809414040faeae5909084e395049cb522d1567", checked := Tryd.checked }
namespace Rows
def none {H : Type} : Left H := { results := [], args := [] }

/- WHAT THE LISTED PACKAGE-LEVEL VARIABLES READ AS WHEN THE CALL BEGINS. Each datum BY PROGRAM (the guide's laid-datum.mjs) off the statement by which the dump's own 'gosem.cut.vars' lays the variable. In a bare row this is a premise. The card (YtbggigdchkiffaaDoorCards.lean) ties it to the program's text. -/
def laid_unicode_utf8_acceptRanges {H : Type} : DataW H := .agg [.agg [.lit (.int .u8 128), .lit (.int .u8 191)], .agg [.lit (.int .u8 160), .lit (.int .u8 191)], .agg [.lit (.int .u8 128), .lit (.int .u8 159)], .agg [.lit (.int .u8 144), .lit (.int .u8 191)], .agg [.lit (.int .u8 128), .lit (.int .u8 143)], .agg [.lit (.int .u8 0), .lit (.int .u8 0)], .agg [.lit (.int .u8 0), .lit (.int .u8 0)], .agg [.lit (.int .u8 0), .lit (.int .u8 0)], .agg [.lit (.int .u8 0), .lit (.int .u8 0)], .agg [.lit (.int .u8 0), .lit (.int .u8 0)], .agg [.lit (.int .u8 0), .lit (.int .u8 0)], .agg [.lit (.int .u8 0), .lit (.int .u8 0)], .agg [.lit (.int .u8 0), .lit (.int .u8 0)], .agg [.lit (.int .u8 0), .lit (.int .u8 0)], .agg [.lit (.int .u8 0), .lit (.int .u8 0)], .agg [.lit (.int .u8 0), .lit (.int .u8 0)]]
/-- One of Go's own tables, pinned by name: the form's constant. -/
def laid_unicode_utf8_first : DataW Unit := Go.Pinned.utf8First

/-- 'groynelaw03.ResRefs': WHATEVER THE INPUT: true; the input reads as it did. -/
def resRefsSpec : ChangeSpec := { name := "resRefs", fn := fun _ => fun
  | [d] => { results := [.lit (.bool true)], args := [d] }
  | _ => none }
def resRefsRow : OpenClaim := { program := "ytbggigdchkiffaadoor", sum := "02c541aacf3d64432ff33dcad5809414040faeae5909084e395049cb522d1567", func := "groyne/groynelaw03.ResRefs", spec := "resRefs", inPlace := ["internal/bytealg.IndexByteString", "internal/bytealg.IndexString", "internal/bytealg.abigen_runtime_cmpstring"], unfollowed := true, recurses := true, named := ["unicode/utf8.first", "unicode/utf8.acceptRanges", "internal/bytealg.MaxLen"], apart := false, laid := [("unicode/utf8.acceptRanges", laid_unicode_utf8_acceptRanges), ("unicode/utf8.first", laid_unicode_utf8_first)] }
def ResRefsSaid : Prop := resRefsRow.holds Tryd.pinned (OpenSpec.ofChange resRefsSpec)

/-- ITS FALSE NEIGHBOUR: 'it returns false'. Refute it at one input. -/
def resRefsWrong : ChangeSpec := { name := "resRefs", fn := fun _ => fun
  | [d] => { results := [.lit (.bool false)], args := [d] }
  | _ => none }
def ResRefsWrongFalsely : Prop := resRefsRow.holds Tryd.pinned (OpenSpec.ofChange resRefsWrong)

/-- 'groynelaw03.ResNames': WHATEVER THE INPUT: true; the input reads as it did. -/
def resNamesSpec : ChangeSpec := { name := "resNames", fn := fun _ => fun
  | [d1, d2] => { results := [.lit (.bool true)], args := [d1, d2] }
  | _ => none }
def resNamesRow : OpenClaim := { program := "ytbggigdchkiffaadoor", sum := "02c541aacf3d64432ff33dcad5809414040faeae5909084e395049cb522d1567", func := "groyne/groynelaw03.ResNames", spec := "resNames", inPlace := ["internal/bytealg.IndexByteString", "internal/bytealg.IndexString", "internal/bytealg.abigen_runtime_cmpstring"], unfollowed := true, recurses := true, named := ["unicode/utf8.first", "unicode/utf8.acceptRanges", "internal/bytealg.MaxLen"], apart := false, laid := [("unicode/utf8.acceptRanges", laid_unicode_utf8_acceptRanges), ("unicode/utf8.first", laid_unicode_utf8_first)] }
def ResNamesSaid : Prop := resNamesRow.holds Tryd.pinned (OpenSpec.ofChange resNamesSpec)

/-- ITS FALSE NEIGHBOUR: 'it returns false'. Refute it at one input. -/
def resNamesWrong : ChangeSpec := { name := "resNames", fn := fun _ => fun
  | [d1, d2] => { results := [.lit (.bool false)], args := [d1, d2] }
  | _ => none }
def ResNamesWrongFalsely : Prop := resNamesRow.holds Tryd.pinned (OpenSpec.ofChange resNamesWrong)

/-- 'groynelaw03.ResSame': WHATEVER THE INPUT: true; the input reads as it did. -/
def resSameSpec : ChangeSpec := { name := "resSame", fn := fun _ => fun
  | [d1, d2] => { results := [.lit (.bool true)], args := [d1, d2] }
  | _ => none }
def resSameRow : OpenClaim := { program := "ytbggigdchkiffaadoor", sum := "02c541aacf3d64432ff33dcad5809414040faeae5909084e395049cb522d1567", func := "groyne/groynelaw03.ResSame", spec := "resSame", inPlace := ["internal/bytealg.IndexByteString", "internal/bytealg.IndexString", "internal/bytealg.abigen_runtime_cmpstring"], unfollowed := true, recurses := true, named := ["unicode/utf8.first", "unicode/utf8.acceptRanges", "internal/bytealg.MaxLen"], apart := false, laid := [("unicode/utf8.acceptRanges", laid_unicode_utf8_acceptRanges), ("unicode/utf8.first", laid_unicode_utf8_first)] }
def ResSameSaid : Prop := resSameRow.holds Tryd.pinned (OpenSpec.ofChange resSameSpec)

/-- ITS FALSE NEIGHBOUR: 'it returns false'. Refute it at one input. -/
def resSameWrong : ChangeSpec := { name := "resSame", fn := fun _ => fun
  | [d1, d2] => { results := [.lit (.bool false)], args := [d1, d2] }
  | _ => none }
def ResSameWrongFalsely : Prop := resSameRow.holds Tryd.pinned (OpenSpec.ofChange resSameWrong)

/-- 'groynelaw03.ResOrder': WHATEVER THE INPUT: true; the input reads as it did. -/
def resOrderSpec : ChangeSpec := { name := "resOrder", fn := fun _ => fun
  | [d1, d2, d3] => { results := [.lit (.bool true)], args := [d1, d2, d3] }
  | _ => none }
def resOrderRow : OpenClaim := { program := "ytbggigdchkiffaadoor", sum := "02c541aacf3d64432ff33dcad5809414040faeae5909084e395049cb522d1567", func := "groyne/groynelaw03.ResOrder", spec := "resOrder", inPlace := ["internal/bytealg.IndexByteString", "internal/bytealg.IndexString", "internal/bytealg.abigen_runtime_cmpstring"], unfollowed := true, recurses := true, named := ["unicode/utf8.first", "unicode/utf8.acceptRanges", "internal/bytealg.MaxLen"], apart := false, laid := [("unicode/utf8.acceptRanges", laid_unicode_utf8_acceptRanges), ("unicode/utf8.first", laid_unicode_utf8_first)] }
def ResOrderSaid : Prop := resOrderRow.holds Tryd.pinned (OpenSpec.ofChange resOrderSpec)

/-- ITS FALSE NEIGHBOUR: 'it returns false'. Refute it at one input. -/
def resOrderWrong : ChangeSpec := { name := "resOrder", fn := fun _ => fun
  | [d1, d2, d3] => { results := [.lit (.bool false)], args := [d1, d2, d3] }
  | _ => none }
def ResOrderWrongFalsely : Prop := resOrderRow.holds Tryd.pinned (OpenSpec.ofChange resOrderWrong)

/-- 'groynelaw03.ResKinds': WHATEVER THE INPUT: true; the input reads as it did. -/
def resKindsSpec : ChangeSpec := { name := "resKinds", fn := fun _ => fun
  | [d] => { results := [.lit (.bool true)], args := [d] }
  | _ => none }
def resKindsRow : OpenClaim := { program := "ytbggigdchkiffaadoor", sum := "02c541aacf3d64432ff33dcad5809414040faeae5909084e395049cb522d1567", func := "groyne/groynelaw03.ResKinds", spec := "resKinds", inPlace := ["internal/bytealg.IndexByteString", "internal/bytealg.IndexString", "internal/bytealg.abigen_runtime_cmpstring"], unfollowed := true, recurses := true, named := ["unicode/utf8.first", "unicode/utf8.acceptRanges", "internal/bytealg.MaxLen"], apart := false, laid := [("unicode/utf8.acceptRanges", laid_unicode_utf8_acceptRanges), ("unicode/utf8.first", laid_unicode_utf8_first)] }
def ResKindsSaid : Prop := resKindsRow.holds Tryd.pinned (OpenSpec.ofChange resKindsSpec)

/-- ITS FALSE NEIGHBOUR: 'it returns false'. Refute it at one input. -/
def resKindsWrong : ChangeSpec := { name := "resKinds", fn := fun _ => fun
  | [d] => { results := [.lit (.bool false)], args := [d] }
  | _ => none }
def ResKindsWrongFalsely : Prop := resKindsRow.holds Tryd.pinned (OpenSpec.ofChange resKindsWrong)

/-- 'groynelaw03.ResTwice': WHATEVER THE INPUT: true; the input reads as it did. -/
def resTwiceSpec : ChangeSpec := { name := "resTwice", fn := fun _ => fun
  | [d1, d2] => { results := [.lit (.bool true)], args := [d1, d2] }
  | _ => none }
def resTwiceRow : OpenClaim := { program := "ytbggigdchkiffaadoor", sum := "02c541aacf3d64432ff33dcad5809414040faeae5909084e395049cb522d1567", func := "groyne/groynelaw03.ResTwice", spec := "resTwice", inPlace := ["internal/bytealg.IndexByteString", "internal/bytealg.IndexString", "internal/bytealg.abigen_runtime_cmpstring"], unfollowed := true, recurses := true, named := ["unicode/utf8.first", "unicode/utf8.acceptRanges", "internal/bytealg.MaxLen"], apart := false, laid := [("unicode/utf8.acceptRanges", laid_unicode_utf8_acceptRanges), ("unicode/utf8.first", laid_unicode_utf8_first)] }
def ResTwiceSaid : Prop := resTwiceRow.holds Tryd.pinned (OpenSpec.ofChange resTwiceSpec)

/-- ITS FALSE NEIGHBOUR: 'it returns false'. Refute it at one input. -/
def resTwiceWrong : ChangeSpec := { name := "resTwice", fn := fun _ => fun
  | [d1, d2] => { results := [.lit (.bool false)], args := [d1, d2] }
  | _ => none }
def ResTwiceWrongFalsely : Prop := resTwiceRow.holds Tryd.pinned (OpenSpec.ofChange resTwiceWrong)

/- THE SECOND FORM. 'bulk': how many values and letters a reading holds, each counted each time it is reached (what is shared counts as often as it is met; a slice's spare places count too). A statement '..UptoSaid' is the law's where the arguments, and the package variables that the reading takes, are together of bulk at most 1048576: NARROWER than '..Said'. Prove '..Said' where nothing that the law and all that it calls make is longer than what came in: it says more and counts as full. Else prove '..UptoSaid'. A law counts once. -/
mutual
def uptoBulk {H : Type} : DataW H → Nat
  | .lit (.string bytes) => bytes.length + 1
  | .lit _ => 1
  | .nil => 1
  | .ptr d => uptoBulk d + 1
  | .slice elems spare => uptoBulkAll elems + uptoBulkAll spare + 1
  | .agg parts => uptoBulkAll parts + 1
  | .iface _ d => uptoBulk d + 1
  | .map entries => uptoBulkEntries entries + 1
  | .held _ => 1
def uptoBulkAll {H : Type} : List (DataW H) → Nat
  | [] => 0
  | d :: r => uptoBulk d + uptoBulkAll r
def uptoBulkEntries {H : Type} : List (Lit × DataW H) → Nat
  | [] => 0
  | x :: r => uptoBulkEntry x + uptoBulkEntries r
def uptoBulkEntry {H : Type} : Lit × DataW H → Nat
  | (.string bytes, d) => bytes.length + uptoBulk d + 1
  | (_, d) => uptoBulk d + 1
 end
def uptoSmall : (H : Type) → List (DataW H) → Bool := fun _ ds => decide (uptoBulkAll ds ≤ 1048576)
def OpenSpec.upto (s : _root_.Go.ChangeSpec) : _root_.Go.OpenSpec := { _root_.Go.OpenSpec.ofChange s with cond := some uptoSmall }

/-- 'groynelaw03.ResRefs', WHERE WHAT IT READS IS OF BULK AT MOST 1048576: true; the input reads as it did. -/
def resRefsUptoRow : OpenClaim := { program := "ytbggigdchkiffaadoor", sum := "02c541aacf3d64432ff33dcad5809414040faeae5909084e395049cb522d1567", func := "groyne/groynelaw03.ResRefs", spec := "resRefs", inPlace := ["internal/bytealg.IndexByteString", "internal/bytealg.IndexString", "internal/bytealg.abigen_runtime_cmpstring"], unfollowed := true, recurses := true, named := ["unicode/utf8.first", "unicode/utf8.acceptRanges", "internal/bytealg.MaxLen"], apart := false, laid := [("unicode/utf8.acceptRanges", laid_unicode_utf8_acceptRanges), ("unicode/utf8.first", laid_unicode_utf8_first)], narrowed := true }
def ResRefsUptoSaid : Prop := resRefsUptoRow.holds Tryd.pinned (OpenSpec.upto resRefsSpec)

/-- 'groynelaw03.ResNames', WHERE WHAT IT READS IS OF BULK AT MOST 1048576: true; the input reads as it did. -/
def resNamesUptoRow : OpenClaim := { program := "ytbggigdchkiffaadoor", sum := "02c541aacf3d64432ff33dcad5809414040faeae5909084e395049cb522d1567", func := "groyne/groynelaw03.ResNames", spec := "resNames", inPlace := ["internal/bytealg.IndexByteString", "internal/bytealg.IndexString", "internal/bytealg.abigen_runtime_cmpstring"], unfollowed := true, recurses := true, named := ["unicode/utf8.first", "unicode/utf8.acceptRanges", "internal/bytealg.MaxLen"], apart := false, laid := [("unicode/utf8.acceptRanges", laid_unicode_utf8_acceptRanges), ("unicode/utf8.first", laid_unicode_utf8_first)], narrowed := true }
def ResNamesUptoSaid : Prop := resNamesUptoRow.holds Tryd.pinned (OpenSpec.upto resNamesSpec)

/-- 'groynelaw03.ResSame', WHERE WHAT IT READS IS OF BULK AT MOST 1048576: true; the input reads as it did. -/
def resSameUptoRow : OpenClaim := { program := "ytbggigdchkiffaadoor", sum := "02c541aacf3d64432ff33dcad5809414040faeae5909084e395049cb522d1567", func := "groyne/groynelaw03.ResSame", spec := "resSame", inPlace := ["internal/bytealg.IndexByteString", "internal/bytealg.IndexString", "internal/bytealg.abigen_runtime_cmpstring"], unfollowed := true, recurses := true, named := ["unicode/utf8.first", "unicode/utf8.acceptRanges", "internal/bytealg.MaxLen"], apart := false, laid := [("unicode/utf8.acceptRanges", laid_unicode_utf8_acceptRanges), ("unicode/utf8.first", laid_unicode_utf8_first)], narrowed := true }
def ResSameUptoSaid : Prop := resSameUptoRow.holds Tryd.pinned (OpenSpec.upto resSameSpec)

/-- 'groynelaw03.ResOrder', WHERE WHAT IT READS IS OF BULK AT MOST 1048576: true; the input reads as it did. -/
def resOrderUptoRow : OpenClaim := { program := "ytbggigdchkiffaadoor", sum := "02c541aacf3d64432ff33dcad5809414040faeae5909084e395049cb522d1567", func := "groyne/groynelaw03.ResOrder", spec := "resOrder", inPlace := ["internal/bytealg.IndexByteString", "internal/bytealg.IndexString", "internal/bytealg.abigen_runtime_cmpstring"], unfollowed := true, recurses := true, named := ["unicode/utf8.first", "unicode/utf8.acceptRanges", "internal/bytealg.MaxLen"], apart := false, laid := [("unicode/utf8.acceptRanges", laid_unicode_utf8_acceptRanges), ("unicode/utf8.first", laid_unicode_utf8_first)], narrowed := true }
def ResOrderUptoSaid : Prop := resOrderUptoRow.holds Tryd.pinned (OpenSpec.upto resOrderSpec)

/-- 'groynelaw03.ResKinds', WHERE WHAT IT READS IS OF BULK AT MOST 1048576: true; the input reads as it did. -/
def resKindsUptoRow : OpenClaim := { program := "ytbggigdchkiffaadoor", sum := "02c541aacf3d64432ff33dcad5809414040faeae5909084e395049cb522d1567", func := "groyne/groynelaw03.ResKinds", spec := "resKinds", inPlace := ["internal/bytealg.IndexByteString", "internal/bytealg.IndexString", "internal/bytealg.abigen_runtime_cmpstring"], unfollowed := true, recurses := true, named := ["unicode/utf8.first", "unicode/utf8.acceptRanges", "internal/bytealg.MaxLen"], apart := false, laid := [("unicode/utf8.acceptRanges", laid_unicode_utf8_acceptRanges), ("unicode/utf8.first", laid_unicode_utf8_first)], narrowed := true }
def ResKindsUptoSaid : Prop := resKindsUptoRow.holds Tryd.pinned (OpenSpec.upto resKindsSpec)

/-- 'groynelaw03.ResTwice', WHERE WHAT IT READS IS OF BULK AT MOST 1048576: true; the input reads as it did. -/
def resTwiceUptoRow : OpenClaim := { program := "ytbggigdchkiffaadoor", sum := "02c541aacf3d64432ff33dcad5809414040faeae5909084e395049cb522d1567", func := "groyne/groynelaw03.ResTwice", spec := "resTwice", inPlace := ["internal/bytealg.IndexByteString", "internal/bytealg.IndexString", "internal/bytealg.abigen_runtime_cmpstring"], unfollowed := true, recurses := true, named := ["unicode/utf8.first", "unicode/utf8.acceptRanges", "internal/bytealg.MaxLen"], apart := false, laid := [("unicode/utf8.acceptRanges", laid_unicode_utf8_acceptRanges), ("unicode/utf8.first", laid_unicode_utf8_first)], narrowed := true }
def ResTwiceUptoSaid : Prop := resTwiceUptoRow.holds Tryd.pinned (OpenSpec.upto resTwiceSpec)

end Rows
end Go.Proofs.YtbggigdchkiffaaDoor
