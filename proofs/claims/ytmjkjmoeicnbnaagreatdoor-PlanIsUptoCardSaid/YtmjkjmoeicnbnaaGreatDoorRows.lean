/-
  NARROWER THAN 'FOR EVERY INPUT', by the rows' own cells (each row's printed sentence says how): RefsAre: laid · PlanIs: laid · WarmIs: laid · CacheAgain: laid · PlanSame: laid · PlanOrder: laid · PlanWaits: laid · PlanKeeps: laid · PlanServes: laid · CachePlans: laid · WarmPlans: laid.
  DERIVED. THE GIVEN ROWS OF THIS SEAT. 11 by the template 'for every input the law returns true; each argument reads behind the call as it read before'; 0 by the template 'total and deterministic' (their statements: YtmjkjmoeicnbnaaGreatDoorTotals.lean).
  GIVEN WITH THE SEED: the statements are not yours to turn. If you find one false, say at which input.
  Laid BY PROGRAM, IN A SANDBOX (cutbox-rows.mjs): the forced cells as the released guide's own fill.sh prints them over the translation 85839b47575ac085… (all of the seat's roots in one cut). By AI agents, Wed Nov 11 2026. No macro, syntax, notation, axiom, sorry.
-/
import Derived.Test.YtmjkjmoeicnbnaaGreatDoorChecked
import GoSem.PinnedTables
import GoSem.Claim
import GoSem.ClaimJoined
import GoSem.ClaimMapViews
import Derived.JoinedTies
import Derived.KernelRfl
namespace Go.Proofs.YtmjkjmoeicnbnaaGreatDoor
/- THE CELL 'sum', in the pinned program and in every row, IS THE sha256 OF THE DUMP (.gsa) THAT YtmjkjmoeicnbnaaGreatDoorProg.lean LOADS. Nothing in Lean hashes anything: it is a label: what it is worth is what the hold of that sum in a sandbox is worth. -/
noncomputable def Tryz.pinned : Pinned := { name := "ytmjkjmoeicnbnaagreatdoor", sum := "85839b47575ac085af8f6006476adea2f92e5f39b5654d8e63c3c57edab9657f", checked := Tryz.checked }
namespace Rows
def none {H : Type} : Left H := { results := [], args := [] }

/- WHAT THE LISTED PACKAGE-LEVEL VARIABLES READ AS WHEN THE CALL BEGINS. Each datum BY PROGRAM (the guide's laid-datum.mjs) off the statement by which the dump's own 'gosem.cut.vars' lays the variable. In a bare row this is a premise. The card (YtmjkjmoeicnbnaaGreatDoorCards.lean) ties it to the program's text. -/
def laid_unicode_utf8_acceptRanges {H : Type} : DataW H := .agg [.agg [.lit (.int .u8 128), .lit (.int .u8 191)], .agg [.lit (.int .u8 160), .lit (.int .u8 191)], .agg [.lit (.int .u8 128), .lit (.int .u8 159)], .agg [.lit (.int .u8 144), .lit (.int .u8 191)], .agg [.lit (.int .u8 128), .lit (.int .u8 143)], .agg [.lit (.int .u8 0), .lit (.int .u8 0)], .agg [.lit (.int .u8 0), .lit (.int .u8 0)], .agg [.lit (.int .u8 0), .lit (.int .u8 0)], .agg [.lit (.int .u8 0), .lit (.int .u8 0)], .agg [.lit (.int .u8 0), .lit (.int .u8 0)], .agg [.lit (.int .u8 0), .lit (.int .u8 0)], .agg [.lit (.int .u8 0), .lit (.int .u8 0)], .agg [.lit (.int .u8 0), .lit (.int .u8 0)], .agg [.lit (.int .u8 0), .lit (.int .u8 0)], .agg [.lit (.int .u8 0), .lit (.int .u8 0)], .agg [.lit (.int .u8 0), .lit (.int .u8 0)]]
/-- One of Go's own tables, pinned by name: the form's constant. -/
def laid_unicode_utf8_first : DataW Unit := Go.Pinned.utf8First

/-- 'groynelaw06.RefsAre': WHATEVER THE INPUT: true; the input reads as it did. -/
def refsAreSpec : ChangeSpec := { name := "refsAre", fn := fun _ => fun
  | [d1, d2] => { results := [.lit (.bool true)], args := [d1, d2] }
  | _ => none }
def refsAreRow : OpenClaim := { program := "ytmjkjmoeicnbnaagreatdoor", sum := "85839b47575ac085af8f6006476adea2f92e5f39b5654d8e63c3c57edab9657f", func := "groyne/groynelaw06.RefsAre", spec := "refsAre", inPlace := ["internal/bytealg.IndexByteString", "internal/bytealg.IndexString", "internal/bytealg.abigen_runtime_cmpstring"], unfollowed := true, recurses := true, named := ["unicode/utf8.first", "unicode/utf8.acceptRanges", "internal/bytealg.MaxLen"], plainKeys := false, apart := false, laid := [("unicode/utf8.acceptRanges", laid_unicode_utf8_acceptRanges), ("unicode/utf8.first", laid_unicode_utf8_first)] }
def RefsAreSaid : Prop := refsAreRow.holds Tryz.pinned (OpenSpec.ofChange refsAreSpec)

/-- ITS FALSE NEIGHBOUR: 'it returns false'. Refute it at one input. -/
def refsAreWrong : ChangeSpec := { name := "refsAre", fn := fun _ => fun
  | [d1, d2] => { results := [.lit (.bool false)], args := [d1, d2] }
  | _ => none }
def RefsAreWrongFalsely : Prop := refsAreRow.holds Tryz.pinned (OpenSpec.ofChange refsAreWrong)

/-- 'groynelaw15.PlanIs': WHATEVER THE INPUT: true; the input reads as it did. -/
def planIsSpec : ChangeSpec := { name := "planIs", fn := fun _ => fun
  | [d1, d2, d3] => { results := [.lit (.bool true)], args := [d1, d2, d3] }
  | _ => none }
def planIsRow : OpenClaim := { program := "ytmjkjmoeicnbnaagreatdoor", sum := "85839b47575ac085af8f6006476adea2f92e5f39b5654d8e63c3c57edab9657f", func := "groyne/groynelaw15.PlanIs", spec := "planIs", inPlace := ["internal/bytealg.IndexByteString", "internal/bytealg.IndexString", "internal/bytealg.abigen_runtime_cmpstring"], unfollowed := true, recurses := true, named := ["unicode/utf8.first", "unicode/utf8.acceptRanges", "internal/bytealg.MaxLen"], plainKeys := false, apart := false, laid := [("unicode/utf8.acceptRanges", laid_unicode_utf8_acceptRanges), ("unicode/utf8.first", laid_unicode_utf8_first)] }
def PlanIsSaid : Prop := planIsRow.holds Tryz.pinned (OpenSpec.ofChange planIsSpec)

/-- ITS FALSE NEIGHBOUR: 'it returns false'. Refute it at one input. -/
def planIsWrong : ChangeSpec := { name := "planIs", fn := fun _ => fun
  | [d1, d2, d3] => { results := [.lit (.bool false)], args := [d1, d2, d3] }
  | _ => none }
def PlanIsWrongFalsely : Prop := planIsRow.holds Tryz.pinned (OpenSpec.ofChange planIsWrong)

/-- 'groynelaw17.WarmIs': WHATEVER THE INPUT: true; the input reads as it did. -/
def warmIsSpec : ChangeSpec := { name := "warmIs", fn := fun _ => fun
  | [d1, d2, d3] => { results := [.lit (.bool true)], args := [d1, d2, d3] }
  | _ => none }
def warmIsRow : OpenClaim := { program := "ytmjkjmoeicnbnaagreatdoor", sum := "85839b47575ac085af8f6006476adea2f92e5f39b5654d8e63c3c57edab9657f", func := "groyne/groynelaw17.WarmIs", spec := "warmIs", inPlace := ["internal/bytealg.IndexByteString", "internal/bytealg.IndexString", "internal/bytealg.abigen_runtime_cmpstring"], unfollowed := true, recurses := true, named := ["unicode/utf8.first", "unicode/utf8.acceptRanges", "internal/bytealg.MaxLen"], plainKeys := false, apart := false, laid := [("unicode/utf8.acceptRanges", laid_unicode_utf8_acceptRanges), ("unicode/utf8.first", laid_unicode_utf8_first)] }
def WarmIsSaid : Prop := warmIsRow.holds Tryz.pinned (OpenSpec.ofChange warmIsSpec)

/-- ITS FALSE NEIGHBOUR: 'it returns false'. Refute it at one input. -/
def warmIsWrong : ChangeSpec := { name := "warmIs", fn := fun _ => fun
  | [d1, d2, d3] => { results := [.lit (.bool false)], args := [d1, d2, d3] }
  | _ => none }
def WarmIsWrongFalsely : Prop := warmIsRow.holds Tryz.pinned (OpenSpec.ofChange warmIsWrong)

/-- 'groynelaw16.CacheAgain': WHATEVER THE INPUT: true; the input reads as it did. -/
def cacheAgainSpec : ChangeSpec := { name := "cacheAgain", fn := fun _ => fun
  | [d1, d2] => { results := [.lit (.bool true)], args := [d1, d2] }
  | _ => none }
def cacheAgainRow : OpenClaim := { program := "ytmjkjmoeicnbnaagreatdoor", sum := "85839b47575ac085af8f6006476adea2f92e5f39b5654d8e63c3c57edab9657f", func := "groyne/groynelaw16.CacheAgain", spec := "cacheAgain", inPlace := ["internal/bytealg.IndexByteString", "internal/bytealg.IndexString", "internal/bytealg.abigen_runtime_cmpstring"], unfollowed := true, recurses := true, named := ["unicode/utf8.first", "unicode/utf8.acceptRanges", "internal/bytealg.MaxLen"], plainKeys := false, apart := false, laid := [("unicode/utf8.acceptRanges", laid_unicode_utf8_acceptRanges), ("unicode/utf8.first", laid_unicode_utf8_first)] }
def CacheAgainSaid : Prop := cacheAgainRow.holds Tryz.pinned (OpenSpec.ofChange cacheAgainSpec)

/-- ITS FALSE NEIGHBOUR: 'it returns false'. Refute it at one input. -/
def cacheAgainWrong : ChangeSpec := { name := "cacheAgain", fn := fun _ => fun
  | [d1, d2] => { results := [.lit (.bool false)], args := [d1, d2] }
  | _ => none }
def CacheAgainWrongFalsely : Prop := cacheAgainRow.holds Tryz.pinned (OpenSpec.ofChange cacheAgainWrong)

/-- 'groynelaw15.PlanSame': WHATEVER THE INPUT: true; the input reads as it did. -/
def planSameSpec : ChangeSpec := { name := "planSame", fn := fun _ => fun
  | [d1, d2] => { results := [.lit (.bool true)], args := [d1, d2] }
  | _ => none }
def planSameRow : OpenClaim := { program := "ytmjkjmoeicnbnaagreatdoor", sum := "85839b47575ac085af8f6006476adea2f92e5f39b5654d8e63c3c57edab9657f", func := "groyne/groynelaw15.PlanSame", spec := "planSame", inPlace := ["internal/bytealg.IndexByteString", "internal/bytealg.IndexString", "internal/bytealg.abigen_runtime_cmpstring"], unfollowed := true, recurses := true, named := ["unicode/utf8.first", "unicode/utf8.acceptRanges", "internal/bytealg.MaxLen"], plainKeys := false, apart := false, laid := [("unicode/utf8.acceptRanges", laid_unicode_utf8_acceptRanges), ("unicode/utf8.first", laid_unicode_utf8_first)] }
def PlanSameSaid : Prop := planSameRow.holds Tryz.pinned (OpenSpec.ofChange planSameSpec)

/-- ITS FALSE NEIGHBOUR: 'it returns false'. Refute it at one input. -/
def planSameWrong : ChangeSpec := { name := "planSame", fn := fun _ => fun
  | [d1, d2] => { results := [.lit (.bool false)], args := [d1, d2] }
  | _ => none }
def PlanSameWrongFalsely : Prop := planSameRow.holds Tryz.pinned (OpenSpec.ofChange planSameWrong)

/-- 'groynelaw15.PlanOrder': WHATEVER THE INPUT: true; the input reads as it did. -/
def planOrderSpec : ChangeSpec := { name := "planOrder", fn := fun _ => fun
  | [d1, d2, d3] => { results := [.lit (.bool true)], args := [d1, d2, d3] }
  | _ => none }
def planOrderRow : OpenClaim := { program := "ytmjkjmoeicnbnaagreatdoor", sum := "85839b47575ac085af8f6006476adea2f92e5f39b5654d8e63c3c57edab9657f", func := "groyne/groynelaw15.PlanOrder", spec := "planOrder", inPlace := ["internal/bytealg.IndexByteString", "internal/bytealg.IndexString", "internal/bytealg.abigen_runtime_cmpstring"], unfollowed := true, recurses := true, named := ["unicode/utf8.first", "unicode/utf8.acceptRanges", "internal/bytealg.MaxLen"], plainKeys := false, apart := false, laid := [("unicode/utf8.acceptRanges", laid_unicode_utf8_acceptRanges), ("unicode/utf8.first", laid_unicode_utf8_first)] }
def PlanOrderSaid : Prop := planOrderRow.holds Tryz.pinned (OpenSpec.ofChange planOrderSpec)

/-- ITS FALSE NEIGHBOUR: 'it returns false'. Refute it at one input. -/
def planOrderWrong : ChangeSpec := { name := "planOrder", fn := fun _ => fun
  | [d1, d2, d3] => { results := [.lit (.bool false)], args := [d1, d2, d3] }
  | _ => none }
def PlanOrderWrongFalsely : Prop := planOrderRow.holds Tryz.pinned (OpenSpec.ofChange planOrderWrong)

/-- 'groynelaw15.PlanWaits': WHATEVER THE INPUT: true; the input reads as it did. -/
def planWaitsSpec : ChangeSpec := { name := "planWaits", fn := fun _ => fun
  | [d1, d2, d3] => { results := [.lit (.bool true)], args := [d1, d2, d3] }
  | _ => none }
def planWaitsRow : OpenClaim := { program := "ytmjkjmoeicnbnaagreatdoor", sum := "85839b47575ac085af8f6006476adea2f92e5f39b5654d8e63c3c57edab9657f", func := "groyne/groynelaw15.PlanWaits", spec := "planWaits", inPlace := ["internal/bytealg.IndexByteString", "internal/bytealg.IndexString", "internal/bytealg.abigen_runtime_cmpstring"], unfollowed := true, recurses := true, named := ["unicode/utf8.first", "unicode/utf8.acceptRanges", "internal/bytealg.MaxLen"], plainKeys := false, apart := false, laid := [("unicode/utf8.acceptRanges", laid_unicode_utf8_acceptRanges), ("unicode/utf8.first", laid_unicode_utf8_first)] }
def PlanWaitsSaid : Prop := planWaitsRow.holds Tryz.pinned (OpenSpec.ofChange planWaitsSpec)

/-- ITS FALSE NEIGHBOUR: 'it returns false'. Refute it at one input. -/
def planWaitsWrong : ChangeSpec := { name := "planWaits", fn := fun _ => fun
  | [d1, d2, d3] => { results := [.lit (.bool false)], args := [d1, d2, d3] }
  | _ => none }
def PlanWaitsWrongFalsely : Prop := planWaitsRow.holds Tryz.pinned (OpenSpec.ofChange planWaitsWrong)

/-- 'groynelaw15.PlanKeeps': WHATEVER THE INPUT: true; the input reads as it did. -/
def planKeepsSpec : ChangeSpec := { name := "planKeeps", fn := fun _ => fun
  | [d1, d2, d3] => { results := [.lit (.bool true)], args := [d1, d2, d3] }
  | _ => none }
def planKeepsRow : OpenClaim := { program := "ytmjkjmoeicnbnaagreatdoor", sum := "85839b47575ac085af8f6006476adea2f92e5f39b5654d8e63c3c57edab9657f", func := "groyne/groynelaw15.PlanKeeps", spec := "planKeeps", inPlace := ["internal/bytealg.IndexByteString", "internal/bytealg.IndexString", "internal/bytealg.abigen_runtime_cmpstring"], unfollowed := true, recurses := true, named := ["unicode/utf8.first", "unicode/utf8.acceptRanges", "internal/bytealg.MaxLen"], plainKeys := false, apart := false, laid := [("unicode/utf8.acceptRanges", laid_unicode_utf8_acceptRanges), ("unicode/utf8.first", laid_unicode_utf8_first)] }
def PlanKeepsSaid : Prop := planKeepsRow.holds Tryz.pinned (OpenSpec.ofChange planKeepsSpec)

/-- ITS FALSE NEIGHBOUR: 'it returns false'. Refute it at one input. -/
def planKeepsWrong : ChangeSpec := { name := "planKeeps", fn := fun _ => fun
  | [d1, d2, d3] => { results := [.lit (.bool false)], args := [d1, d2, d3] }
  | _ => none }
def PlanKeepsWrongFalsely : Prop := planKeepsRow.holds Tryz.pinned (OpenSpec.ofChange planKeepsWrong)

/-- 'groynelaw15.PlanServes': WHATEVER THE INPUT: true; the input reads as it did. -/
def planServesSpec : ChangeSpec := { name := "planServes", fn := fun _ => fun
  | [d1, d2, d3] => { results := [.lit (.bool true)], args := [d1, d2, d3] }
  | _ => none }
def planServesRow : OpenClaim := { program := "ytmjkjmoeicnbnaagreatdoor", sum := "85839b47575ac085af8f6006476adea2f92e5f39b5654d8e63c3c57edab9657f", func := "groyne/groynelaw15.PlanServes", spec := "planServes", inPlace := ["internal/bytealg.IndexByteString", "internal/bytealg.IndexString", "internal/bytealg.abigen_runtime_cmpstring"], unfollowed := true, recurses := true, named := ["unicode/utf8.first", "unicode/utf8.acceptRanges", "internal/bytealg.MaxLen"], plainKeys := false, apart := false, laid := [("unicode/utf8.acceptRanges", laid_unicode_utf8_acceptRanges), ("unicode/utf8.first", laid_unicode_utf8_first)] }
def PlanServesSaid : Prop := planServesRow.holds Tryz.pinned (OpenSpec.ofChange planServesSpec)

/-- ITS FALSE NEIGHBOUR: 'it returns false'. Refute it at one input. -/
def planServesWrong : ChangeSpec := { name := "planServes", fn := fun _ => fun
  | [d1, d2, d3] => { results := [.lit (.bool false)], args := [d1, d2, d3] }
  | _ => none }
def PlanServesWrongFalsely : Prop := planServesRow.holds Tryz.pinned (OpenSpec.ofChange planServesWrong)

/-- 'groynelaw16.CachePlans': WHATEVER THE INPUT: true; the input reads as it did. -/
def cachePlansSpec : ChangeSpec := { name := "cachePlans", fn := fun _ => fun
  | [d1, d2, d3] => { results := [.lit (.bool true)], args := [d1, d2, d3] }
  | _ => none }
def cachePlansRow : OpenClaim := { program := "ytmjkjmoeicnbnaagreatdoor", sum := "85839b47575ac085af8f6006476adea2f92e5f39b5654d8e63c3c57edab9657f", func := "groyne/groynelaw16.CachePlans", spec := "cachePlans", inPlace := ["internal/bytealg.IndexByteString", "internal/bytealg.IndexString", "internal/bytealg.abigen_runtime_cmpstring"], unfollowed := true, recurses := true, named := ["unicode/utf8.first", "unicode/utf8.acceptRanges", "internal/bytealg.MaxLen"], plainKeys := false, apart := false, laid := [("unicode/utf8.acceptRanges", laid_unicode_utf8_acceptRanges), ("unicode/utf8.first", laid_unicode_utf8_first)] }
def CachePlansSaid : Prop := cachePlansRow.holds Tryz.pinned (OpenSpec.ofChange cachePlansSpec)

/-- ITS FALSE NEIGHBOUR: 'it returns false'. Refute it at one input. -/
def cachePlansWrong : ChangeSpec := { name := "cachePlans", fn := fun _ => fun
  | [d1, d2, d3] => { results := [.lit (.bool false)], args := [d1, d2, d3] }
  | _ => none }
def CachePlansWrongFalsely : Prop := cachePlansRow.holds Tryz.pinned (OpenSpec.ofChange cachePlansWrong)

/-- 'groynelaw17.WarmPlans': WHATEVER THE INPUT: true; the input reads as it did. -/
def warmPlansSpec : ChangeSpec := { name := "warmPlans", fn := fun _ => fun
  | [d1, d2] => { results := [.lit (.bool true)], args := [d1, d2] }
  | _ => none }
def warmPlansRow : OpenClaim := { program := "ytmjkjmoeicnbnaagreatdoor", sum := "85839b47575ac085af8f6006476adea2f92e5f39b5654d8e63c3c57edab9657f", func := "groyne/groynelaw17.WarmPlans", spec := "warmPlans", inPlace := ["internal/bytealg.IndexByteString", "internal/bytealg.IndexString", "internal/bytealg.abigen_runtime_cmpstring"], unfollowed := true, recurses := true, named := ["unicode/utf8.first", "unicode/utf8.acceptRanges", "internal/bytealg.MaxLen"], plainKeys := false, apart := false, laid := [("unicode/utf8.acceptRanges", laid_unicode_utf8_acceptRanges), ("unicode/utf8.first", laid_unicode_utf8_first)] }
def WarmPlansSaid : Prop := warmPlansRow.holds Tryz.pinned (OpenSpec.ofChange warmPlansSpec)

/-- ITS FALSE NEIGHBOUR: 'it returns false'. Refute it at one input. -/
def warmPlansWrong : ChangeSpec := { name := "warmPlans", fn := fun _ => fun
  | [d1, d2] => { results := [.lit (.bool false)], args := [d1, d2] }
  | _ => none }
def WarmPlansWrongFalsely : Prop := warmPlansRow.holds Tryz.pinned (OpenSpec.ofChange warmPlansWrong)

/- THE SECOND FORM. 'bulk': how many values and letters a reading holds, each counted each time it is reached (what is shared counts as often as it is met; a slice's spare places count too). A statement '..UptoSaid' is the law's where the arguments, and the package variables that the reading takes, are together of bulk at most 1048576: NARROWER than '..Said'. Prove '..Said' where nothing that the law and all that it calls make is longer than what came in: it says more and counts as full. Else prove '..UptoSaid'. A law counts once. -/
mutual
def uptoBulk {H : Type} : DataW H → Nat
  | .lit (.string bytes) => bytes.length + 1
  | .lit _ => 1
  | .nil => 1
  | .ptr d => uptoBulk d + 1
  | .slice elems spare => uptoBulkAll elems + uptoBulkAll spare + 1
  | .agg parts => uptoBulkAll parts + 1
  | .iface _ d => uptoBulk d + 1
  | .map entries => uptoBulkEntries entries + 1
  | .held _ => 1
def uptoBulkAll {H : Type} : List (DataW H) → Nat
  | [] => 0
  | d :: r => uptoBulk d + uptoBulkAll r
def uptoBulkEntries {H : Type} : List (Lit × DataW H) → Nat
  | [] => 0
  | x :: r => uptoBulkEntry x + uptoBulkEntries r
def uptoBulkEntry {H : Type} : Lit × DataW H → Nat
  | (.string bytes, d) => bytes.length + uptoBulk d + 1
  | (_, d) => uptoBulk d + 1
 end
def uptoSmall : (H : Type) → List (DataW H) → Bool := fun _ ds => decide (uptoBulkAll ds ≤ 1048576)
def OpenSpec.upto (s : _root_.Go.ChangeSpec) : _root_.Go.OpenSpec := { _root_.Go.OpenSpec.ofChange s with cond := some uptoSmall }

/-- 'groynelaw06.RefsAre', WHERE WHAT IT READS IS OF BULK AT MOST 1048576: true; the input reads as it did. -/
def refsAreUptoRow : OpenClaim := { program := "ytmjkjmoeicnbnaagreatdoor", sum := "85839b47575ac085af8f6006476adea2f92e5f39b5654d8e63c3c57edab9657f", func := "groyne/groynelaw06.RefsAre", spec := "refsAre", inPlace := ["internal/bytealg.IndexByteString", "internal/bytealg.IndexString", "internal/bytealg.abigen_runtime_cmpstring"], unfollowed := true, recurses := true, named := ["unicode/utf8.first", "unicode/utf8.acceptRanges", "internal/bytealg.MaxLen"], plainKeys := false, apart := false, laid := [("unicode/utf8.acceptRanges", laid_unicode_utf8_acceptRanges), ("unicode/utf8.first", laid_unicode_utf8_first)], narrowed := true }
def RefsAreUptoSaid : Prop := refsAreUptoRow.holds Tryz.pinned (OpenSpec.upto refsAreSpec)

/-- 'groynelaw15.PlanIs', WHERE WHAT IT READS IS OF BULK AT MOST 1048576: true; the input reads as it did. -/
def planIsUptoRow : OpenClaim := { program := "ytmjkjmoeicnbnaagreatdoor", sum := "85839b47575ac085af8f6006476adea2f92e5f39b5654d8e63c3c57edab9657f", func := "groyne/groynelaw15.PlanIs", spec := "planIs", inPlace := ["internal/bytealg.IndexByteString", "internal/bytealg.IndexString", "internal/bytealg.abigen_runtime_cmpstring"], unfollowed := true, recurses := true, named := ["unicode/utf8.first", "unicode/utf8.acceptRanges", "internal/bytealg.MaxLen"], plainKeys := false, apart := false, laid := [("unicode/utf8.acceptRanges", laid_unicode_utf8_acceptRanges), ("unicode/utf8.first", laid_unicode_utf8_first)], narrowed := true }
def PlanIsUptoSaid : Prop := planIsUptoRow.holds Tryz.pinned (OpenSpec.upto planIsSpec)

/-- 'groynelaw17.WarmIs', WHERE WHAT IT READS IS OF BULK AT MOST 1048576: true; the input reads as it did. -/
def warmIsUptoRow : OpenClaim := { program := "ytmjkjmoeicnbnaagreatdoor", sum := "85839b47575ac085af8f6006476adea2f92e5f39b5654d8e63c3c57edab9657f", func := "groyne/groynelaw17.WarmIs", spec := "warmIs", inPlace := ["internal/bytealg.IndexByteString", "internal/bytealg.IndexString", "internal/bytealg.abigen_runtime_cmpstring"], unfollowed := true, recurses := true, named := ["unicode/utf8.first", "unicode/utf8.acceptRanges", "internal/bytealg.MaxLen"], plainKeys := false, apart := false, laid := [("unicode/utf8.acceptRanges", laid_unicode_utf8_acceptRanges), ("unicode/utf8.first", laid_unicode_utf8_first)], narrowed := true }
def WarmIsUptoSaid : Prop := warmIsUptoRow.holds Tryz.pinned (OpenSpec.upto warmIsSpec)

/-- 'groynelaw16.CacheAgain', WHERE WHAT IT READS IS OF BULK AT MOST 1048576: true; the input reads as it did. -/
def cacheAgainUptoRow : OpenClaim := { program := "ytmjkjmoeicnbnaagreatdoor", sum := "85839b47575ac085af8f6006476adea2f92e5f39b5654d8e63c3c57edab9657f", func := "groyne/groynelaw16.CacheAgain", spec := "cacheAgain", inPlace := ["internal/bytealg.IndexByteString", "internal/bytealg.IndexString", "internal/bytealg.abigen_runtime_cmpstring"], unfollowed := true, recurses := true, named := ["unicode/utf8.first", "unicode/utf8.acceptRanges", "internal/bytealg.MaxLen"], plainKeys := false, apart := false, laid := [("unicode/utf8.acceptRanges", laid_unicode_utf8_acceptRanges), ("unicode/utf8.first", laid_unicode_utf8_first)], narrowed := true }
def CacheAgainUptoSaid : Prop := cacheAgainUptoRow.holds Tryz.pinned (OpenSpec.upto cacheAgainSpec)

/-- 'groynelaw15.PlanSame', WHERE WHAT IT READS IS OF BULK AT MOST 1048576: true; the input reads as it did. -/
def planSameUptoRow : OpenClaim := { program := "ytmjkjmoeicnbnaagreatdoor", sum := "85839b47575ac085af8f6006476adea2f92e5f39b5654d8e63c3c57edab9657f", func := "groyne/groynelaw15.PlanSame", spec := "planSame", inPlace := ["internal/bytealg.IndexByteString", "internal/bytealg.IndexString", "internal/bytealg.abigen_runtime_cmpstring"], unfollowed := true, recurses := true, named := ["unicode/utf8.first", "unicode/utf8.acceptRanges", "internal/bytealg.MaxLen"], plainKeys := false, apart := false, laid := [("unicode/utf8.acceptRanges", laid_unicode_utf8_acceptRanges), ("unicode/utf8.first", laid_unicode_utf8_first)], narrowed := true }
def PlanSameUptoSaid : Prop := planSameUptoRow.holds Tryz.pinned (OpenSpec.upto planSameSpec)

/-- 'groynelaw15.PlanOrder', WHERE WHAT IT READS IS OF BULK AT MOST 1048576: true; the input reads as it did. -/
def planOrderUptoRow : OpenClaim := { program := "ytmjkjmoeicnbnaagreatdoor", sum := "85839b47575ac085af8f6006476adea2f92e5f39b5654d8e63c3c57edab9657f", func := "groyne/groynelaw15.PlanOrder", spec := "planOrder", inPlace := ["internal/bytealg.IndexByteString", "internal/bytealg.IndexString", "internal/bytealg.abigen_runtime_cmpstring"], unfollowed := true, recurses := true, named := ["unicode/utf8.first", "unicode/utf8.acceptRanges", "internal/bytealg.MaxLen"], plainKeys := false, apart := false, laid := [("unicode/utf8.acceptRanges", laid_unicode_utf8_acceptRanges), ("unicode/utf8.first", laid_unicode_utf8_first)], narrowed := true }
def PlanOrderUptoSaid : Prop := planOrderUptoRow.holds Tryz.pinned (OpenSpec.upto planOrderSpec)

/-- 'groynelaw15.PlanWaits', WHERE WHAT IT READS IS OF BULK AT MOST 1048576: true; the input reads as it did. -/
def planWaitsUptoRow : OpenClaim := { program := "ytmjkjmoeicnbnaagreatdoor", sum := "85839b47575ac085af8f6006476adea2f92e5f39b5654d8e63c3c57edab9657f", func := "groyne/groynelaw15.PlanWaits", spec := "planWaits", inPlace := ["internal/bytealg.IndexByteString", "internal/bytealg.IndexString", "internal/bytealg.abigen_runtime_cmpstring"], unfollowed := true, recurses := true, named := ["unicode/utf8.first", "unicode/utf8.acceptRanges", "internal/bytealg.MaxLen"], plainKeys := false, apart := false, laid := [("unicode/utf8.acceptRanges", laid_unicode_utf8_acceptRanges), ("unicode/utf8.first", laid_unicode_utf8_first)], narrowed := true }
def PlanWaitsUptoSaid : Prop := planWaitsUptoRow.holds Tryz.pinned (OpenSpec.upto planWaitsSpec)

/-- 'groynelaw15.PlanKeeps', WHERE WHAT IT READS IS OF BULK AT MOST 1048576: true; the input reads as it did. -/
def planKeepsUptoRow : OpenClaim := { program := "ytmjkjmoeicnbnaagreatdoor", sum := "85839b47575ac085af8f6006476adea2f92e5f39b5654d8e63c3c57edab9657f", func := "groyne/groynelaw15.PlanKeeps", spec := "planKeeps", inPlace := ["internal/bytealg.IndexByteString", "internal/bytealg.IndexString", "internal/bytealg.abigen_runtime_cmpstring"], unfollowed := true, recurses := true, named := ["unicode/utf8.first", "unicode/utf8.acceptRanges", "internal/bytealg.MaxLen"], plainKeys := false, apart := false, laid := [("unicode/utf8.acceptRanges", laid_unicode_utf8_acceptRanges), ("unicode/utf8.first", laid_unicode_utf8_first)], narrowed := true }
def PlanKeepsUptoSaid : Prop := planKeepsUptoRow.holds Tryz.pinned (OpenSpec.upto planKeepsSpec)

/-- 'groynelaw15.PlanServes', WHERE WHAT IT READS IS OF BULK AT MOST 1048576: true; the input reads as it did. -/
def planServesUptoRow : OpenClaim := { program := "ytmjkjmoeicnbnaagreatdoor", sum := "85839b47575ac085af8f6006476adea2f92e5f39b5654d8e63c3c57edab9657f", func := "groyne/groynelaw15.PlanServes", spec := "planServes", inPlace := ["internal/bytealg.IndexByteString", "internal/bytealg.IndexString", "internal/bytealg.abigen_runtime_cmpstring"], unfollowed := true, recurses := true, named := ["unicode/utf8.first", "unicode/utf8.acceptRanges", "internal/bytealg.MaxLen"], plainKeys := false, apart := false, laid := [("unicode/utf8.acceptRanges", laid_unicode_utf8_acceptRanges), ("unicode/utf8.first", laid_unicode_utf8_first)], narrowed := true }
def PlanServesUptoSaid : Prop := planServesUptoRow.holds Tryz.pinned (OpenSpec.upto planServesSpec)

/-- 'groynelaw16.CachePlans', WHERE WHAT IT READS IS OF BULK AT MOST 1048576: true; the input reads as it did. -/
def cachePlansUptoRow : OpenClaim := { program := "ytmjkjmoeicnbnaagreatdoor", sum := "85839b47575ac085af8f6006476adea2f92e5f39b5654d8e63c3c57edab9657f", func := "groyne/groynelaw16.CachePlans", spec := "cachePlans", inPlace := ["internal/bytealg.IndexByteString", "internal/bytealg.IndexString", "internal/bytealg.abigen_runtime_cmpstring"], unfollowed := true, recurses := true, named := ["unicode/utf8.first", "unicode/utf8.acceptRanges", "internal/bytealg.MaxLen"], plainKeys := false, apart := false, laid := [("unicode/utf8.acceptRanges", laid_unicode_utf8_acceptRanges), ("unicode/utf8.first", laid_unicode_utf8_first)], narrowed := true }
def CachePlansUptoSaid : Prop := cachePlansUptoRow.holds Tryz.pinned (OpenSpec.upto cachePlansSpec)

/-- 'groynelaw17.WarmPlans', WHERE WHAT IT READS IS OF BULK AT MOST 1048576: true; the input reads as it did. -/
def warmPlansUptoRow : OpenClaim := { program := "ytmjkjmoeicnbnaagreatdoor", sum := "85839b47575ac085af8f6006476adea2f92e5f39b5654d8e63c3c57edab9657f", func := "groyne/groynelaw17.WarmPlans", spec := "warmPlans", inPlace := ["internal/bytealg.IndexByteString", "internal/bytealg.IndexString", "internal/bytealg.abigen_runtime_cmpstring"], unfollowed := true, recurses := true, named := ["unicode/utf8.first", "unicode/utf8.acceptRanges", "internal/bytealg.MaxLen"], plainKeys := false, apart := false, laid := [("unicode/utf8.acceptRanges", laid_unicode_utf8_acceptRanges), ("unicode/utf8.first", laid_unicode_utf8_first)], narrowed := true }
def WarmPlansUptoSaid : Prop := warmPlansUptoRow.holds Tryz.pinned (OpenSpec.upto warmPlansSpec)

end Rows
end Go.Proofs.YtmjkjmoeicnbnaaGreatDoor
