/-
  No cell of these rows narrows 'for every input' (looked for: loops, veiled, ifaces, maps, wideKeys, modest, calm, conditions, laid).
  DERIVED. THE GIVEN ROWS OF THIS SEAT. 5 by the template 'for every input the law returns true; each argument reads behind the call as it read before'; 0 by the template 'total and deterministic' (their statements: YtjmnokbbodcaaaaTotals.lean).
  GIVEN WITH THE SEED: the statements are not yours to turn. If you find one false, say at which input.
  Laid BY PROGRAM, IN A SANDBOX (cutbox-rows.mjs): the forced cells as the released guide's own fill.sh prints them over the translation a893765bd282b5da… (all of the seat's roots in one cut). By AI agents, Wed Nov 11 2026. No macro, syntax, notation, axiom, sorry.
-/
import Derived.Test.YtjmnokbbodcaaaaChecked
import GoSem.Claim
import GoSem.ClaimJoined
import GoSem.ClaimMapViews
import Derived.JoinedTies
import Derived.KernelRfl
namespace Go.Proofs.Ytjmnokbbodcaaaa
/- THE CELL 'sum', in the pinned program and in every row, IS THE sha256 OF THE DUMP (.gsa) THAT YtjmnokbbodcaaaaProg.lean LOADS. Nothing in Lean hashes anything: it is a label: what it is worth is what the hold of that sum in a sandbox is worth. -/
noncomputable def Try.pinned : Pinned := { name := "ytjmnokbbodcaaaa", sum := "a893765bd282b5da2302b05a7535bb38ac0ccbdf9c5908a76f687dbce6ca5a89", checked := Try.checked }
namespace Rows
def none {H : Type} : Left H := { results := [], args := [] }

/-- 'groynelaw18.PinsHold': WHATEVER THE INPUT: true; the input reads as it did. -/
def pinsHoldSpec : ChangeSpec := { name := "pinsHold", fn := fun _ => fun
  | [d] => { results := [.lit (.bool true)], args := [d] }
  | _ => none }
def pinsHoldRow : OpenClaim := { program := "ytjmnokbbodcaaaa", sum := "a893765bd282b5da2302b05a7535bb38ac0ccbdf9c5908a76f687dbce6ca5a89", func := "groyne/groynelaw18.PinsHold", spec := "pinsHold", inPlace := ["internal/bytealg.abigen_runtime_cmpstring"], unfollowed := true, recurses := true, apart := false }
def PinsHoldSaid : Prop := pinsHoldRow.holds Try.pinned (OpenSpec.ofChange pinsHoldSpec)

/-- ITS FALSE NEIGHBOUR: 'it returns false'. Refute it at one input. -/
def pinsHoldWrong : ChangeSpec := { name := "pinsHold", fn := fun _ => fun
  | [d] => { results := [.lit (.bool false)], args := [d] }
  | _ => none }
def PinsHoldWrongFalsely : Prop := pinsHoldRow.holds Try.pinned (OpenSpec.ofChange pinsHoldWrong)

/-- 'groynelaw18.PinsOften': WHATEVER THE INPUT: true; the input reads as it did. -/
def pinsOftenSpec : ChangeSpec := { name := "pinsOften", fn := fun _ => fun
  | [d1, d2, d3] => { results := [.lit (.bool true)], args := [d1, d2, d3] }
  | _ => none }
def pinsOftenRow : OpenClaim := { program := "ytjmnokbbodcaaaa", sum := "a893765bd282b5da2302b05a7535bb38ac0ccbdf9c5908a76f687dbce6ca5a89", func := "groyne/groynelaw18.PinsOften", spec := "pinsOften", inPlace := ["internal/bytealg.abigen_runtime_cmpstring"], unfollowed := true, recurses := true, apart := false }
def PinsOftenSaid : Prop := pinsOftenRow.holds Try.pinned (OpenSpec.ofChange pinsOftenSpec)

/-- ITS FALSE NEIGHBOUR: 'it returns false'. Refute it at one input. -/
def pinsOftenWrong : ChangeSpec := { name := "pinsOften", fn := fun _ => fun
  | [d1, d2, d3] => { results := [.lit (.bool false)], args := [d1, d2, d3] }
  | _ => none }
def PinsOftenWrongFalsely : Prop := pinsOftenRow.holds Try.pinned (OpenSpec.ofChange pinsOftenWrong)

/-- 'groynelaw18.PinsAre': WHATEVER THE INPUT: true; the input reads as it did. -/
def pinsAreSpec : ChangeSpec := { name := "pinsAre", fn := fun _ => fun
  | [d1, d2, d3] => { results := [.lit (.bool true)], args := [d1, d2, d3] }
  | _ => none }
def pinsAreRow : OpenClaim := { program := "ytjmnokbbodcaaaa", sum := "a893765bd282b5da2302b05a7535bb38ac0ccbdf9c5908a76f687dbce6ca5a89", func := "groyne/groynelaw18.PinsAre", spec := "pinsAre", inPlace := ["internal/bytealg.abigen_runtime_cmpstring"], unfollowed := true, recurses := true, apart := false }
def PinsAreSaid : Prop := pinsAreRow.holds Try.pinned (OpenSpec.ofChange pinsAreSpec)

/-- ITS FALSE NEIGHBOUR: 'it returns false'. Refute it at one input. -/
def pinsAreWrong : ChangeSpec := { name := "pinsAre", fn := fun _ => fun
  | [d1, d2, d3] => { results := [.lit (.bool false)], args := [d1, d2, d3] }
  | _ => none }
def PinsAreWrongFalsely : Prop := pinsAreRow.holds Try.pinned (OpenSpec.ofChange pinsAreWrong)

/-- 'groynelaw18.PinsKeep': WHATEVER THE INPUT: true; the input reads as it did. -/
def pinsKeepSpec : ChangeSpec := { name := "pinsKeep", fn := fun _ => fun
  | [d1, d2] => { results := [.lit (.bool true)], args := [d1, d2] }
  | _ => none }
def pinsKeepRow : OpenClaim := { program := "ytjmnokbbodcaaaa", sum := "a893765bd282b5da2302b05a7535bb38ac0ccbdf9c5908a76f687dbce6ca5a89", func := "groyne/groynelaw18.PinsKeep", spec := "pinsKeep", inPlace := ["internal/bytealg.abigen_runtime_cmpstring"], unfollowed := true, recurses := true, apart := false }
def PinsKeepSaid : Prop := pinsKeepRow.holds Try.pinned (OpenSpec.ofChange pinsKeepSpec)

/-- ITS FALSE NEIGHBOUR: 'it returns false'. Refute it at one input. -/
def pinsKeepWrong : ChangeSpec := { name := "pinsKeep", fn := fun _ => fun
  | [d1, d2] => { results := [.lit (.bool false)], args := [d1, d2] }
  | _ => none }
def PinsKeepWrongFalsely : Prop := pinsKeepRow.holds Try.pinned (OpenSpec.ofChange pinsKeepWrong)

/-- 'groynelaw18.PinsNext': WHATEVER THE INPUT: true; the input reads as it did. -/
def pinsNextSpec : ChangeSpec := { name := "pinsNext", fn := fun _ => fun
  | [d1, d2] => { results := [.lit (.bool true)], args := [d1, d2] }
  | _ => none }
def pinsNextRow : OpenClaim := { program := "ytjmnokbbodcaaaa", sum := "a893765bd282b5da2302b05a7535bb38ac0ccbdf9c5908a76f687dbce6ca5a89", func := "groyne/groynelaw18.PinsNext", spec := "pinsNext", inPlace := ["internal/bytealg.abigen_runtime_cmpstring"], unfollowed := true, recurses := true, apart := false }
def PinsNextSaid : Prop := pinsNextRow.holds Try.pinned (OpenSpec.ofChange pinsNextSpec)

/-- ITS FALSE NEIGHBOUR: 'it returns false'. Refute it at one input. -/
def pinsNextWrong : ChangeSpec := { name := "pinsNext", fn := fun _ => fun
  | [d1, d2] => { results := [.lit (.bool false)], args := [d1, d2] }
  | _ => none }
def PinsNextWrongFalsely : Prop := pinsNextRow.holds Try.pinned (OpenSpec.ofChange pinsNextWrong)

/- THE SECOND FORM. 'bulk': how many values and letters a reading holds, each counted each time it is reached (what is shared counts as often as it is met; a slice's spare places count too). A statement '..UptoSaid' is the law's where the arguments, and the package variables that the reading takes, are together of bulk at most 1048576: NARROWER than '..Said'. Prove '..Said' where nothing that the law and all that it calls make is longer than what came in: it says more and counts as full. Else prove '..UptoSaid'. A law counts once. -/
mutual
def uptoBulk {H : Type} : DataW H → Nat
  | .lit (.string bytes) => bytes.length + 1
  | .lit _ => 1
  | .nil => 1
  | .ptr d => uptoBulk d + 1
  | .slice elems spare => uptoBulkAll elems + uptoBulkAll spare + 1
  | .agg parts => uptoBulkAll parts + 1
  | .iface _ d => uptoBulk d + 1
  | .map entries => uptoBulkEntries entries + 1
  | .held _ => 1
def uptoBulkAll {H : Type} : List (DataW H) → Nat
  | [] => 0
  | d :: r => uptoBulk d + uptoBulkAll r
def uptoBulkEntries {H : Type} : List (Lit × DataW H) → Nat
  | [] => 0
  | x :: r => uptoBulkEntry x + uptoBulkEntries r
def uptoBulkEntry {H : Type} : Lit × DataW H → Nat
  | (.string bytes, d) => bytes.length + uptoBulk d + 1
  | (_, d) => uptoBulk d + 1
 end
def uptoSmall : (H : Type) → List (DataW H) → Bool := fun _ ds => decide (uptoBulkAll ds ≤ 1048576)
def OpenSpec.upto (s : _root_.Go.ChangeSpec) : _root_.Go.OpenSpec := { _root_.Go.OpenSpec.ofChange s with cond := some uptoSmall }

/-- 'groynelaw18.PinsHold', WHERE WHAT IT READS IS OF BULK AT MOST 1048576: true; the input reads as it did. -/
def pinsHoldUptoRow : OpenClaim := { program := "ytjmnokbbodcaaaa", sum := "a893765bd282b5da2302b05a7535bb38ac0ccbdf9c5908a76f687dbce6ca5a89", func := "groyne/groynelaw18.PinsHold", spec := "pinsHold", inPlace := ["internal/bytealg.abigen_runtime_cmpstring"], unfollowed := true, recurses := true, apart := false, narrowed := true }
def PinsHoldUptoSaid : Prop := pinsHoldUptoRow.holds Try.pinned (OpenSpec.upto pinsHoldSpec)

/-- 'groynelaw18.PinsOften', WHERE WHAT IT READS IS OF BULK AT MOST 1048576: true; the input reads as it did. -/
def pinsOftenUptoRow : OpenClaim := { program := "ytjmnokbbodcaaaa", sum := "a893765bd282b5da2302b05a7535bb38ac0ccbdf9c5908a76f687dbce6ca5a89", func := "groyne/groynelaw18.PinsOften", spec := "pinsOften", inPlace := ["internal/bytealg.abigen_runtime_cmpstring"], unfollowed := true, recurses := true, apart := false, narrowed := true }
def PinsOftenUptoSaid : Prop := pinsOftenUptoRow.holds Try.pinned (OpenSpec.upto pinsOftenSpec)

/-- 'groynelaw18.PinsAre', WHERE WHAT IT READS IS OF BULK AT MOST 1048576: true; the input reads as it did. -/
def pinsAreUptoRow : OpenClaim := { program := "ytjmnokbbodcaaaa", sum := "a893765bd282b5da2302b05a7535bb38ac0ccbdf9c5908a76f687dbce6ca5a89", func := "groyne/groynelaw18.PinsAre", spec := "pinsAre", inPlace := ["internal/bytealg.abigen_runtime_cmpstring"], unfollowed := true, recurses := true, apart := false, narrowed := true }
def PinsAreUptoSaid : Prop := pinsAreUptoRow.holds Try.pinned (OpenSpec.upto pinsAreSpec)

/-- 'groynelaw18.PinsKeep', WHERE WHAT IT READS IS OF BULK AT MOST 1048576: true; the input reads as it did. -/
def pinsKeepUptoRow : OpenClaim := { program := "ytjmnokbbodcaaaa", sum := "a893765bd282b5da2302b05a7535bb38ac0ccbdf9c5908a76f687dbce6ca5a89", func := "groyne/groynelaw18.PinsKeep", spec := "pinsKeep", inPlace := ["internal/bytealg.abigen_runtime_cmpstring"], unfollowed := true, recurses := true, apart := false, narrowed := true }
def PinsKeepUptoSaid : Prop := pinsKeepUptoRow.holds Try.pinned (OpenSpec.upto pinsKeepSpec)

/-- 'groynelaw18.PinsNext', WHERE WHAT IT READS IS OF BULK AT MOST 1048576: true; the input reads as it did. -/
def pinsNextUptoRow : OpenClaim := { program := "ytjmnokbbodcaaaa", sum := "a893765bd282b5da2302b05a7535bb38ac0ccbdf9c5908a76f687dbce6ca5a89", func := "groyne/groynelaw18.PinsNext", spec := "pinsNext", inPlace := ["internal/bytealg.abigen_runtime_cmpstring"], unfollowed := true, recurses := true, apart := false, narrowed := true }
def PinsNextUptoSaid : Prop := pinsNextUptoRow.holds Try.pinned (OpenSpec.upto pinsNextSpec)

end Rows
end Go.Proofs.Ytjmnokbbodcaaaa
