/- Parts of the proof, one behind the other. -/
import Derived.Tactics
import Derived.Tactics2
import Derived.Defers
import Derived.Recover
import Derived.Laws.Pointers
import Derived.Test.YtmjkjmoeicnbnaaGreatDoorG03
namespace Go.Proofs.YtmjkjmoeicnbnaaGreatDoor.Lg
set_option maxRecDepth 100000
set_option linter.unusedVariables false
set_option linter.unusedSimpArgs false
open Go
def upV(x:Int):Value:=.iface 165 (.agg #[.int .i64 x])
def upE(x:Int):List PanicEntry:=[{ v:=upV x,recovered:=false }]
end Go.Proofs.YtmjkjmoeicnbnaaGreatDoor.Lg
