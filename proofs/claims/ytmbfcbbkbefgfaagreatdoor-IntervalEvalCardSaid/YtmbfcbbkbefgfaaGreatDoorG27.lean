/- A part. -/
import Derived.Test.YtmbfcbbkbefgfaaGreatDoorG18
set_option linter.all false
namespace Go.Proofs.YtmbfcbbkbefgfaaGreatDoor
open Go
set_option maxRecDepth 100000
variable {h:Heap} {K:VP}
