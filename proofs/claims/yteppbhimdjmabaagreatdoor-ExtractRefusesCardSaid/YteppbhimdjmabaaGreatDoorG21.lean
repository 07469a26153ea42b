/- A part. -/
import Derived.Test.YteppbhimdjmabaaGreatDoorG17
set_option linter.all false
namespace Go.Proofs.YteppbhimdjmabaaGreatDoor
open Go
def SlV.cells{h:Heap}{A:Option Addr}{xs:List Value}(s:SlV h A xs):xs=[]\/∃a,A=some a/\∀j v,xs[j]? = some v->h.cell? (a.add j)=some v:=by assumption
