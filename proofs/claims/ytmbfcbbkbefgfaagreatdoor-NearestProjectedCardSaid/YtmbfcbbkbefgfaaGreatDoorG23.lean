/- A part. -/
import Derived.Test.YtmbfcbbkbefgfaaGreatDoorG19
set_option linter.all false
namespace Go.Proofs.YtmbfcbbkbefgfaaGreatDoor
open Go
def SlV.cells{h:Heap}{A:Option Addr}{xs:List Value}(s:SlV h A xs):xs=[]\/∃ a,A=some a/\∀ j v,xs[j]? = some v->h.cell? (a.add j)=some v:=by
 by_cases f:xs=[]
 ·exact .inl f
 ·right
  have c:0<xs.length:=List.length_pos_iff.2 f
  obtain ⟨a,g,_⟩:=s.at (i:=0) c
  refine ⟨a,g,fun j v e=>?_⟩
  have d:j<xs.length:=by
   by_cases k:j<xs.length
   ·exact k
   ·rw [List.getElem?_eq_none (by omega)] at e;cases e
  obtain ⟨m,b,l⟩:=s.at (i:=j) d
  rw [g] at b
  cases b
  rw [List.getElem?_eq_getElem d] at e
  cases e
  exact l
