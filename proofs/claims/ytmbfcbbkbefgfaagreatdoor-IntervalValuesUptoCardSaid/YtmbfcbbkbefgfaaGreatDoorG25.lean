/- A part. -/
import Derived.Test.YtmbfcbbkbefgfaaGreatDoorG15
set_option linter.all false
namespace Go.Proofs.YtmbfcbbkbefgfaaGreatDoor
open Go
def SlV.cells{h:Heap}{A:Option Addr}{xs:List Value}(s:SlV h A xs):xs=[]\/∃ a,A=some a/\∀ j v,xs[j]? = some v->h.cell? (a.add j)=some v:=by
 by_cases g:xs=[]
 ·exact .inl g
 ·right
  have d:0<xs.length:=List.length_pos_iff.2 g
  obtain ⟨a,k,_⟩:=s.at (i:=0) d
  refine ⟨a,k,fun j v e=>?_⟩
  have b:j<xs.length:=by
   by_cases l:j<xs.length
   ·exact l
   ·rw [List.getElem?_eq_none (by omega)] at e;cases e
  obtain ⟨n,c,m⟩:=s.at (i:=j) b
  rw [k] at c
  cases c
  rw [List.getElem?_eq_getElem b] at e
  cases e
  exact m
