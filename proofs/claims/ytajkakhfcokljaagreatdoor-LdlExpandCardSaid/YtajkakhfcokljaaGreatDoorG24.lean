/-
  Texts of this proof, merged by a program of ours.
-/
import Derived.Test.YtajkakhfcokljaaGreatDoorG19
set_option linter.all false
namespace Go.Proofs.YtajkakhfcokljaaGreatDoor
open Go
theorem SlV.cells{h:Heap}{A:Option Addr}{xs:List Value}(s:SlV h A xs):xs=[]\/∃ a,A=some a/\∀ j v,xs[j]? = some v->h.cell? (a.add j)=some v:=by
 by_cases h0:xs=[]
 ·exact .inl h0
 ·right
  have hpos:0<xs.length:=List.length_pos_iff.2 h0
  obtain ⟨a,ha,_⟩:=s.at (i:=0) hpos
  refine ⟨a,ha,fun j v hj=>?_⟩
  have hjl:j<xs.length:=by
   by_cases hl:j<xs.length
   ·exact hl
   ·rw [List.getElem?_eq_none (by omega)] at hj;cases hj
  obtain ⟨a',ha',hc⟩:=s.at (i:=j) hjl
  rw [ha] at ha'
  cases ha'
  rw [List.getElem?_eq_getElem hjl] at hj
  cases hj
  exact hc
end Go.Proofs.YtajkakhfcokljaaGreatDoor
