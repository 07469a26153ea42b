/-
  Texts of this proof, merged by a program of ours.
-/
import Derived.Test.YthilnfgnpdeofaaGreatDoorProg
import Derived.Test.YthilnfgnpdeofaaGreatDoorG05
namespace Go.Proofs.YthilnfgnpdeofaaGreatDoor
open Go
set_option maxRecDepth 100000
set_option linter.unusedVariables false
variable {h:Heap} {K:Value->Heap->Prop}
abbrev B3t:Nat:=167
abbrev B1t:Nat:=185
abbrev B1u:Nat:=180
abbrev B1o:Nat:=186
abbrev B1q:Nat:=181
abbrev A9p:Nat:=146
abbrev A80:Nat:=232
abbrev B1r:Nat:=209
abbrev B31:Nat:=144
abbrev B0u:Nat:=118
abbrev B3v:Nat:=90
abbrev B4r:Nat:=179
abbrev B4u:Nat:=147
abbrev B4s:Nat:=148
abbrev B1p:Nat:=184
abbrev B4t:Nat:=182
abbrev B45:Nat:=183
abbrev B1s:Nat:=86
abbrev A6s:Nat:=143
abbrev B44:Nat:=149
abbrev B43:Nat:=145
abbrev B5r:Nat:=59
abbrev B30:Nat:=32
abbrev B3y:Nat:=140
abbrev B41:Nat:=87
abbrev B3x:Nat:=107
abbrev B3z:Nat:=88
abbrev B40:Nat:=106
abbrev B3u:Nat:=28
abbrev B3w:Nat:=85
abbrev B42:Nat:=26
abbrev B2z:Nat:=84
abbrev A28:Nat:=9
abbrev B2s:Nat:=50
abbrev B0p:Nat:=178
abbrev Dg:Nat:=181
abbrev F9:Nat:=5
theorem Fn:SliceT Tryz.prog Dg F9 (Y (0:Int)) 1 1:=⟨by kernel_rfl,by kernel_rfl,rfl,by decide⟩
theorem A0n:Tryz.prog.cellsOf F9=1/\(Tryz.prog.info? F9).isSome=true:=⟨by kernel_rfl,by kernel_rfl⟩
abbrev B2t:Nat:=43
abbrev B0q:Nat:=54
abbrev Me:Nat:=22
abbrev K7:Nat:=9
theorem Ev:SliceT Tryz.prog Me K7 (.string ({ data:=#[] }:ByteArray)) 1 16:=⟨by kernel_rfl,by kernel_rfl,rfl,by decide⟩
theorem Uo:Tryz.prog.cellsOf K7=1/\(Tryz.prog.info? K7).isSome=true:=⟨by kernel_rfl,by kernel_rfl⟩
end Go.Proofs.YthilnfgnpdeofaaGreatDoor
