/-
  Texts of this proof, merged by a program of ours.
-/
import Derived.Test.YthilnfgnpdeofaaGreatDoorProg
import Derived.Test.YthilnfgnpdeofaaGreatDoorG05
namespace Go.Proofs.YthilnfgnpdeofaaGreatDoor
open Go
set_option maxRecDepth 100000
set_option linter.unusedVariables false
variable {h:Heap} {K:Value->Heap->Prop}
abbrev B5y:Nat:=167
abbrev B40:Nat:=185
abbrev B41:Nat:=180
abbrev B3v:Nat:=186
abbrev B3x:Nat:=181
abbrev B1v:Nat:=146
abbrev A9x:Nat:=232
abbrev B3y:Nat:=209
abbrev B56:Nat:=144
abbrev B2z:Nat:=118
abbrev B60:Nat:=90
abbrev B6x:Nat:=179
abbrev B70:Nat:=147
abbrev B6y:Nat:=148
abbrev B3w:Nat:=184
abbrev B6z:Nat:=182
abbrev B6a:Nat:=183
abbrev B3z:Nat:=86
abbrev A8n:Nat:=143
abbrev B69:Nat:=149
abbrev B68:Nat:=145
abbrev B7w:Nat:=59
abbrev B55:Nat:=32
abbrev B63:Nat:=140
abbrev B66:Nat:=87
abbrev B62:Nat:=107
abbrev B64:Nat:=88
abbrev B65:Nat:=106
abbrev B5z:Nat:=28
abbrev B61:Nat:=85
abbrev B67:Nat:=26
abbrev B54:Nat:=84
abbrev A3y:Nat:=9
abbrev B4z:Nat:=50
abbrev B2u:Nat:=178
abbrev Eg:Nat:=181
abbrev G1:Nat:=5
theorem Gt:SliceT Tryz.prog Eg G1 (Y (0:Int)) 1 1:=⟨by kernel_rfl,by kernel_rfl,rfl,by decide⟩
theorem A29:Tryz.prog.cellsOf G1=1/\(Tryz.prog.info? G1).isSome=true:=⟨by kernel_rfl,by kernel_rfl⟩
abbrev B50:Nat:=43
abbrev B2v:Nat:=54
abbrev Za:Nat:=22
abbrev E5:Nat:=9
theorem Ax:SliceT Tryz.prog Za E5 (.string ({ data:=#[] }:ByteArray)) 1 16:=⟨by kernel_rfl,by kernel_rfl,rfl,by decide⟩
theorem Ls:Tryz.prog.cellsOf E5=1/\(Tryz.prog.info? E5).isSome=true:=⟨by kernel_rfl,by kernel_rfl⟩
end Go.Proofs.YthilnfgnpdeofaaGreatDoor
