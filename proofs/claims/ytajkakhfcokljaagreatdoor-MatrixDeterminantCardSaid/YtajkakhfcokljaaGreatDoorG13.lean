/-
  Texts of this proof, merged by a program of ours.
-/
import Derived.Test.YtajkakhfcokljaaGreatDoorProg
import Derived.Test.YtajkakhfcokljaaGreatDoorG05
import Derived.Test.YtajkakhfcokljaaGreatDoorG06
open Go.Proofs.Tryz
set_option linter.all false
namespace Go.Proofs.YtajkakhfcokljaaGreatDoor
open Go
set_option maxRecDepth 100000
variable {h:Heap} {K:VP}
abbrev B6j:Nat:=211
abbrev B4p:Nat:=240
abbrev B4q:Nat:=209
abbrev B4k:Nat:=241
abbrev B4m:Nat:=210
abbrev B2l:Nat:=224
abbrev B0r:Nat:=258
abbrev B4n:Nat:=242
abbrev B5v:Nat:=171
abbrev B3r:Nat:=173
abbrev B6l:Nat:=101
abbrev B7i:Nat:=208
abbrev B7l:Nat:=207
abbrev B7j:Nat:=174
abbrev B4l:Nat:=214
abbrev B7k:Nat:=212
abbrev B6w:Nat:=213
abbrev B4o:Nat:=188
abbrev A9c:Nat:=170
abbrev B6v:Nat:=175
abbrev B6u:Nat:=172
abbrev B8f:Nat:=109
abbrev B5u:Nat:=39
abbrev B6o:Nat:=164
abbrev B6s:Nat:=163
abbrev B6n:Nat:=94
abbrev B6p:Nat:=110
abbrev B6q:Nat:=169
abbrev B6r:Nat:=108
abbrev B6k:Nat:=131
abbrev B6m:Nat:=100
abbrev B7h:Nat:=91
abbrev B6t:Nat:=38
abbrev B5t:Nat:=123
abbrev A4a:Nat:=9
abbrev B5o:Nat:=62
abbrev B3o:Nat:=237
abbrev Ds:Nat:=199
abbrev F9:Nat:=5
theorem Dv:SliceT prog Ds F9 (Y (0:Int)) 1 1:=⟨by kernel_rfl,by kernel_rfl,rfl,by decide⟩
theorem A2m:prog.cellsOf F9=1/\(prog.info? F9).isSome=true:=⟨by kernel_rfl,by kernel_rfl⟩
abbrev B5p:Nat:=58
abbrev B3p:Nat:=66
abbrev Zn:Nat:=23
abbrev Ch:Nat:=9
theorem My:SliceT prog Zn Ch (.string ({ data:=#[] }:ByteArray)) 1 16:=⟨by kernel_rfl,by kernel_rfl,rfl,by decide⟩
theorem Wq:prog.cellsOf Ch=1/\(prog.info? Ch).isSome=true:=⟨by kernel_rfl,by kernel_rfl⟩
end Go.Proofs.YtajkakhfcokljaaGreatDoor
