/- A part. -/
import Derived.Test.YtmbfcbbkbefgfaaGreatDoorG05
import Derived.Test.YtmbfcbbkbefgfaaGreatDoorG08
open Go.Proofs.Tryz
set_option linter.all false
namespace Go.Proofs.YtmbfcbbkbefgfaaGreatDoor
open Go
set_option maxRecDepth 100000
variable {h:Heap} {K:VP}
abbrev C0n:Nat:=210
abbrev B8b:Nat:=264
abbrev B8c:Nat:=232
abbrev B86:Nat:=265
abbrev B88:Nat:=217
abbrev B5d:Nat:=252
abbrev B3g:Nat:=291
abbrev B89:Nat:=263
abbrev B9l:Nat:=154
abbrev B6s:Nat:=118
abbrev C0p:Nat:=134
abbrev C1r:Nat:=206
abbrev C1u:Nat:=215
abbrev C1s:Nat:=129
abbrev B87:Nat:=209
abbrev C1t:Nat:=207
abbrev C10:Nat:=208
abbrev B8a:Nat:=192
abbrev B1x:Nat:=153
abbrev C0z:Nat:=130
abbrev C0y:Nat:=117
abbrev C2w:Nat:=133
abbrev B9k:Nat:=58
abbrev C0s:Nat:=131
abbrev C0w:Nat:=127
abbrev C0r:Nat:=56
abbrev C0t:Nat:=55
abbrev C0u:Nat:=125
abbrev C0v:Nat:=155
abbrev C0o:Nat:=105
abbrev C0q:Nat:=78
abbrev C1q:Nat:=81
abbrev C0x:Nat:=54
abbrev B9j:Nat:=50
abbrev A6i:Nat:=9
abbrev B98:Nat:=77
abbrev B6m:Nat:=272
abbrev Fb:Nat:=248
abbrev G0:Nat:=5
def Fe:SliceT prog Fb G0 (Y (0:Int)) 1 1:=⟨by kernel_rfl,by kernel_rfl,rfl,by decide⟩
def A4m:prog.cellsOf G0=1/\(prog.info? G0).isSome=true:=⟨by kernel_rfl,by kernel_rfl⟩
abbrev B99:Nat:=75
abbrev B6n:Nat:=81
abbrev N6:Nat:=38
abbrev K5:Nat:=9
def Z5:SliceT prog N6 K5 (.string ({ data:=#[] }:ByteArray)) 1 16:=⟨by kernel_rfl,by kernel_rfl,rfl,by decide⟩
def Nj:prog.cellsOf K5=1/\(prog.info? K5).isSome=true:=⟨by kernel_rfl,by kernel_rfl⟩
