/-
  Texts of this proof, merged by a program of ours: Vc.
-/
import Derived.Test.YtekkjhmfjplljaaGreatDoorProg
import Derived.Test.YtekkjhmfjplljaaGreatDoorG05
/-
  Written by wip/tools/vcgen.py: what is asked of each function's body; each equation is checked by the kernel.
-/
namespace Go.Proofs.YtekkjhmfjplljaaGreatDoor
open Go
set_option maxRecDepth 100000
set_option linter.unusedVariables false
variable {h : Heap} {K : Value -> Heap -> Prop}
abbrev f_NTrim : Nat := 118
abbrev f_NCmpMag : Nat := 190
abbrev f_NAddMag : Nat := 189
abbrev f_NSubMag : Nat := 191
abbrev f_NMulMag : Nat := 169
abbrev f_NSmallDiv : Nat := 152
abbrev f_NShiftLeft : Nat := 119
abbrev f_NDivMag : Nat := 170
abbrev f_NMake1 : Nat := 117
abbrev f_NFromInt : Nat := 67
abbrev f_NSign : Nat := 154
abbrev f_NNeg : Nat := 71
abbrev f_NAdd : Nat := 155
abbrev f_NSub : Nat := 125
abbrev f_NMul : Nat := 122
abbrev f_NQuoRem : Nat := 124
abbrev f_NGcd : Nat := 167
abbrev f_NBits : Nat := 168
abbrev f_NShift : Nat := 66
abbrev f_NDigits : Nat := 92
abbrev f_NFromDigits : Nat := 153
abbrev f_NDen1 : Nat := 123
abbrev f_NFrac : Nat := 121
abbrev f_NR : Nat := 97
abbrev f_NRSign : Nat := 120
abbrev f_NRNeg : Nat := 72
abbrev f_NRAdd : Nat := 96
abbrev f_NRSub : Nat := 95
abbrev f_NRMul : Nat := 70
abbrev f_NRDiv : Nat := 68
abbrev f_NRCmp : Nat := 75
abbrev f_NFloor : Nat := 69
abbrev f_NText : Nat := 32
abbrev f_NRead : Nat := 93
abbrev f_NNum : Nat := 33
abbrev ty_string : Nat := 9
abbrev ty_tU32s : Nat := 46
abbrev ty_tU32s_e : Nat := 148
abbrev ty_tBytes : Nat := 172
abbrev ty_tBytes_e : Nat := 5
theorem tBytes : SliceT Tryz.prog ty_tBytes ty_tBytes_e (Y (0 : Int)) 1 1 := ⟨by kernel_rfl, by kernel_rfl, rfl, by decide⟩
theorem tBytes_one : Tryz.prog.cellsOf ty_tBytes_e = 1 /\ (Tryz.prog.info? ty_tBytes_e).isSome = true := ⟨by kernel_rfl, by kernel_rfl⟩
abbrev ty_tRats : Nat := 155
abbrev ty_tRats_e : Nat := 50
abbrev ty_tStrings : Nat := 75
abbrev ty_tStrings_e : Nat := 9
theorem tStrings : SliceT Tryz.prog ty_tStrings ty_tStrings_e (.string ({ data := #[] } : ByteArray)) 1 16 := ⟨by kernel_rfl, by kernel_rfl, rfl, by decide⟩
end Go.Proofs.YtekkjhmfjplljaaGreatDoor
