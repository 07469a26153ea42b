/-
  Texts of this proof, merged by a program of ours.
-/
import Derived.Test.YthilnfgnpdeofaaGreatDoorG10
namespace Go.Proofs.YthilnfgnpdeofaaGreatDoor
open Go
theorem Cu{w:Nat}{x:Int}(h0:0<=x)(h1:x<(2^w:Nat)):(BitVec.ofInt w x).toNat=x.toNat:=by
 rw [BitVec.toNat_ofInt]
 rw [Int.emod_eq_of_lt h0 h1]
theorem B09{x y:Int}(hx:0<=x/\x<18446744073709551616)(hy:0<=y/\y<18446744073709551616):Uz .u64 x y=((x.toNat &&& y.toNat:Nat):Int):=by
 have hk:IntKind.u64.bits=64:=rfl
 have hle:x.toNat &&& y.toNat<=x.toNat:=Nat.and_le_left
 unfold Uz
 rw [hk,BitVec.toNat_and,Cu hx.1 hx.2,Cu hy.1 hy.2]
 exact C6 (by omega) (by omega)
theorem A2z{x y:Int}(hx:0<=x/\x<18446744073709551616)(hy:0<=y/\y<18446744073709551616):bor .u64 x y=((x.toNat ||| y.toNat:Nat):Int):=by
 have hk:IntKind.u64.bits=64:=rfl
 have hle:x.toNat ||| y.toNat<2^64:=Nat.or_lt_two_pow (by omega) (by omega)
 unfold bor
 rw [hk,BitVec.toNat_or,Cu hx.1 hx.2,Cu hy.1 hy.2]
 exact C6 (by omega) (by omega)
theorem Ce{x:Int}(hx:0<=x/\x<18446744073709551616):Uz .u64 x 4294967295=x%4294967296:=by
 rw [B09 hx (by omega)]
 have:x.toNat &&& (4294967295:Int).toNat=x.toNat%2^32:=Nat.and_two_pow_sub_one_eq_mod _ 32
 rw [this];omega
theorem A9o{a b i:Nat}(hb:b<2^i):(2^i*a) ||| b=2^i*a+b:=(Nat.two_pow_add_eq_or_of_lt hb a).symm
end Go.Proofs.YthilnfgnpdeofaaGreatDoor
