/- A part. -/
import Derived.Test.YtmbfcbbkbefgfaaGreatDoorG06
set_option linter.all false
namespace Go.Proofs.YtmbfcbbkbefgfaaGreatDoor
open Go
def Ds{w:Nat}{x:Int}(h0:0<=x)(h1:x<(2^w:Nat)):(BitVec.ofInt w x).toNat=x.toNat:=by
 rw [BitVec.toNat_ofInt]
 rw [Int.emod_eq_of_lt h0 h1]
def A90{x y:Int}(hx:0<=x/\x<18446744073709551616)(hy:0<=y/\y<18446744073709551616):So .u64 x y=((x.toNat &&& y.toNat:Nat):Int):=by
 have a:IntKind.u64.bits=64:=rfl
 have b:x.toNat &&& y.toNat<=x.toNat:=Nat.and_le_left
 unfold So
 rw [a,BitVec.toNat_and,Ds hx.1 hx.2,Ds hy.1 hy.2]
 exact C2 (by omega) (by omega)
def A5b{x y:Int}(hx:0<=x/\x<18446744073709551616)(hy:0<=y/\y<18446744073709551616):bor .u64 x y=((x.toNat ||| y.toNat:Nat):Int):=by
 have a:IntKind.u64.bits=64:=rfl
 have b:x.toNat ||| y.toNat<2^64:=Nat.or_lt_two_pow (by omega) (by omega)
 unfold bor
 rw [a,BitVec.toNat_or,Ds hx.1 hx.2,Ds hy.1 hy.2]
 exact C2 (by omega) (by omega)
def Uq{x:Int}(hx:0<=x/\x<18446744073709551616):So .u64 x 1=x%2:=by
 rw [A90 hx (by omega)]
 have:x.toNat &&& (1:Int).toNat=x.toNat%2:=Nat.and_one_is_mod _
 rw [this];omega
def Dc{x:Int}(hx:0<=x/\x<18446744073709551616):So .u64 x 4294967295=x%4294967296:=by
 rw [A90 hx (by omega)]
 have:x.toNat &&& (4294967295:Int).toNat=x.toNat%2^32:=Nat.and_two_pow_sub_one_eq_mod _ 32
 rw [this];omega
def B37{a b i:Nat}(hb:b<2^i):(2^i*a) ||| b=2^i*a+b:=(Nat.two_pow_add_eq_or_of_lt hb a).symm
