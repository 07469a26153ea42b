/- A part. -/
import Derived.Test.YtdphgbjaijlckaaGreatDoorG06
set_option linter.all false
namespace Go.Proofs.YtdphgbjaijlckaaGreatDoor
open Go
def Z5{w:Nat}{x:Int}(h0:0<=x)(h1:x<(2^w:Nat)):(BitVec.ofInt w x).toNat=x.toNat:=by
 grind
def Zo{x y:Int}(hx:0<=x/\x<18446744073709551616)(hy:0<=y/\y<18446744073709551616):Vo .u64 x y=((x.toNat &&& y.toNat:Nat):Int):=by
 have a:IntKind.u64.bits=64:=rfl
 have b:x.toNat &&& y.toNat<=x.toNat:=Nat.and_le_left
 unfold Vo
 rw [a,BitVec.toNat_and,Z5 hx.1 hx.2,Z5 hy.1 hy.2]
 exact C0 o o
def Vm{x y:Int}(hx:0<=x/\x<18446744073709551616)(hy:0<=y/\y<18446744073709551616):bor .u64 x y=((x.toNat ||| y.toNat:Nat):Int):=by
 have a:IntKind.u64.bits=64:=rfl
 have b:x.toNat ||| y.toNat<2^64:=Nat.or_lt_two_pow o o
 unfold bor
 rw [a,BitVec.toNat_or,Z5 hx.1 hx.2,Z5 hy.1 hy.2]
 exact C0 o o
def Ld{x:Int}(hx:0<=x/\x<18446744073709551616):Vo .u64 x 1=x%2:=by
 rw [Zo hx o]
 grind
def X5{x:Int}(hx:0<=x/\x<18446744073709551616):Vo .u64 x 4294967295=x%4294967296:=by
 rw [Zo hx o]
 have:x.toNat &&& (4294967295:Int).toNat=x.toNat%2^32:=Nat.and_two_pow_sub_one_eq_mod _ 32
 omega
def A2k{a b i:Nat}(hb:b<2^i):(2^i*a) ||| b=2^i*a+b:=(Nat.two_pow_add_eq_or_of_lt hb a).symm
