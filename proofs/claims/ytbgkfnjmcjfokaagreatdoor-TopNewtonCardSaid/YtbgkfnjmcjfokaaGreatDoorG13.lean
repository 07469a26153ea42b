/- A part. -/
import Derived.Test.YtbgkfnjmcjfokaaGreatDoorG11
set_option linter.all false
namespace Go.Proofs.YtbgkfnjmcjfokaaGreatDoor
open Go
def Fa{w:Nat}{x:Int}(h0:0<=x)(h1:x<(2^w:Nat)):(BitVec.ofInt w x).toNat=x.toNat:=by
 grind
def B1c{x y:Int}(hx:0<=x/\x<18446744073709551616)(hy:0<=y/\y<18446744073709551616):A5f .u64 x y=((x.toNat &&& y.toNat:Nat):Int):=by
 have a:IntKind.u64.bits=64:=rfl
 have b:x.toNat &&& y.toNat<=x.toNat:=Nat.and_le_left
 unfold A5f
 rw [a,BitVec.toNat_and,Fa hx.1 hx.2,Fa hy.1 hy.2]
 exact C3 o o
def A6v{x y:Int}(hx:0<=x/\x<18446744073709551616)(hy:0<=y/\y<18446744073709551616):bor .u64 x y=((x.toNat ||| y.toNat:Nat):Int):=by
 have a:IntKind.u64.bits=64:=rfl
 have b:x.toNat ||| y.toNat<2^64:=Nat.or_lt_two_pow o o
 unfold bor
 rw [a,BitVec.toNat_or,Fa hx.1 hx.2,Fa hy.1 hy.2]
 exact C3 o o
def We{x:Int}(hx:0<=x/\x<18446744073709551616):A5f .u64 x 1=x%2:=by
 rw [B1c hx o]
 grind
def Eg{x:Int}(hx:0<=x/\x<18446744073709551616):A5f .u64 x 4294967295=x%4294967296:=by
 rw [B1c hx o]
 have:x.toNat &&& (4294967295:Int).toNat=x.toNat%2^32:=Nat.and_two_pow_sub_one_eq_mod _ 32
 omega
def B5n{a b i:Nat}(hb:b<2^i):(2^i*a) ||| b=2^i*a+b:=(Nat.two_pow_add_eq_or_of_lt hb a).symm
