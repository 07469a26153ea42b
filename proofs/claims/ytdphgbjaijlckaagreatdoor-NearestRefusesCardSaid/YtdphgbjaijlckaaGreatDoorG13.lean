/- A part. -/
import Derived.Test.YtdphgbjaijlckaaGreatDoorG11
set_option linter.all false
namespace Go.Proofs.YtdphgbjaijlckaaGreatDoor
open Go
def R6{w:Nat}{x:Int}(h0:0<=x)(h1:x<(2^w:Nat)):(BitVec.ofInt w x).toNat=x.toNat:=by
 grind
def A3v{x y:Int}(hx:0<=x/\x<18446744073709551616)(hy:0<=y/\y<18446744073709551616):Ru .u64 x y=((x.toNat &&& y.toNat:Nat):Int):=by
 have a:IntKind.u64.bits=64:=rfl
 have b:x.toNat &&& y.toNat<=x.toNat:=Nat.and_le_left
 unfold Ru
 rw [a,BitVec.toNat_and,R6 hx.1 hx.2,R6 hy.1 hy.2]
 exact C1 o o
def Xc{x y:Int}(hx:0<=x/\x<18446744073709551616)(hy:0<=y/\y<18446744073709551616):bor .u64 x y=((x.toNat ||| y.toNat:Nat):Int):=by
 have a:IntKind.u64.bits=64:=rfl
 have b:x.toNat ||| y.toNat<2^64:=Nat.or_lt_two_pow o o
 unfold bor
 rw [a,BitVec.toNat_or,R6 hx.1 hx.2,R6 hy.1 hy.2]
 exact C1 o o
def B1x{x y:Int}(hx:0<=x/\x<4294967296)(hy:0<=y/\y<4294967296):bor .u32 x y=((x.toNat ||| y.toNat:Nat):Int):=by
 have a:IntKind.u32.bits=32:=rfl
 have b:x.toNat ||| y.toNat<2^32:=Nat.or_lt_two_pow o o
 unfold bor
 rw [a,BitVec.toNat_or,R6 hx.1 hx.2,R6 hy.1 hy.2]
 exact L4 o o
def Ph{x:Int}(hx:0<=x/\x<18446744073709551616):Ru .u64 x 1=x%2:=by
 rw [A3v hx o]
 grind
def W5{x:Int}(hx:0<=x/\x<18446744073709551616):Ru .u64 x 4294967295=x%4294967296:=by
 rw [A3v hx o]
 have:x.toNat &&& (4294967295:Int).toNat=x.toNat%2^32:=Nat.and_two_pow_sub_one_eq_mod _ 32
 omega
def Yl{a b i:Nat}(hb:b<2^i):(2^i*a) ||| b=2^i*a+b:=(Nat.two_pow_add_eq_or_of_lt hb a).symm
def Rh{r d:Int}(hr:0<=r/\r<4294967296)(hd:0<=d/\d<4294967296):bor .u64 (r*4294967296) d=r*4294967296+d:=by
 rw [Xc o o]
 have e:(r*4294967296).toNat=2^32*r.toNat:=o
 rw [e,Yl (i:=32) o];omega
