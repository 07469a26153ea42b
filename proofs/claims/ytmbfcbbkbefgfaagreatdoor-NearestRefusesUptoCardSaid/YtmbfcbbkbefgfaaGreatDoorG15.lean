/- A part. -/
import Derived.Test.YtmbfcbbkbefgfaaGreatDoorG11
set_option linter.all false
namespace Go.Proofs.YtmbfcbbkbefgfaaGreatDoor
open Go
def X3{w:Nat}{x:Int}(h0:0<=x)(h1:x<(2^w:Nat)):(BitVec.ofInt w x).toNat=x.toNat:=by
 rw [BitVec.toNat_ofInt]
 rw [Int.emod_eq_of_lt h0 h1]
def B4k{x y:Int}(hx:0<=x/\x<18446744073709551616)(hy:0<=y/\y<18446744073709551616):Re .u64 x y=((x.toNat &&& y.toNat:Nat):Int):=by
 have b:IntKind.u64.bits=64:=rfl
 have a:x.toNat &&& y.toNat<=x.toNat:=Nat.and_le_left
 unfold Re
 rw [b,BitVec.toNat_and,X3 hx.1 hx.2,X3 hy.1 hy.2]
 exact C2 (by omega) (by omega)
def A72{x y:Int}(hx:0<=x/\x<18446744073709551616)(hy:0<=y/\y<18446744073709551616):bor .u64 x y=((x.toNat ||| y.toNat:Nat):Int):=by
 have b:IntKind.u64.bits=64:=rfl
 have a:x.toNat ||| y.toNat<2^64:=Nat.or_lt_two_pow (by omega) (by omega)
 unfold bor
 rw [b,BitVec.toNat_or,X3 hx.1 hx.2,X3 hy.1 hy.2]
 exact C2 (by omega) (by omega)
def C3w{x y:Int}(hx:0<=x/\x<4294967296)(hy:0<=y/\y<4294967296):bor .u32 x y=((x.toNat ||| y.toNat:Nat):Int):=by
 have b:IntKind.u32.bits=32:=rfl
 have a:x.toNat ||| y.toNat<2^32:=Nat.or_lt_two_pow (by omega) (by omega)
 unfold bor
 rw [b,BitVec.toNat_or,X3 hx.1 hx.2,X3 hy.1 hy.2]
 exact O1 (by omega) (by omega)
def Zb{x:Int}(hx:0<=x/\x<18446744073709551616):Re .u64 x 1=x%2:=by
 rw [B4k hx (by omega)]
 have:x.toNat &&& (1:Int).toNat=x.toNat%2:=Nat.and_one_is_mod _
 rw [this];omega
def Cg{x:Int}(hx:0<=x/\x<18446744073709551616):Re .u64 x 4294967295=x%4294967296:=by
 rw [B4k hx (by omega)]
 have:x.toNat &&& (4294967295:Int).toNat=x.toNat%2^32:=Nat.and_two_pow_sub_one_eq_mod _ 32
 rw [this];omega
def A8e{a b i:Nat}(hb:b<2^i):(2^i*a) ||| b=2^i*a+b:=(Nat.two_pow_add_eq_or_of_lt hb a).symm
def A1t{r d:Int}(hr:0<=r/\r<4294967296)(hd:0<=d/\d<4294967296):bor .u64 (r*4294967296) d=r*4294967296+d:=by
 rw [A72 (by omega) (by omega)]
 have e:(r*4294967296).toNat=2^32*r.toNat:=by omega
 rw [e,A8e (i:=32) (by omega)];omega
