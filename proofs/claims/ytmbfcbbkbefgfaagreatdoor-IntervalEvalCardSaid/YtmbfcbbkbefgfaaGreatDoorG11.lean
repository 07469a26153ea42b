/- A part. -/
import Derived.Test.YtmbfcbbkbefgfaaGreatDoorG06
set_option linter.all false
namespace Go.Proofs.YtmbfcbbkbefgfaaGreatDoor
open Go
def T5{w:Nat}{x:Int}(h0:0<=x)(h1:x<(2^w:Nat)):(BitVec.ofInt w x).toNat=x.toNat:=by
 rw [BitVec.toNat_ofInt]
 rw [Int.emod_eq_of_lt h0 h1]
def B0g{x y:Int}(hx:0<=x/\x<18446744073709551616)(hy:0<=y/\y<18446744073709551616):Lk .u64 x y=((x.toNat &&& y.toNat:Nat):Int):=by
 have a:IntKind.u64.bits=64:=rfl
 have b:x.toNat &&& y.toNat<=x.toNat:=Nat.and_le_left
 unfold Lk
 rw [a,BitVec.toNat_and,T5 hx.1 hx.2,T5 hy.1 hy.2]
 exact B9 (by omega) (by omega)
def A41{x y:Int}(hx:0<=x/\x<18446744073709551616)(hy:0<=y/\y<18446744073709551616):bor .u64 x y=((x.toNat ||| y.toNat:Nat):Int):=by
 have a:IntKind.u64.bits=64:=rfl
 have b:x.toNat ||| y.toNat<2^64:=Nat.or_lt_two_pow (by omega) (by omega)
 unfold bor
 rw [a,BitVec.toNat_or,T5 hx.1 hx.2,T5 hy.1 hy.2]
 exact B9 (by omega) (by omega)
def B9v{x y:Int}(hx:0<=x/\x<4294967296)(hy:0<=y/\y<4294967296):bor .u32 x y=((x.toNat ||| y.toNat:Nat):Int):=by
 have a:IntKind.u32.bits=32:=rfl
 have b:x.toNat ||| y.toNat<2^32:=Nat.or_lt_two_pow (by omega) (by omega)
 unfold bor
 rw [a,BitVec.toNat_or,T5 hx.1 hx.2,T5 hy.1 hy.2]
 exact K5 (by omega) (by omega)
def Hw{x:Int}(hx:0<=x/\x<18446744073709551616):Lk .u64 x 1=x%2:=by
 rw [B0g hx (by omega)]
 have:x.toNat &&& (1:Int).toNat=x.toNat%2:=Nat.and_one_is_mod _
 rw [this];omega
def As{x:Int}(hx:0<=x/\x<18446744073709551616):Lk .u64 x 4294967295=x%4294967296:=by
 rw [B0g hx (by omega)]
 have:x.toNat &&& (4294967295:Int).toNat=x.toNat%2^32:=Nat.and_two_pow_sub_one_eq_mod _ 32
 rw [this];omega
def A50{a b i:Nat}(hb:b<2^i):(2^i*a) ||| b=2^i*a+b:=(Nat.two_pow_add_eq_or_of_lt hb a).symm
def Yy{r d:Int}(hr:0<=r/\r<4294967296)(hd:0<=d/\d<4294967296):bor .u64 (r*4294967296) d=r*4294967296+d:=by
 rw [A41 (by omega) (by omega)]
 have e:(r*4294967296).toNat=2^32*r.toNat:=by omega
 rw [e,A50 (i:=32) (by omega)];omega
