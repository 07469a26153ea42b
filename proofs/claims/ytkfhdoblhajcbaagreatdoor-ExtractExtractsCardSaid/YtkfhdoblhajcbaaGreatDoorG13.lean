/- A part. -/
import Derived.Test.YtkfhdoblhajcbaaGreatDoorG11
set_option linter.all false
namespace Go.Proofs.YtkfhdoblhajcbaaGreatDoor
open Go
def Ba{w:Nat}{x:Int}(h0:0<=x)(h1:x<(2^w:Nat)):(BitVec.ofInt w x).toNat=x.toNat:=by grind
def B2w{x y:Int}(hx:0<=x/\x<18446744073709551616)(hy:0<=y/\y<18446744073709551616):A0y .u64 x y=((x.toNat &&& y.toNat:Nat):Int):=by have c:IntKind.u64.bits=64:=rfl;have d:x.toNat &&& y.toNat<=x.toNat:=Nat.and_le_left;unfold A0y;rw[c,BitVec.toNat_and,Ba hx.1 hx.2,Ba hy.1 hy.2];exact C6 o o
def A5v{x y:Int}(hx:0<=x/\x<18446744073709551616)(hy:0<=y/\y<18446744073709551616):bor .u64 x y=((x.toNat ||| y.toNat:Nat):Int):=by have c:IntKind.u64.bits=64:=rfl;have d:x.toNat ||| y.toNat<2^64:=Nat.or_lt_two_pow o o;unfold bor;rw[c,BitVec.toNat_or,Ba hx.1 hx.2,Ba hy.1 hy.2];exact C6 o o
def C31{x y:Int}(hx:0<=x/\x<4294967296)(hy:0<=y/\y<4294967296):bor .u32 x y=((x.toNat ||| y.toNat:Nat):Int):=by have c:IntKind.u32.bits=32:=rfl;have d:x.toNat ||| y.toNat<2^32:=Nat.or_lt_two_pow o o;unfold bor;rw[c,BitVec.toNat_or,Ba hx.1 hx.2,Ba hy.1 hy.2];exact Z9 o o
def Yj{x:Int}(hx:0<=x/\x<18446744073709551616):A0y .u64 x 1=x%2:=by rw[B2w hx o];grind
def Co{x:Int}(hx:0<=x/\x<18446744073709551616):A0y .u64 x 4294967295=x%4294967296:=by rw[B2w hx o];have:x.toNat &&& (4294967295:Int).toNat=x.toNat%2^32:=Nat.and_two_pow_sub_one_eq_mod _ 32;omega
def A73{a b i:Nat}(hb:b<2^i):(2^i*a) ||| b=2^i*a+b:=(Nat.two_pow_add_eq_or_of_lt hb a).symm
def A0m{r d:Int}(hr:0<=r/\r<4294967296)(hd:0<=d/\d<4294967296):bor .u64 (r*4294967296) d=r*4294967296+d:=by rw[A5v o o];have e:(r*4294967296).toNat=2^32*r.toNat:=o;rw[e,A73 (i:=32) o];omega
