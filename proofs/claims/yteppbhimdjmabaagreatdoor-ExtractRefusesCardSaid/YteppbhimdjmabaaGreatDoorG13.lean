/- A part. -/
import Derived.Test.YteppbhimdjmabaaGreatDoorG11
set_option linter.all false
namespace Go.Proofs.YteppbhimdjmabaaGreatDoor
open Go
def Bc{w:Nat}{x:Int}(h0:0<=x)(h1:x<(2^w:Nat)):(BitVec.ofInt w x).toNat=x.toNat:=by grind
def B4z{x y:Int}(hx:0<=x/\x<18446744073709551616)(hy:0<=y/\y<18446744073709551616):A2g .u64 x y=((x.toNat &&& y.toNat:Nat):Int):=by have a:IntKind.u64.bits=64:=rfl;have b:x.toNat &&& y.toNat<=x.toNat:=Nat.and_le_left;unfold A2g;rw[a,BitVec.toNat_and,Bc hx.1 hx.2,Bc hy.1 hy.2];exact C5 o o
def A7h{x y:Int}(hx:0<=x/\x<18446744073709551616)(hy:0<=y/\y<18446744073709551616):bor .u64 x y=((x.toNat ||| y.toNat:Nat):Int):=by have a:IntKind.u64.bits=64:=rfl;have b:x.toNat ||| y.toNat<2^64:=Nat.or_lt_two_pow o o;unfold bor;rw[a,BitVec.toNat_or,Bc hx.1 hx.2,Bc hy.1 hy.2];exact C5 o o
def C5s{x y:Int}(hx:0<=x/\x<4294967296)(hy:0<=y/\y<4294967296):bor .u32 x y=((x.toNat ||| y.toNat:Nat):Int):=by have a:IntKind.u32.bits=32:=rfl;have b:x.toNat ||| y.toNat<2^32:=Nat.or_lt_two_pow o o;unfold bor;rw[a,BitVec.toNat_or,Bc hx.1 hx.2,Bc hy.1 hy.2];exact T5 o o
def A01{x:Int}(hx:0<=x/\x<18446744073709551616):A2g .u64 x 1=x%2:=by rw[B4z hx o];grind
def Dc{x:Int}(hx:0<=x/\x<18446744073709551616):A2g .u64 x 4294967295=x%4294967296:=by rw[B4z hx o];have:x.toNat &&& (4294967295:Int).toNat=x.toNat%2^32:=Nat.and_two_pow_sub_one_eq_mod _ 32;omega
def A8f{a b i:Nat}(hb:b<2^i):(2^i*a) ||| b=2^i*a+b:=(Nat.two_pow_add_eq_or_of_lt hb a).symm
def A25{r d:Int}(hr:0<=r/\r<4294967296)(hd:0<=d/\d<4294967296):bor .u64 (r*4294967296) d=r*4294967296+d:=by rw[A7h o o];have e:(r*4294967296).toNat=2^32*r.toNat:=o;rw[e,A8f (i:=32) o];omega
