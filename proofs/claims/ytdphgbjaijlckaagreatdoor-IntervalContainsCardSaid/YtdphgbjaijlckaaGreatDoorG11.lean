/- A part. -/
import Derived.Test.YtdphgbjaijlckaaGreatDoorG10
open Go.Proofs.Tryz
set_option linter.all false
namespace Go.Proofs.YtdphgbjaijlckaaGreatDoor
open Go
def A31{α:Type}(l:List α):(List.toArray l).toList=l:=rfl
def A3q{α:Type}(l:List α):[]++l=l:=rfl
def A3p{α:Type}(a:α)(l m:List α):(a::l)++m=a::(l++m):=rfl
def A34{α:Type}(l:List α):l.take 0=[]:=rfl
def A32{α:Type}(n:Nat):([]:List α).take (n+1)=[]:=rfl
def A3k{α:Type}(n:Nat):([]:List α).drop (n+1)=[]:=rfl
def A33{α:Type}(a:α)(l:List α)(n:Nat):(a::l).take (n+1)=a::l.take n:=rfl
def A3m{α:Type}(l:List α):l.drop 0=l:=rfl
def A3l{α:Type}(a:α)(l:List α)(n:Nat):(a::l).drop (n+1)=l.drop n:=rfl
def A3e{α:Type}:([]:List α).length=0:=rfl
def A3d{α:Type}(a:α)(l:List α):(a::l).length=l.length+1:=rfl
def A3h{α:Type}(a:α):([]:List α).getD 0 a=a:=rfl
def A3g{α:Type}(a b:α)(l:List α):(b::l).getD 0 a=b:=rfl
def A3f{α:Type}(a b:α)(l:List α)(n:Nat):(b::l).getD (n+1) a=l.getD n a:=rfl
def A3i{α:Type}(a b:α)(l:List α):(b::l).headD a=b:=rfl
def A30{α:Type}(b:α)(l:List α):(b::l).tail=l:=rfl
def A3o{α:Type}(a b:α):cond true a b=a:=rfl
def A3n{α:Type}(a b:α):cond false a b=b:=rfl
def A3s(b:Bool):(true&&b)=b:=rfl
def A3r(b:Bool):(false&&b)=false:=rfl
def A37(b:Bool):(true||b)=true:=rfl
def A36(b:Bool):(false||b)=b:=rfl
def A3b:(!true)=false:=rfl
def A3a:(!false)=true:=rfl
def Yr:Nat->List Value->En
 | _,[]=>[]
 | n,v::r=>(n,.v v)::Yr (n+1) r
def fnk{f:Nat}{fn:Func}(hf:prog.funcs[f]? = some fn)(ls cs:List La:=[])(os:List (Nat × List Nat):=[])(rs:List (Nat × List Value):=[])(al:List (Nat × List (Nat × List Nat)):=[])(own wr:List Nat:=[]){args:List Value}{h:Heap}{K:VP}{T:Heap->(VP)->Prop}
 (_g:∀ h K,Gen (J5 100000 ⟨⟨A0b ls,A0b cs,A2n os,rs,al⟩,fn.results.toList,own,wr,K⟩ [.c (Ba fn)] (Yr 0 args) [] h) (T h K):=by
  intro h K
  conv=>lhs;arg 3;arg 1;arg 1;whnf
  conv=>lhs;arg 2;arg 2;whnf
  set_option maxRecDepth 100000 in
  dsimp only [A0b,A2n,undef,A32,A3k,A4b,Vj,Rx,A09,A1l,A1p,A2o,A0n,A2z,Yj,A19,Yy,A49,A16,Ym,A1i,A1o,Yu,Yv,A38,Qt,A48,A1q,Ps,Rw,Kq,Kn,Kp,Fv,Vo,A2p,A1d,Vk,Ry,Ko,Ww,Rs,Ye,Up,Yw,Jw,Me,A1n,Vp,On,A39,A3c,Yd,A0p,Bg,Ni,Co,A0s,A1b,A1c,A1f,Pu,Om,Rt,A1k,A1u,Yx,Yq,Wz,A1r,Wx,Xa,A15,Yk,Yp,Yl,A47,Xb,A1e,A1t,A0a,Rv,A0z,A18,A14,A0m,A1m,A0q,A4a,Ys,Yt,Yc,A0t,Ru,A0u,Au,Vm,Vl,Yo,Yn,A1a,A2m,A35,A13,Vi,A1g,Nh,Vn,Yg,Yi,Yh,A12,A1h,A1j,A11,A0w,A0v,A0r,A1s,A17,A0x,A4c,A0y,J5,Ba,Yr,cellsAt,Grow,Dk,A31,A3q,A3p,A34,A33,A3m,A3l,A3e,A3d,A3h,A3g,A3f,A3i,A30,A3o,A3n,A3s,A3r,A37,A36,A3b,A3a,Cn,A0o,A3j,Wy,Nat.reduceAdd,Nat.reduceMul,Int.reduceAbs,Nat.reduceBEq]
  exact A4j)
 (e:∀ h K,(fn.body.isSome,A2k prog (Xs own (Ba fn) ⟨A0b ls,A0b cs,A2n os,rs,al⟩) ⟨args.length+(fn.ntmps-args.length),own,none,A0c,wr,false⟩ fn.results.toList (Ba fn) args h K)=(true,T h K):=by intro h K;kernel_rfl) (hvc:T h K):FCall prog f args.toArray h K:=by
 obtain ⟨d,a⟩:=Prod.mk.inj (e h K)
 have b:fn.body=some (Ba fn):=by
  unfold Ba
  grind
 exact Oz hf b rfl rfl bod (a.mpr hvc)
