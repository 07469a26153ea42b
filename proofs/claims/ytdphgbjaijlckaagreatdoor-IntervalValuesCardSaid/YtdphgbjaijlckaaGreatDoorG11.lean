/- A part. -/
import Derived.Test.YtdphgbjaijlckaaGreatDoorG10
open Go.Proofs.Tryz
set_option linter.all false
namespace Go.Proofs.YtdphgbjaijlckaaGreatDoor
open Go
def A89{α:Type}(l:List α):(List.toArray l).toList=l:=rfl
def A8y{α:Type}(l:List α):[]++l=l:=rfl
def A8x{α:Type}(a:α)(l m:List α):(a::l)++m=a::(l++m):=rfl
def A8c{α:Type}(l:List α):l.take 0=[]:=rfl
def A8a{α:Type}(n:Nat):([]:List α).take (n+1)=[]:=rfl
def A8s{α:Type}(n:Nat):([]:List α).drop (n+1)=[]:=rfl
def A8b{α:Type}(a:α)(l:List α)(n:Nat):(a::l).take (n+1)=a::l.take n:=rfl
def A8u{α:Type}(l:List α):l.drop 0=l:=rfl
def A8t{α:Type}(a:α)(l:List α)(n:Nat):(a::l).drop (n+1)=l.drop n:=rfl
def A8m{α:Type}:([]:List α).length=0:=rfl
def A8l{α:Type}(a:α)(l:List α):(a::l).length=l.length+1:=rfl
def A8p{α:Type}(a:α):([]:List α).getD 0 a=a:=rfl
def A8o{α:Type}(a b:α)(l:List α):(b::l).getD 0 a=b:=rfl
def A8n{α:Type}(a b:α)(l:List α)(n:Nat):(b::l).getD (n+1) a=l.getD n a:=rfl
def A8q{α:Type}(a b:α)(l:List α):(b::l).headD a=b:=rfl
def A88{α:Type}(b:α)(l:List α):(b::l).tail=l:=rfl
def A8w{α:Type}(a b:α):cond true a b=a:=rfl
def A8v{α:Type}(a b:α):cond false a b=b:=rfl
def A90(b:Bool):(true&&b)=b:=rfl
def A8z(b:Bool):(false&&b)=false:=rfl
def A8f(b:Bool):(true||b)=true:=rfl
def A8e(b:Bool):(false||b)=b:=rfl
def A8j:(!true)=false:=rfl
def A8i:(!false)=true:=rfl
def A3u:Nat->List Value->En
 | _,[]=>[]
 | n,v::r=>(n,.v v)::A3u (n+1) r
def fnk{f:Nat}{fn:Func}(hf:prog.funcs[f]? = some fn)(ls cs:List La:=[])(os:List (Nat × List Nat):=[])(rs:List (Nat × List Value):=[])(al:List (Nat × List (Nat × List Nat)):=[])(own wr:List Nat:=[]){args:List Value}{h:Heap}{K:VP}{T:Heap->(VP)->Prop}
 (_g:∀ h K,Gen (L0 100000 ⟨⟨A51 ls,A51 cs,A7s os,rs,al⟩,fn.results.toList,own,wr,K⟩ [.c (Da fn)] (A3u 0 args) [] h) (T h K):=by
  intro h K
  conv=>lhs;arg 3;arg 1;arg 1;whnf
  conv=>lhs;arg 2;arg 2;whnf
  set_option maxRecDepth 100000 in
  dsimp only [A51,A7s,undef,A8a,A8s,A9r,A0x,Xi,A4z,A6k,A6o,A7t,A5n,A87,A3m,A68,A41,A9p,A65,A3p,A6h,A6n,A3x,A3y,A8g,Vw,A9o,A6p,Ut,Xh,Ou,Oo,Ot,Ie,A13,A7u,A6c,A0y,Xj,Oq,A2c,Xd,A3h,A03,A3z,Nr,Qp,A6m,A14,Tn,A8h,A8k,A3g,A5p,De,Rq,Ek,A5s,A6a,A6b,A6e,Uu,Tm,Xe,A6j,A6t,A40,A3t,A2f,A6q,A2d,A2g,A64,A3n,A3s,A3o,A9n,A2h,A6d,A6s,A50,Xg,A5z,A67,A63,A5m,A6l,A5q,A9q,A3v,A3w,A3f,A5t,Xf,A5u,Cu,A11,A0z,A3r,A3q,A69,A7r,A8d,A62,A0w,A6f,Rp,A12,A3j,A3l,A3k,A61,A6g,A6i,A60,A5w,A5v,A5r,A6r,A66,A5x,A9s,A5y,L0,Da,A3u,cellsAt,Grow,Fl,A89,A8y,A8x,A8c,A8b,A8u,A8t,A8m,A8l,A8p,A8o,A8n,A8q,A88,A8w,A8v,A90,A8z,A8f,A8e,A8j,A8i,Ej,A5o,A8r,A2e,Nat.reduceAdd,Nat.reduceMul,Int.reduceAbs,Nat.reduceBEq]
  exact A9z)
 (e:∀ h K,(fn.body.isSome,A7p prog (A32 own (Da fn) ⟨A51 ls,A51 cs,A7s os,rs,al⟩) ⟨args.length+(fn.ntmps-args.length),own,none,A53,wr,false⟩ fn.results.toList (Da fn) args h K)=(true,T h K):=by intro h K;kernel_rfl) (hvc:T h K):FCall prog f args.toArray h K:=by
 obtain ⟨d,a⟩:=Prod.mk.inj (e h K)
 have b:fn.body=some (Da fn):=by
  unfold Da
  grind
 exact Tw hf b rfl rfl bod (a.mpr hvc)
