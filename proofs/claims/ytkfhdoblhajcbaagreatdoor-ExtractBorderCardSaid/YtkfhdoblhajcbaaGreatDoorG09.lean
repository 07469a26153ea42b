/- A part. -/
import Derived.Test.YtkfhdoblhajcbaaGreatDoorG08
open Go.Proofs.Tryz
set_option linter.all false
namespace Go.Proofs.YtkfhdoblhajcbaaGreatDoor
open Go
def C1b{α:Type}(l:List α):(List.toArray l).toList=l:=rfl
def C20{α:Type}(l:List α):[]++l=l:=rfl
def C1z{α:Type}(a:α)(l m:List α):(a::l)++m=a::(l++m):=rfl
def C1e{α:Type}(l:List α):l.take 0=[]:=rfl
def C1c{α:Type}(n:Nat):([]:List α).take (n+1)=[]:=rfl
def C1u{α:Type}(n:Nat):([]:List α).drop (n+1)=[]:=rfl
def C1d{α:Type}(a:α)(l:List α)(n:Nat):(a::l).take (n+1)=a::l.take n:=rfl
def C1w{α:Type}(l:List α):l.drop 0=l:=rfl
def C1v{α:Type}(a:α)(l:List α)(n:Nat):(a::l).drop (n+1)=l.drop n:=rfl
def C1o{α:Type}:([]:List α).length=0:=rfl
def C1n{α:Type}(a:α)(l:List α):(a::l).length=l.length+1:=rfl
def C1r{α:Type}(a:α):([]:List α).getD 0 a=a:=rfl
def C1q{α:Type}(a b:α)(l:List α):(b::l).getD 0 a=b:=rfl
def C1p{α:Type}(a b:α)(l:List α)(n:Nat):(b::l).getD (n+1) a=l.getD n a:=rfl
def C1s{α:Type}(a b:α)(l:List α):(b::l).headD a=b:=rfl
def C1a{α:Type}(b:α)(l:List α):(b::l).tail=l:=rfl
def C1y{α:Type}(a b:α):cond true a b=a:=rfl
def C1x{α:Type}(a b:α):cond false a b=b:=rfl
def C22(b:Bool):(true&&b)=b:=rfl
def C21(b:Bool):(false&&b)=false:=rfl
def C1h(b:Bool):(true||b)=true:=rfl
def C1g(b:Bool):(false||b)=b:=rfl
def C1l:(!true)=false:=rfl
def C1k:(!false)=true:=rfl
def B5v:Nat->List Value->En
 | _,[]=>[]
 | n,v::r=>(n,.v v)::B5v (n+1) r
def fnk{f:Nat}{fn:Func}(hf:prog.funcs[f]? = some fn)(ls cs:List La:=[])(os:List (Nat × List Nat):=[])(rs:List (Nat × List Value):=[])(al:List (Nat × List (Nat × List Nat)):=[])(own wr:List Nat:=[]){args:List Value}{h:Heap}{K:VP}{T:Heap->(VP)->Prop}
 (_g:∀ h K,Gen (U1 100000 ⟨⟨B7k ls,B7k cs,C0q os,rs,al⟩,fn.results.toList,own,wr,K⟩ [.c (Ja fn)] (B5v 0 args) [] h) (T h K):=by
  intro h K
  conv=>lhs;arg 3;arg 1;arg 1;whnf
  conv=>lhs;arg 2;arg 2;whnf
  set_option maxRecDepth 100000 in
  dsimp only [B7k,C0q,undef,C1c,C1u,C2t,B2i,A95,B7i,B94,B98,C0r,B87,C19,B5n,B8s,B62,C2r,B8p,B5q,B91,B97,B5y,B5z,C1i,A7y,C2q,B99,A6n,A94,A0k,A0h,A0j,Ry,B2n,C0s,B8w,B2j,A96,A0i,B4a,A90,B5i,B1j,B60,Zg,A2h,B96,B2o,A56,C1j,C1m,B5h,B89,Jj,A3h,Lk,B8c,B8u,B8v,B8y,A6o,A55,A91,B93,B9d,B61,B5u,B4d,B9a,B4b,B4e,B8o,B5o,B5t,B5p,C2p,B4f,B8x,B9c,B7j,A93,B8j,B8r,B8n,B86,B95,B8a,C2s,B5w,B5x,B5g,B8d,A92,B8e,Iu,B2l,B2k,B5s,B5r,B8t,C0p,C1f,B8m,B2h,B8z,A3g,B2m,B5k,B5m,B5l,B8l,B90,B92,B8k,B8g,B8f,B8b,B9b,B8q,B8h,C2u,B8i,U1,Ja,B5v,cellsAt,Grow,Nt,C1b,C20,C1z,C1e,C1d,C1w,C1v,C1o,C1n,C1r,C1q,C1p,C1s,C1a,C1y,C1x,C22,C21,C1h,C1g,C1l,C1k,Lj,B88,C1t,B4c,Nat.reduceAdd,Nat.reduceMul,Int.reduceAbs,Nat.reduceBEq]
  exact C39)
 (e:∀ h K,(fn.body.isSome,C0o prog (B53 own (Ja fn) ⟨B7k ls,B7k cs,C0q os,rs,al⟩) ⟨args.length+(fn.ntmps-args.length),own,none,B7m,wr,false⟩ fn.results.toList (Ja fn) args h K)=(true,T h K):=by intro h K;kernel_rfl) (hvc:T h K):FCall prog f args.toArray h K:=by
 obtain ⟨d,a⟩:=Prod.mk.inj (e h K)
 have b:fn.body=some (Ja fn):=by
  unfold Ja
  grind
 exact A5n hf b rfl rfl bod (a.mpr hvc)
