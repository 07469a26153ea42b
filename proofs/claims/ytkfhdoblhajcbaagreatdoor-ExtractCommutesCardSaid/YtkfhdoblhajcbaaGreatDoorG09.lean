/- A part. -/
import Derived.Test.YtkfhdoblhajcbaaGreatDoorG08
open Go.Proofs.Tryz
set_option linter.all false
namespace Go.Proofs.YtkfhdoblhajcbaaGreatDoor
open Go
def C1q{α:Type}(l:List α):(List.toArray l).toList=l:=rfl
def C2f{α:Type}(l:List α):[]++l=l:=rfl
def C2e{α:Type}(a:α)(l m:List α):(a::l)++m=a::(l++m):=rfl
def C1t{α:Type}(l:List α):l.take 0=[]:=rfl
def C1r{α:Type}(n:Nat):([]:List α).take (n+1)=[]:=rfl
def C29{α:Type}(n:Nat):([]:List α).drop (n+1)=[]:=rfl
def C1s{α:Type}(a:α)(l:List α)(n:Nat):(a::l).take (n+1)=a::l.take n:=rfl
def C2b{α:Type}(l:List α):l.drop 0=l:=rfl
def C2a{α:Type}(a:α)(l:List α)(n:Nat):(a::l).drop (n+1)=l.drop n:=rfl
def C23{α:Type}:([]:List α).length=0:=rfl
def C22{α:Type}(a:α)(l:List α):(a::l).length=l.length+1:=rfl
def C26{α:Type}(a:α):([]:List α).getD 0 a=a:=rfl
def C25{α:Type}(a b:α)(l:List α):(b::l).getD 0 a=b:=rfl
def C24{α:Type}(a b:α)(l:List α)(n:Nat):(b::l).getD (n+1) a=l.getD n a:=rfl
def C27{α:Type}(a b:α)(l:List α):(b::l).headD a=b:=rfl
def C1p{α:Type}(b:α)(l:List α):(b::l).tail=l:=rfl
def C2d{α:Type}(a b:α):cond true a b=a:=rfl
def C2c{α:Type}(a b:α):cond false a b=b:=rfl
def C2h(b:Bool):(true&&b)=b:=rfl
def C2g(b:Bool):(false&&b)=false:=rfl
def C1w(b:Bool):(true||b)=true:=rfl
def C1v(b:Bool):(false||b)=b:=rfl
def C20:(!true)=false:=rfl
def C1z:(!false)=true:=rfl
def B6b:Nat->List Value->En
 | _,[]=>[]
 | n,v::r=>(n,.v v)::B6b (n+1) r
def fnk{f:Nat}{fn:Func}(hf:prog.funcs[f]? = some fn)(ls cs:List La:=[])(os:List (Nat × List Nat):=[])(rs:List (Nat × List Value):=[])(al:List (Nat × List (Nat × List Nat)):=[])(own wr:List Nat:=[]){args:List Value}{h:Heap}{K:VP}{T:Heap->(VP)->Prop}
 (_g:∀ h K,Gen (U2 100000 ⟨⟨B81 ls,B81 cs,C19 os,rs,al⟩,fn.results.toList,own,wr,K⟩ [.c (Jk fn)] (B6b 0 args) [] h) (T h K):=by
  intro h K
  conv=>lhs;arg 3;arg 1;arg 1;whnf
  conv=>lhs;arg 2;arg 2;whnf
  set_option maxRecDepth 100000 in
  dsimp only [B81,C19,undef,C1r,C29,C3b,B2z,A9i,B7z,B9p,B9t,C1a,B8s,C1o,B63,B9d,B6i,C39,B9a,B66,B9m,B9s,B6e,B6f,C1x,A89,C38,B9u,A6u,A9h,A0w,A0t,A0v,Rz,B34,C1b,B9h,B30,A9j,A0u,B4q,A9d,B5y,B22,B6g,Zr,A2r,B9r,B35,A5b,C1y,C21,B5x,B8u,Ju,A3o,Lr,B8x,B9f,B9g,B9j,A6v,A5a,A9e,B9o,B9y,B6h,B6a,B4t,B9v,B4r,B4u,B99,B64,B69,B65,C37,B4v,B9i,B9x,B80,A9g,B94,B9c,B98,B8r,B9q,B8v,C3a,B6c,B6d,B5w,B8y,A9f,B8z,Jf,B32,B31,B68,B67,B9e,C18,C1u,B97,B2y,B9k,A3n,B33,B60,B62,B61,B96,B9l,B9n,B95,B91,B90,B8w,B9w,B9b,B92,C3c,B93,U2,Jk,B6b,cellsAt,Grow,Nz,C1q,C2f,C2e,C1t,C1s,C2b,C2a,C23,C22,C26,C25,C24,C27,C1p,C2d,C2c,C2h,C2g,C1w,C1v,C20,C1z,Lp,B8t,C28,B4s,Nat.reduceAdd,Nat.reduceMul,Int.reduceAbs,Nat.reduceBEq]
  exact C3s)
 (e:∀ h K,(fn.body.isSome,C17 prog (B5j own (Jk fn) ⟨B81 ls,B81 cs,C19 os,rs,al⟩) ⟨args.length+(fn.ntmps-args.length),own,none,B82,wr,false⟩ fn.results.toList (Jk fn) args h K)=(true,T h K):=by intro h K;kernel_rfl) (hvc:T h K):FCall prog f args.toArray h K:=by
 obtain ⟨d,a⟩:=Prod.mk.inj (e h K)
 have b:fn.body=some (Jk fn):=by
  unfold Jk
  grind
 exact A5u hf b rfl rfl bod (a.mpr hvc)
