/- A part. -/
import Derived.Test.YtkfhdoblhajcbaaGreatDoorG08
open Go.Proofs.Tryz
set_option linter.all false
namespace Go.Proofs.YtkfhdoblhajcbaaGreatDoor
open Go
def C3y{α:Type}(l:List α):(List.toArray l).toList=l:=rfl
def C4n{α:Type}(l:List α):[]++l=l:=rfl
def C4m{α:Type}(a:α)(l m:List α):(a::l)++m=a::(l++m):=rfl
def C41{α:Type}(l:List α):l.take 0=[]:=rfl
def C3z{α:Type}(n:Nat):([]:List α).take (n+1)=[]:=rfl
def C4h{α:Type}(n:Nat):([]:List α).drop (n+1)=[]:=rfl
def C40{α:Type}(a:α)(l:List α)(n:Nat):(a::l).take (n+1)=a::l.take n:=rfl
def C4j{α:Type}(l:List α):l.drop 0=l:=rfl
def C4i{α:Type}(a:α)(l:List α)(n:Nat):(a::l).drop (n+1)=l.drop n:=rfl
def C4b{α:Type}:([]:List α).length=0:=rfl
def C4a{α:Type}(a:α)(l:List α):(a::l).length=l.length+1:=rfl
def C4e{α:Type}(a:α):([]:List α).getD 0 a=a:=rfl
def C4d{α:Type}(a b:α)(l:List α):(b::l).getD 0 a=b:=rfl
def C4c{α:Type}(a b:α)(l:List α)(n:Nat):(b::l).getD (n+1) a=l.getD n a:=rfl
def C4f{α:Type}(a b:α)(l:List α):(b::l).headD a=b:=rfl
def C3x{α:Type}(b:α)(l:List α):(b::l).tail=l:=rfl
def C4l{α:Type}(a b:α):cond true a b=a:=rfl
def C4k{α:Type}(a b:α):cond false a b=b:=rfl
def C4p(b:Bool):(true&&b)=b:=rfl
def C4o(b:Bool):(false&&b)=false:=rfl
def C44(b:Bool):(true||b)=true:=rfl
def C43(b:Bool):(false||b)=b:=rfl
def C48:(!true)=false:=rfl
def C47:(!false)=true:=rfl
def B8a:Nat->List Value->En
 |_,[]=>[]
 |n,v::r=>(n,.v v)::B8a (n+1) r
def fnk{f:Nat}{fn:Func}(hf:prog.funcs[f]? = some fn)(ls cs:List La:=[])(os:List (Nat×List Nat):=[])(rs:List (Nat×List Value):=[])(al:List (Nat×List (Nat×List Nat)):=[])(own wr:List Nat:=[]){args:List Value}{h:Heap}{K:VP}{T:Heap->(VP)->Prop} (_g:∀h K,Gen (W4 100000 ⟨⟨C02 ls,C02 cs,C3b os,rs,al⟩,fn.results.toList,own,wr,K⟩ [.c (Kn fn)] (B8a 0 args) [] h) (T h K):=by intro h K;(conv=>lhs;arg 3;arg 1;arg 1;whnf);(conv=>lhs;arg 2;arg 2;whnf);set_option maxRecDepth 100000 in dsimp only[C02,C3b,undef,C3z,C4h,C5j,B4e,B0t,C00,C1p,C1t,C3c,C0s,C3w,B82,C1d,B8h,C5h,C1a,B85,C1m,C1s,B8d,B8e,C45,A9q,C5g,C1u,A8e,B0s,A23,A20,A22,Tu,B4j,C3d,C1h,B4f,B0u,A21,B6c,B0o,B7x,B3d,B8f,A0w,A3x,C1r,B4k,A6t,C46,C49,B7w,C0u,Kx,A4y,Np,C0x,C1f,C1g,C1j,A8f,A6s,B0p,C1o,C1y,B8g,B89,B6f,C1v,B6d,B6g,C19,B83,B88,B84,C5f,B6h,C1i,C1x,C01,B0r,C14,C1c,C18,C0r,C1q,C0v,C5i,B8b,B8c,B7v,C0y,B0q,C0z,Ke,B4h,B4g,B87,B86,C1e,C3a,C42,C17,B4d,C1k,A4x,B4i,B7z,B81,B80,C16,C1l,C1n,C15,C11,C10,C0w,C1w,C1b,C12,C5k,C13,W4,Kn,B8a,cellsAt,Grow,Pk,C3y,C4n,C4m,C41,C40,C4j,C4i,C4b,C4a,C4e,C4d,C4c,C4f,C3x,C4l,C4k,C4p,C4o,C44,C43,C48,C47,No,C0t,C4g,B6e,Nat.reduceAdd,Nat.reduceMul,Int.reduceAbs,Nat.reduceBEq];exact C61) (e:∀h K,(fn.body.isSome,C39 prog (B7e own (Kn fn) ⟨C02 ls,C02 cs,C3b os,rs,al⟩) ⟨args.length+(fn.ntmps-args.length),own,none,C04,wr,false⟩ fn.results.toList (Kn fn) args h K)=(true,T h K):=by intro h K;kernel_rfl) (hvc:T h K):FCall prog f args.toArray h K:=by obtain⟨i,d⟩:=Prod.mk.inj (e h K);have g:fn.body=some (Kn fn):=by{unfold Kn;grind};exact A7g hf g rfl rfl bod (d.mpr hvc)
