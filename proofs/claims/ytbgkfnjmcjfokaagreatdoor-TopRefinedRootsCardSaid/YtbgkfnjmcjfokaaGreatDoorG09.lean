/- A part. -/
import Derived.Test.YtbgkfnjmcjfokaaGreatDoorG08
open Go.Proofs.Tryz
set_option linter.all false
namespace Go.Proofs.YtbgkfnjmcjfokaaGreatDoor
open Go
def C3u{α:Type}(l:List α):(List.toArray l).toList=l:=rfl
def C4k{α:Type}(l:List α):[]++l=l:=rfl
def C4j{α:Type}(a:α)(l m:List α):(a::l)++m=a::(l++m):=rfl
def C3x{α:Type}(l:List α):l.take 0=[]:=rfl
def C3v{α:Type}(n:Nat):([]:List α).take (n+1)=[]:=rfl
def C4e{α:Type}(n:Nat):([]:List α).drop (n+1)=[]:=rfl
def C3w{α:Type}(a:α)(l:List α)(n:Nat):(a::l).take (n+1)=a::l.take n:=rfl
def C4g{α:Type}(l:List α):l.drop 0=l:=rfl
def C4f{α:Type}(a:α)(l:List α)(n:Nat):(a::l).drop (n+1)=l.drop n:=rfl
def C48{α:Type}:([]:List α).length=0:=rfl
def C47{α:Type}(a:α)(l:List α):(a::l).length=l.length+1:=rfl
def C4b{α:Type}(a:α):([]:List α).getD 0 a=a:=rfl
def C4a{α:Type}(a b:α)(l:List α):(b::l).getD 0 a=b:=rfl
def C49{α:Type}(a b:α)(l:List α)(n:Nat):(b::l).getD (n+1) a=l.getD n a:=rfl
def C4c{α:Type}(a b:α)(l:List α):(b::l).headD a=b:=rfl
def C3t{α:Type}(b:α)(l:List α):(b::l).tail=l:=rfl
def C4i{α:Type}(a b:α):cond true a b=a:=rfl
def C4h{α:Type}(a b:α):cond false a b=b:=rfl
def C4m(b:Bool):(true&&b)=b:=rfl
def C4l(b:Bool):(false&&b)=false:=rfl
def C41(b:Bool):(true||b)=true:=rfl
def C40(b:Bool):(false||b)=b:=rfl
def C45:(!true)=false:=rfl
def C44:(!false)=true:=rfl
def B7e:Nat->List Value->En
 | _,[]=>[]
 | n,v::r=>(n,.v v)::B7e (n+1) r
def fnk{f:Nat}{fn:Func}(hf:prog.funcs[f]? = some fn)(ls cs:List La:=[])(os:List (Nat × List Nat):=[])(rs:List (Nat × List Value):=[])(al:List (Nat × List (Nat × List Nat)):=[])(own wr:List Nat:=[]){args:List Value}{h:Heap}{K:VP}{T:Heap->(VP)->Prop}
 (_g:∀ h K,Gen (U7 100000 ⟨{ loops:=B9g ls,cuts:=B9g cs,orders:=C38 os,rounds:=rs,alts:=al },fn.results.toList,own,wr,K⟩ [.c (Jk fn)] (B7e 0 args) [] h) (T h K):=by
  intro h K
  conv=>lhs;arg 3;arg 1;arg 1;whnf
  conv=>lhs;arg 2;arg 2;whnf
  set_option maxRecDepth 100000 in
  dsimp only [B9g,C38,undef,C3v,C4e,C5l,B32,A8t,B9e,B9d,C19,C39,C09,C3s,B76,C0u,B7l,C5j,C0r,B79,C13,C18,B7h,B7i,C42,A7b,C3z,C1b,A62,A8s,A0m,A0j,A0l,Sb,B37,C3a,C0y,B33,A8u,A0k,B5d,A8o,B71,B20,B7j,Zh,A2e,C17,B38,A4u,C43,C46,B70,C0b,Jw,A3a,Lw,C0e,C0w,C0x,C10,A63,A4t,A8p,C15,C1f,B7k,B7d,B5g,C1c,B5e,B5h,C0q,B77,B7c,B78,C5i,B5i,C0z,C1e,B9f,A8r,C0l,C0t,C0p,C08,C16,C0c,C5k,B7f,B7g,B6z,C0f,A8q,C0g,Je,B35,B34,B7b,B7a,C0v,C37,C3y,C0o,B31,C11,A39,B36,B73,B75,B74,C0n,C12,C14,C0m,C0i,C0h,C1a,C0d,C1d,C0s,C0j,C5m,C0k,U7,Jk,B7e,cellsAt,Grow,Nq,C3u,C4k,C4j,C3x,C3w,C4g,C4f,C48,C47,C4b,C4a,C49,C4c,C3t,C4i,C4h,C4m,C4l,C41,C40,C45,C44,Lu,C0a,C4d,B5f,Nat.reduceAdd,Nat.reduceMul,Int.reduceAbs,Nat.reduceBEq]
  exact C6a)
 (e:∀ h K,(fn.body.isSome,C35 prog (B6d own (Jk fn) { loops:=B9g ls,cuts:=B9g cs,orders:=C38 os,rounds:=rs,alts:=al }) { n:=args.length+(fn.ntmps-args.length),own:=own,lim:=none,fns:=B69,wr:=wr } fn.results.toList (Jk fn) args h K)=(true,T h K):=by intro h K;kernel_rfl) (hvc:T h K):FCall prog f args.toArray h K:=by
 obtain ⟨d,a⟩:=Prod.mk.inj (e h K)
 have b:fn.body=some (Jk fn):=by
  unfold Jk
  grind
 exact A58 hf b rfl rfl bod (a.mpr hvc)
