/- A part. -/
import Derived.Test.YteppbhimdjmabaaGreatDoorG08
open Go.Proofs.Tryz
set_option linter.all false
open _root_ renaming List->J
namespace Go.Proofs.YteppbhimdjmabaaGreatDoor
open Go
def C6n{α:Type}(l:J α):(List.toArray l).toList=l:=rfl
def C7d{α:Type}(l:J α):[]++l=l:=rfl
def C7c{α:Type}(a:α)(l m:J α):(a::l)++m=a::(l++m):=rfl
def C6q{α:Type}(l:J α):l.take 0=[]:=rfl
def C6o{α:Type}(n:Nat):([]:J α).take (n+1)=[]:=rfl
def C77{α:Type}(n:Nat):([]:J α).drop (n+1)=[]:=rfl
def C6p{α:Type}(a:α)(l:J α)(n:Nat):(a::l).take (n+1)=a::l.take n:=rfl
def C79{α:Type}(l:J α):l.drop 0=l:=rfl
def C78{α:Type}(a:α)(l:J α)(n:Nat):(a::l).drop (n+1)=l.drop n:=rfl
def C71{α:Type}:([]:J α).length=0:=rfl
def C70{α:Type}(a:α)(l:J α):(a::l).length=l.length+1:=rfl
def C74{α:Type}(a:α):([]:J α).getD 0 a=a:=rfl
def C73{α:Type}(a b:α)(l:J α):(b::l).getD 0 a=b:=rfl
def C72{α:Type}(a b:α)(l:J α)(n:Nat):(b::l).getD (n+1) a=l.getD n a:=rfl
def C75{α:Type}(a b:α)(l:J α):(b::l).headD a=b:=rfl
def C6m{α:Type}(b:α)(l:J α):(b::l).tail=l:=rfl
def C7b{α:Type}(a b:α):cond true a b=a:=rfl
def C7a{α:Type}(a b:α):cond false a b=b:=rfl
def C7f(b:Bool):(true&&b)=b:=rfl
def C7e(b:Bool):(false&&b)=false:=rfl
def C6u(b:Bool):(true||b)=true:=rfl
def C6t(b:Bool):(false||b)=b:=rfl
def C6y:(!true)=false:=rfl
def C6x:(!false)=true:=rfl
def C0l:Nat->J Value->En
 |_,[]=>[]
 |n,v::r=>(n,.v v)::C0l (n+1) r
def fnk{f:Nat}{fn:Func}(hf:prog.funcs[f]? = some fn)(ls cs:J La:=[])(os:J (Nat×J Nat):=[])(rs:J (Nat×J Value):=[])(al:J (Nat×J (Nat×J Nat)):=[])(own wr:J Nat:=[]){args:J Value}{h:Heap}{K:VP}{T:Heap->(VP)->Prop}
 (_g:∀h K,Gen (Y5 100000 ⟨{ loops:=C2k ls,cuts:=C2k cs,orders:=C64 os,rounds:=rs,alts:=al },fn.results.toList,own,wr,K⟩ [.c (Mc fn)] (C0l 0 args) [] h) (T h K):=by
  intro h K;conv=>lhs;arg 3;arg 1;arg 1;whnf
  conv=>lhs;arg 2;arg 2;whnf
  set_option maxRecDepth 100000 in
  dsimp only[C2k,C64,undef,C6o,C77,C8g,B6n,B2j,C2i,C2h,C4d,C65,C3d,C6l,C0d,C3y,C0s,C8e,C3v,C0g,C47,C4c,C0o,C0p,C6v,B19,C6s,C4f,A9y,B2i,A3u,A3r,A3t,Vl,B6s,C66,C42,B6o,B2k,A3s,B8f,B2e,C08,B5j,C0q,A2e,A5s,C4b,B6t,A88,C6w,C6z,C07,C3f,Mq,A6s,Oo,C3i,C40,C41,C44,A9z,A87,B2f,C49,C4j,C0r,C0k,B8i,C4g,B8g,B8j,C3u,C0e,C0j,C0f,C8d,B8k,C43,C4i,C2j,B2h,C3p,C3x,C3t,C3c,C4a,C3g,C8f,C0m,C0n,C06,C3j,B2g,C3k,Lo,B6q,B6p,C0i,C0h,C3z,C63,C6r,C3s,B6m,C45,A6r,B6r,C0a,C0c,C0b,C3r,C46,C48,C3q,C3m,C3l,C4e,C3h,C4h,C3w,C3n,C8h,C3o,Y5,Mc,C0l,cellsAt,Grow,Qq,C6n,C7d,C7c,C6q,C6p,C79,C78,C71,C70,C74,C73,C72,C75,C6m,C7b,C7a,C7f,C7e,C6u,C6t,C6y,C6x,On,C3e,C76,B8h,Nat.reduceAdd,Nat.reduceMul,Int.reduceAbs,Nat.reduceBEq];exact C8w)
 (e:∀h K,(fn.body.isSome,C61 prog (B9i own (Mc fn) { loops:=C2k ls,cuts:=C2k cs,orders:=C64 os,rounds:=rs,alts:=al }) { n:=args.length+(fn.ntmps-args.length),own:=own,lim:=none,fns:=C2o,wr:=wr } fn.results.toList (Mc fn) args h K)=(true,T h K):=by intro h K;kernel_rfl) (hvc:T h K):FCall prog f args.toArray h K:=by
 obtain⟨d,a⟩:=Prod.mk.inj (e h K)
 have b:fn.body=some (Mc fn):=by
  unfold Mc;grind
 exact A8r hf b rfl rfl bod (a.mpr hvc)
