/- A part. -/
import Derived.Test.YtkfhdoblhajcbaaGreatDoorG08
open Go.Proofs.Tryz
set_option linter.all false
namespace Go.Proofs.YtkfhdoblhajcbaaGreatDoor
open Go
def B9k{α:Type}(l:List α):(List.toArray l).toList=l:=rfl
def C09{α:Type}(l:List α):[]++l=l:=rfl
def C08{α:Type}(a:α)(l m:List α):(a::l)++m=a::(l++m):=rfl
def B9n{α:Type}(l:List α):l.take 0=[]:=rfl
def B9l{α:Type}(n:Nat):([]:List α).take (n+1)=[]:=rfl
def C03{α:Type}(n:Nat):([]:List α).drop (n+1)=[]:=rfl
def B9m{α:Type}(a:α)(l:List α)(n:Nat):(a::l).take (n+1)=a::l.take n:=rfl
def C05{α:Type}(l:List α):l.drop 0=l:=rfl
def C04{α:Type}(a:α)(l:List α)(n:Nat):(a::l).drop (n+1)=l.drop n:=rfl
def B9x{α:Type}:([]:List α).length=0:=rfl
def B9w{α:Type}(a:α)(l:List α):(a::l).length=l.length+1:=rfl
def C00{α:Type}(a:α):([]:List α).getD 0 a=a:=rfl
def B9z{α:Type}(a b:α)(l:List α):(b::l).getD 0 a=b:=rfl
def B9y{α:Type}(a b:α)(l:List α)(n:Nat):(b::l).getD (n+1) a=l.getD n a:=rfl
def C01{α:Type}(a b:α)(l:List α):(b::l).headD a=b:=rfl
def B9j{α:Type}(b:α)(l:List α):(b::l).tail=l:=rfl
def C07{α:Type}(a b:α):cond true a b=a:=rfl
def C06{α:Type}(a b:α):cond false a b=b:=rfl
def C0b(b:Bool):(true&&b)=b:=rfl
def C0a(b:Bool):(false&&b)=false:=rfl
def B9q(b:Bool):(true||b)=true:=rfl
def B9p(b:Bool):(false||b)=b:=rfl
def B9u:(!true)=false:=rfl
def B9t:(!false)=true:=rfl
def B4d:Nat->List Value->En
 | _,[]=>[]
 | n,v::r=>(n,.v v)::B4d (n+1) r
def fnk{f:Nat}{fn:Func}(hf:prog.funcs[f]? = some fn)(ls cs:List La:=[])(os:List (Nat × List Nat):=[])(rs:List (Nat × List Value):=[])(al:List (Nat × List (Nat × List Nat)):=[])(own wr:List Nat:=[]){args:List Value}{h:Heap}{K:VP}{T:Heap->(VP)->Prop}
 (_g:∀ h K,Gen (T2 100000 ⟨⟨B5y ls,B5y cs,B92 os,rs,al⟩,fn.results.toList,own,wr,K⟩ [.c (Ii fn)] (B4d 0 args) [] h) (T h K):=by
  intro h K
  conv=>lhs;arg 3;arg 1;arg 1;whnf
  conv=>lhs;arg 2;arg 2;whnf
  set_option maxRecDepth 100000 in
  dsimp only [B5y,B92,undef,B9l,C03,C0y,B0w,A7j,B5w,B7j,B7n,B93,B6m,B9i,B45,B77,B4k,C0w,B74,B48,B7g,B7m,B4g,B4h,B9r,A6d,C0v,B7o,A56,A7i,Zd,Za,Zc,Qy,B11,B94,B7b,B0x,A7k,Zb,B2n,A7e,B40,A9w,B4i,Xr,A1a,B7l,B12,A3q,B9s,B9v,B3z,B6o,Iv,A24,Kn,B6r,B79,B7a,B7d,A57,A3p,A7f,B7i,B7s,B4j,B4c,B2q,B7p,B2o,B2r,B73,B46,B4b,B47,C0u,B2s,B7c,B7r,B5x,A7h,B6y,B76,B72,B6l,B7k,B6p,C0x,B4e,B4f,B3y,B6s,A7g,B6t,Ib,B0z,B0y,B4a,B49,B78,B91,B9o,B71,B0v,B7e,A23,B10,B42,B44,B43,B70,B7f,B7h,B6z,B6v,B6u,B6q,B7q,B75,B6w,C0z,B6x,T2,Ii,B4d,cellsAt,Grow,Nd,B9k,C09,C08,B9n,B9m,C05,C04,B9x,B9w,C00,B9z,B9y,C01,B9j,C07,C06,C0b,C0a,B9q,B9p,B9u,B9t,Km,B6n,C02,B2p,Nat.reduceAdd,Nat.reduceMul,Int.reduceAbs,Nat.reduceBEq]
  exact C1f)
 (e:∀ h K,(fn.body.isSome,B90 prog (B3l own (Ii fn) ⟨B5y ls,B5y cs,B92 os,rs,al⟩) ⟨args.length+(fn.ntmps-args.length),own,none,B61,wr,false⟩ fn.results.toList (Ii fn) args h K)=(true,T h K):=by intro h K;kernel_rfl) (hvc:T h K):FCall prog f args.toArray h K:=by
 obtain ⟨d,a⟩:=Prod.mk.inj (e h K)
 have b:fn.body=some (Ii fn):=by
  unfold Ii
  grind
 exact A49 hf b rfl rfl bod (a.mpr hvc)
