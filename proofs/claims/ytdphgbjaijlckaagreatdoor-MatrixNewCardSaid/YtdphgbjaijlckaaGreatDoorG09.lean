/- A part. -/
import Derived.Test.YtdphgbjaijlckaaGreatDoorG08
open Go.Proofs.Tryz
set_option linter.all false
namespace Go.Proofs.YtdphgbjaijlckaaGreatDoor
open Go
def A7w{α:Type}(l:List α):(List.toArray l).toList=l:=rfl
def A8l{α:Type}(l:List α):[]++l=l:=rfl
def A8k{α:Type}(a:α)(l m:List α):(a::l)++m=a::(l++m):=rfl
def A7z{α:Type}(l:List α):l.take 0=[]:=rfl
def A7x{α:Type}(n:Nat):([]:List α).take (n+1)=[]:=rfl
def A8f{α:Type}(n:Nat):([]:List α).drop (n+1)=[]:=rfl
def A7y{α:Type}(a:α)(l:List α)(n:Nat):(a::l).take (n+1)=a::l.take n:=rfl
def A8h{α:Type}(l:List α):l.drop 0=l:=rfl
def A8g{α:Type}(a:α)(l:List α)(n:Nat):(a::l).drop (n+1)=l.drop n:=rfl
def A89{α:Type}:([]:List α).length=0:=rfl
def A88{α:Type}(a:α)(l:List α):(a::l).length=l.length+1:=rfl
def A8c{α:Type}(a:α):([]:List α).getD 0 a=a:=rfl
def A8b{α:Type}(a b:α)(l:List α):(b::l).getD 0 a=b:=rfl
def A8a{α:Type}(a b:α)(l:List α)(n:Nat):(b::l).getD (n+1) a=l.getD n a:=rfl
def A8d{α:Type}(a b:α)(l:List α):(b::l).headD a=b:=rfl
def A7v{α:Type}(b:α)(l:List α):(b::l).tail=l:=rfl
def A8j{α:Type}(a b:α):cond true a b=a:=rfl
def A8i{α:Type}(a b:α):cond false a b=b:=rfl
def A8n(b:Bool):(true&&b)=b:=rfl
def A8m(b:Bool):(false&&b)=false:=rfl
def A82(b:Bool):(true||b)=true:=rfl
def A81(b:Bool):(false||b)=b:=rfl
def A86:(!true)=false:=rfl
def A85:(!false)=true:=rfl
def A3s:Nat->List Value->En
 | _,[]=>[]
 | n,v::r=>(n,.v v)::A3s (n+1) r
def fnk{f:Nat}{fn:Func}(hf:prog.funcs[f]? = some fn)(ls cs:List La:=[])(os:List (Nat × List Nat):=[])(rs:List (Nat × List Value):=[])(al:List (Nat × List (Nat × List Nat)):=[])(own wr:List Nat:=[]){args:List Value}{h:Heap}{K:VP}{T:Heap->(VP)->Prop}
 (_g:∀ h K,Gen (L7 100000 ⟨⟨A4z ls,A4z cs,A7m os,rs,al⟩,fn.results.toList,own,wr,K⟩ [.c (Da fn)] (A3s 0 args) [] h) (T h K):=by
  intro h K
  conv=>lhs;arg 3;arg 1;arg 1;whnf
  conv=>lhs;arg 2;arg 2;whnf
  set_option maxRecDepth 100000 in
  dsimp only [A4z,A7m,undef,A7x,A8f,A96,A10,Xc,A4x,A6g,A6k,A7n,A5j,A7u,A3k,A64,A3z,A94,A61,A3n,A6d,A6j,A3v,A3w,A83,Vr,A93,A6l,Uj,Xb,Nw,Nt,Nv,Ia,A15,A7o,A68,A11,Xd,Nu,A27,Wx,A3f,A05,A3x,Mo,Pu,A6i,A16,Ss,A84,A87,A3e,A5l,De,Qs,Eg,A5o,A66,A67,A6a,Uk,Sr,Wy,A6f,A6p,A3y,A3r,A2a,A6m,A28,A2b,A60,A3l,A3q,A3m,A92,A2c,A69,A6o,A4y,Xa,A5v,A63,A5z,A5i,A6h,A5m,A95,A3t,A3u,A3d,A5p,Wz,A5q,Cv,A13,A12,A3p,A3o,A65,A7l,A80,A5y,A0z,A6b,Qr,A14,A3h,A3j,A3i,A5x,A6c,A6e,A5w,A5s,A5r,A5n,A6n,A62,A5t,A97,A5u,L7,Da,A3s,cellsAt,Grow,Fl,A7w,A8l,A8k,A7z,A7y,A8h,A8g,A89,A88,A8c,A8b,A8a,A8d,A7v,A8j,A8i,A8n,A8m,A82,A81,A86,A85,Ef,A5k,A8e,A29,Nat.reduceAdd,Nat.reduceMul,Int.reduceAbs,Nat.reduceBEq]
  exact A9c)
 (e:∀ h K,(fn.body.isSome,A7h prog (A30 own (Da fn) ⟨A4z ls,A4z cs,A7m os,rs,al⟩) ⟨args.length+(fn.ntmps-args.length),own,none,A51,wr,false⟩ fn.results.toList (Da fn) args h K)=(true,T h K):=by intro h K;kernel_rfl) (hvc:T h K):FCall prog f args.toArray h K:=by
 obtain ⟨d,a⟩:=Prod.mk.inj (e h K)
 have b:fn.body=some (Da fn):=by
  unfold Da
  grind
 exact Tg hf b rfl rfl bod (a.mpr hvc)
