/- A part. -/
import Derived.Test.YtdphgbjaijlckaaGreatDoorG10
open Go.Proofs.Tryz
set_option linter.all false
namespace Go.Proofs.YtdphgbjaijlckaaGreatDoor
open Go
def A4l{α:Type}(l:List α):(List.toArray l).toList=l:=rfl
def A5a{α:Type}(l:List α):[]++l=l:=rfl
def A59{α:Type}(a:α)(l m:List α):(a::l)++m=a::(l++m):=rfl
def A4o{α:Type}(l:List α):l.take 0=[]:=rfl
def A4m{α:Type}(n:Nat):([]:List α).take (n+1)=[]:=rfl
def A54{α:Type}(n:Nat):([]:List α).drop (n+1)=[]:=rfl
def A4n{α:Type}(a:α)(l:List α)(n:Nat):(a::l).take (n+1)=a::l.take n:=rfl
def A56{α:Type}(l:List α):l.drop 0=l:=rfl
def A55{α:Type}(a:α)(l:List α)(n:Nat):(a::l).drop (n+1)=l.drop n:=rfl
def A4y{α:Type}:([]:List α).length=0:=rfl
def A4x{α:Type}(a:α)(l:List α):(a::l).length=l.length+1:=rfl
def A51{α:Type}(a:α):([]:List α).getD 0 a=a:=rfl
def A50{α:Type}(a b:α)(l:List α):(b::l).getD 0 a=b:=rfl
def A4z{α:Type}(a b:α)(l:List α)(n:Nat):(b::l).getD (n+1) a=l.getD n a:=rfl
def A52{α:Type}(a b:α)(l:List α):(b::l).headD a=b:=rfl
def A4k{α:Type}(b:α)(l:List α):(b::l).tail=l:=rfl
def A58{α:Type}(a b:α):cond true a b=a:=rfl
def A57{α:Type}(a b:α):cond false a b=b:=rfl
def A5c(b:Bool):(true&&b)=b:=rfl
def A5b(b:Bool):(false&&b)=false:=rfl
def A4r(b:Bool):(true||b)=true:=rfl
def A4q(b:Bool):(false||b)=b:=rfl
def A4v:(!true)=false:=rfl
def A4u:(!false)=true:=rfl
def A0u:Nat->List Value->En
 | _,[]=>[]
 | n,v::r=>(n,.v v)::A0u (n+1) r
def fnk{f:Nat}{fn:Func}(hf:prog.funcs[f]? = some fn)(ls cs:List La:=[])(os:List (Nat × List Nat):=[])(rs:List (Nat × List Value):=[])(al:List (Nat × List (Nat × List Nat)):=[])(own wr:List Nat:=[]){args:List Value}{h:Heap}{K:VP}{T:Heap->(VP)->Prop}
 (_g:∀ h K,Gen (K1 100000 ⟨⟨A20 ls,A20 cs,A47 os,rs,al⟩,fn.results.toList,own,wr,K⟩ [.c (Ch fn)] (A0u 0 args) [] h) (T h K):=by
  intro h K
  conv=>lhs;arg 3;arg 1;arg 1;whnf
  conv=>lhs;arg 2;arg 2;whnf
  set_option maxRecDepth 100000 in
  dsimp only [A20,A47,undef,A4m,A54,A5v,Xp,Ug,A1y,A38,A3c,A48,A2b,A4j,A0m,A2w,A12,A5t,A2t,A0p,A35,A3b,A0x,A0y,A4s,Su,A5s,A3d,Ro,Uf,Mq,Ml,Mo,Hg,Xu,A49,A30,Xq,Uh,Mm,Zj,Ub,A0h,Wv,A0z,Li,Od,A3a,Xv,Ql,A4t,A4w,A0g,A2d,Cn,Oy,Do,A2g,A2y,A2z,A32,Rp,Qk,Uc,A37,A3h,A11,A0t,Zm,A3e,Zk,Zn,A2s,A0n,A0s,A0o,A5r,Zo,A31,A3g,A1z,Ue,A2n,A2v,A2r,A2a,A39,A2e,A5u,A0v,A0w,A0f,A2h,Ud,A2i,Cd,Xs,Xr,A0r,A0q,A2x,A46,A4p,A2q,Xo,A33,Ox,Xt,A0j,A0l,A0k,A2p,A34,A36,A2o,A2k,A2j,A2f,A3f,A2u,A2l,A5w,A2m,K1,Ch,A0u,cellsAt,Grow,Ej,A4l,A5a,A59,A4o,A4n,A56,A55,A4y,A4x,A51,A50,A4z,A52,A4k,A58,A57,A5c,A5b,A4r,A4q,A4v,A4u,Dn,A2c,A53,Zl,Nat.reduceAdd,Nat.reduceMul,Int.reduceAbs,Nat.reduceBEq]
  exact A65)
 (e:∀ h K,(fn.body.isSome,A45 prog (A04 own (Ch fn) ⟨A20 ls,A20 cs,A47 os,rs,al⟩) ⟨args.length+(fn.ntmps-args.length),own,none,A22,wr,false⟩ fn.results.toList (Ch fn) args h K)=(true,T h K):=by intro h K;kernel_rfl) (hvc:T h K):FCall prog f args.toArray h K:=by
 obtain ⟨d,a⟩:=Prod.mk.inj (e h K)
 have b:fn.body=some (Ch fn):=by
  unfold Ch
  grind
 exact Qw hf b rfl rfl bod (a.mpr hvc)
