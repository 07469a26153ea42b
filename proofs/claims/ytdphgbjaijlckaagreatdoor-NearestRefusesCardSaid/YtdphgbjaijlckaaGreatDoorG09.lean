/- A part. -/
import Derived.Test.YtdphgbjaijlckaaGreatDoorG08
open Go.Proofs.Tryz
set_option linter.all false
namespace Go.Proofs.YtdphgbjaijlckaaGreatDoor
open Go
def B2j{α:Type}(l:List α):(List.toArray l).toList=l:=rfl
def B38{α:Type}(l:List α):[]++l=l:=rfl
def B37{α:Type}(a:α)(l m:List α):(a::l)++m=a::(l++m):=rfl
def B2m{α:Type}(l:List α):l.take 0=[]:=rfl
def B2k{α:Type}(n:Nat):([]:List α).take (n+1)=[]:=rfl
def B32{α:Type}(n:Nat):([]:List α).drop (n+1)=[]:=rfl
def B2l{α:Type}(a:α)(l:List α)(n:Nat):(a::l).take (n+1)=a::l.take n:=rfl
def B34{α:Type}(l:List α):l.drop 0=l:=rfl
def B33{α:Type}(a:α)(l:List α)(n:Nat):(a::l).drop (n+1)=l.drop n:=rfl
def B2w{α:Type}:([]:List α).length=0:=rfl
def B2v{α:Type}(a:α)(l:List α):(a::l).length=l.length+1:=rfl
def B2z{α:Type}(a:α):([]:List α).getD 0 a=a:=rfl
def B2y{α:Type}(a b:α)(l:List α):(b::l).getD 0 a=b:=rfl
def B2x{α:Type}(a b:α)(l:List α)(n:Nat):(b::l).getD (n+1) a=l.getD n a:=rfl
def B30{α:Type}(a b:α)(l:List α):(b::l).headD a=b:=rfl
def B2i{α:Type}(b:α)(l:List α):(b::l).tail=l:=rfl
def B36{α:Type}(a b:α):cond true a b=a:=rfl
def B35{α:Type}(a b:α):cond false a b=b:=rfl
def B3a(b:Bool):(true&&b)=b:=rfl
def B39(b:Bool):(false&&b)=false:=rfl
def B2p(b:Bool):(true||b)=true:=rfl
def B2o(b:Bool):(false||b)=b:=rfl
def B2t:(!true)=false:=rfl
def B2s:(!false)=true:=rfl
def A86:Nat->List Value->En
 | _,[]=>[]
 | n,v::r=>(n,.v v)::A86 (n+1) r
def fnk{f:Nat}{fn:Func}(hf:prog.funcs[f]? = some fn)(ls cs:List La:=[])(os:List (Nat × List Nat):=[])(rs:List (Nat × List Value):=[])(al:List (Nat × List (Nat × List Nat)):=[])(own wr:List Nat:=[]){args:List Value}{h:Heap}{K:VP}{T:Heap->(VP)->Prop}
 (_g:∀ h K,Gen (O4 100000 ⟨⟨A9m ls,A9m cs,B27 os,rs,al⟩,fn.results.toList,own,wr,K⟩ [.c (Ff fn)] (A86 0 args) [] h) (T h K):=by
  intro h K
  conv=>lhs;arg 3;arg 1;arg 1;whnf
  conv=>lhs;arg 2;arg 2;whnf
  set_option maxRecDepth 100000 in
  dsimp only [A9m,B27,undef,B2k,B32,B3x,A56,A24,A9k,B11,B16,B28,B04,B2h,A7y,B0p,A8d,B3v,B0m,A81,B0y,B15,A89,A8a,B2q,A0o,B3u,B17,Zq,A23,Ti,Tf,Th,Lh,A5b,B29,B0t,A57,A25,Tg,A6j,A1z,A7t,A4a,A8b,Rt,Vd,B14,A5c,Yg,B2r,B2u,A7s,B06,Fn,Wg,Ha,B09,B0r,B0s,B0v,Zr,Yf,A20,B10,B1b,A8c,A85,A6m,B18,A6k,A6n,B0l,A7z,A84,A80,B3t,A6o,B0u,B1a,A9l,A22,B0g,B0o,B0k,B03,B13,B07,B3w,A87,A88,A7r,B0a,A21,B0b,Fb,A59,A58,A83,A82,B0q,B26,B2n,B0j,A55,B0w,Wf,A5a,A7v,A7x,A7w,B0i,B0x,B0z,B0h,B0d,B0c,B08,B19,B0n,B0e,B3y,B0f,O4,Ff,A86,cellsAt,Grow,Ih,B2j,B38,B37,B2m,B2l,B34,B33,B2w,B2v,B2z,B2y,B2x,B30,B2i,B36,B35,B3a,B39,B2p,B2o,B2t,B2s,Gz,B05,B31,A6l,Nat.reduceAdd,Nat.reduceMul,Int.reduceAbs,Nat.reduceBEq]
  exact B46)
 (e:∀ h K,(fn.body.isSome,B24 prog (A7a own (Ff fn) ⟨A9m ls,A9m cs,B27 os,rs,al⟩) ⟨args.length+(fn.ntmps-args.length),own,none,A9n,wr,false⟩ fn.results.toList (Ff fn) args h K)=(true,T h K):=by intro h K;kernel_rfl) (hvc:T h K):FCall prog f args.toArray h K:=by
 obtain ⟨d,a⟩:=Prod.mk.inj (e h K)
 have b:fn.body=some (Ff fn):=by
  unfold Ff
  grind
 exact Yt hf b rfl rfl bod (a.mpr hvc)
