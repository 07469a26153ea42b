/- A part. -/
import Derived.Test.YtdphgbjaijlckaaGreatDoorG16
import Derived.Test.YtdphgbjaijlckaaGreatDoorG17
open Go.Proofs.Tryz
set_option linter.all false
open Rat renaming pow_succ->aC,mul_nonneg->aD,pow_zero->aE,mul_comm->aF,le_trans->aG
namespace Go.Proofs.YtdphgbjaijlckaaGreatDoor
set_option maxRecDepth 20000
open Go
def V7:prog.underlying 5=some (.int .u8):=by kernel_rfl
def O5:prog.underlying 9=some .string:=by kernel_rfl
def pw(e:Nat):Nat:=if e=0 then 0 else 10^(e-1)
section
variable {h h':Heap} {K:VP} {A B:Option Addr} {n c n' c':Nat} {s s':Bool} {x y z:Int} {m:Nat} {p q:Rat} {a b w:QV}
end
def Si{l:List UInt8}(h:∀ c∈l,G4 c):J9 l<2^(4*l.length):=by
 have a:=Dl h
 have b:10^l.length<=16^l.length:=Nat.pow_le_pow_left dc _
 have d:16^l.length=2^(4*l.length):=by rw [Nat.pow_mul]
 omega
section
variable {h h':Heap} {K:VP} {A B:Option Addr} {n c n' c':Nat} {s s':Bool} {x y z:Int} {m:Nat} {p q:Rat} {a b w:QV} {l:List UInt8}
def Dn{n m:Nat}(h:n<2^m):(J1 n).length<=m+1:=by
 rw [Ez o]
 have:2^m<=10^(m+1):=Nat.le_trans (Nat.pow_le_pow_left dc m) (Nat.pow_le_pow_right dc o)
 omega
end
def mn(p q:Rat):Rat:=if q<p then q else p
def mx(p q:Rat):Rat:=if q>p then q else p
def mnL(p:Rat)(l:List Rat):Rat:=l.foldl mn p
def mxL(p:Rat)(l:List Rat):Rat:=l.foldl mx p
def Mo(p q:Rat)(l:List Rat):mnL p (q::l)=mnL (mn p q) l:=rfl
def Ml(p q:Rat)(l:List Rat):mxL p (q::l)=mxL (mx p q) l:=rfl
def A4c(p:Rat):mnL p []=p:=rfl
def A49(p:Rat):mxL p []=p:=rfl
def A1b(p q:Rat)(l:List Rat):mnL p (l++[q])=mn (mnL p l) q:=by simp [mnL]
def A19(p q:Rat)(l:List Rat):mxL p (l++[q])=mx (mxL p l) q:=by simp [mxL]
def A1a(p q:Rat):mn p q<=p/\mn p q<=q:=by unfold mn;split<;>grind
def A1c(p q:Rat):p<=mx p q/\q<=mx p q:=by unfold mx;split<;>grind
def Sa(p q:Rat):mn p q=p\/mn p q=q:=by unfold mn;split<;>simp
def Rx(p q:Rat):mx p q=p\/mx p q=q:=by unfold mx;split<;>simp
def P2{x:Rat}(h:0<=x):∀ k:Nat,0<=x^k
 | 0=>by rw [aE];decide
 | k+1=>by rw [aC];exact aD (P2 h k) h
def N7{x y:Rat}(h:0<=x)(hxy:x<=y):∀ k:Nat,x^k<=y^k
 | 0=>by rw [aE,aE];exact Rat.le_refl
 | k+1=>by
  rw [aC,aC]
  have h1:=N7 h hxy k
  have a:=P2 h k
  have c:0<=x^k*(y-x):=aD a gz0
  have b:0<=(y^k-x^k)*y:=aD gz0 gz0
  grind
def Mi(x:Rat):∀ k:Nat,(-x)^(2*k)=x^(2*k)/\(-x)^(2*k+1)= -(x^(2*k+1))
 | 0=>by simp [aE,aC]
 | k+1=>by
  obtain ⟨h1,h2⟩:=Mi x k
  have a:(-x)^(2*(k+1))=x^(2*(k+1)):=by
   rw [show 2*(k+1)=(2*k+1)+1 from o,aC,aC,h1,aC,aC];grind
  refine ⟨a,?_⟩
  rw [aC,aC,a];grind
def Em{x:Rat}{k:Nat}(h:k%2=0):(-x)^k=x^k:=by
 obtain ⟨j,rfl⟩:∃ j,k=2*j:=⟨k/2,o⟩
 exact (Mi x j).1
def Rr{x:Rat}{k:Nat}(h:k%2=1):(-x)^k= -(x^k):=by
 obtain ⟨j,rfl⟩:∃ j,k=2*j+1:=⟨k/2,o⟩
 exact (Mi x j).2
def Ig(x:Rat){k:Nat}(h:k%2=0):0<=x^k:=by
 by_cases a:0<=x
 ·exact P2 a k
 ·rw [<- Em h];exact P2 gz0 k
def N8(a b:Rat)(k:Nat):Rat:=if 0<k/\k%2=0/\a<0/\0<b then mnL 0 [a^k,b^k] else mn (a^k) (b^k)
def N9(a b:Rat)(k:Nat):Rat:=if 0<k/\k%2=0/\a<0/\0<b then mxL 0 [a^k,b^k] else mx (a^k) (b^k)
def Vz{k:Nat}(h:0<k):(0:Rat)^k=0:=by
 obtain ⟨j,rfl⟩:∃ j,k=j+1:=⟨k-1,o⟩
 rw [aC,Rat.mul_zero]
def Dh{a b x y:Rat}(h1:a<=x)(h2:x<=b):mn (a*y) (b*y)<=x*y/\x*y<=mx (a*y) (b*y):=by
 have i:=A1a (a*y) (b*y)
 have g:=A1c (a*y) (b*y)
 by_cases c:0<=y
 ·have d:0<=(x-a)*y:=aD gz0 c
  have e:0<=(b-x)*y:=aD gz0 c
  grind
 ·have d:0<=(x-a)*(-y):=aD gz0 gz0
  have e:0<=(b-x)*(-y):=aD gz0 gz0
  grind
def Yb(l:List Rat):∀ p:Rat,mnL p l<=p/\∀ q∈l,mnL p l<=q:=by
 induction l with
 | nil=>intro p;exact ⟨Rat.le_refl,by simp⟩
 | cons q l ih=>
  intro p
  rw [Mo]
  obtain ⟨b,c⟩:=ih (mn p q)
  obtain ⟨e,d⟩:=A1a p q
  refine ⟨aG b e,fun r a=>?_⟩
  rcases List.mem_cons.1 a with rfl|a
  ·exact aG b d
  ·exact c r a
def Yh(l:List Rat):∀ p:Rat,p<=mxL p l/\∀ q∈l,q<=mxL p l:=by
 induction l with
 | nil=>intro p;exact ⟨Rat.le_refl,by simp⟩
 | cons q l ih=>
  intro p
  rw [Ml]
  obtain ⟨b,c⟩:=ih (mx p q)
  obtain ⟨e,d⟩:=A1c p q
  refine ⟨aG e b,fun r a=>?_⟩
  rcases List.mem_cons.1 a with rfl|a
  ·exact aG d b
  ·exact c r a
def Cr(a b c d:Rat):Rat:=mnL (a*c) [a*d,b*c,b*d]
def Cs(a b c d:Rat):Rat:=mxL (a*c) [a*d,b*c,b*d]
def Ik{a b c d x y:Rat}(h1:a<=x)(h2:x<=b)(h3:c<=y)(h4:y<=d):Cr a b c d<=x*y/\x*y<=Cs a b c d:=by
 obtain ⟨L,g⟩:=Yb [a*d,b*c,b*d] (a*c)
 obtain ⟨C,e⟩:=Yh [a*d,b*c,b*d] (a*c)
 have N:=g (a*d) (by simp)
 have F:=g (b*c) (by simp)
 have G:=g (b*d) (by simp)
 have B:=e (a*d) (by simp)
 have E:=e (b*c) (by simp)
 have D:=e (b*d) (by simp)
 obtain ⟨H,A⟩:=Dh (y:=y) h1 h2
 have i:=Dh (y:=a) h3 h4
 have j:=Dh (y:=b) h3 h4
 have q:=Sa (c*a) (d*a)
 have l:=Sa (c*b) (d*b)
 have m:=Rx (c*a) (d*a)
 have w:=Rx (c*b) (d*b)
 have M:=Sa (a*y) (b*y)
 have z:=Rx (a*y) (b*y)
 unfold Cr Cs
 have r:c*a=a*c:=aF _ _
 have p:d*a=a*d:=aF _ _
 have s:c*b=b*c:=aF _ _
 have u:d*b=b*d:=aF _ _
 have k:y*a=a*y:=aF _ _
 have n:y*b=b*y:=aF _ _
 rw [r,p] at q m i
 rw [s,u] at l w j
 rw [k] at i
 rw [n] at j
 grind
def Ft{a b x:Rat}(k:Nat)(h1:a<=x)(h2:x<=b):N8 a b k<=x^k/\x^k<=N9 a b k:=by
 have C:=A1a (a^k) (b^k)
 have w:=A1c (a^k) (b^k)
 unfold N8 N9
 by_cases c:0<k/\k%2=0/\a<0/\0<b
 ·rw [iP c,iP c]
  obtain ⟨D,E⟩:=Yb [a^k,b^k] 0
  obtain ⟨A,m⟩:=Yh [a^k,b^k] 0
  have z:=m (a^k) (by simp)
  have B:=m (b^k) (by simp)
  have s:=Ig x c.2.1
  refine ⟨gz0,?_⟩
  by_cases j:0<=x
  ·have:=N7 j h2 k;grind
  ·have:=N7 (x:= -x) (y:= -a) gz0 gz0 k
   rw [Em c.2.1,Em c.2.1] at this
   grind
 ·rw [iN c,iN c]
  by_cases n:k=0
  ·subst n
   rw [aE] at *
   rw [aE] at *
   rw [aE] at *
   grind
  by_cases l:k%2=0
  ·by_cases q:0<=a
   ·have d:=N7 q h1 k
    have e:=N7 (x:=x) gz0 h2 k
    grind
   ·have u:b<=0:=by
     have:¬ 0<b:=fun h=>c ⟨o,l,gz0,h⟩
     grind
    have d:=N7 (x:= -x) (y:= -a) gz0 gz0 k
    have e:=N7 (x:= -b) (y:= -x) gz0 gz0 k
    rw [Em l,Em l] at d e
    grind
  ·have i:k%2=1:=o
   have mono:∀ {x y:Rat},x<=y->x^k<=y^k:=by
    intro x y g
    by_cases j:0<=x
    ·exact N7 j g k
    ·have r:=P2 (x:= -x) gz0 k
     rw [Rr i] at r
     by_cases p:0<=y
     ·have:=P2 p k;grind
     ·have d:=N7 (x:= -y) (y:= -x) gz0 gz0 k
      rw [Rr i,Rr i] at d
      grind
   have d:=mono h1
   have e:=mono h2
   grind
