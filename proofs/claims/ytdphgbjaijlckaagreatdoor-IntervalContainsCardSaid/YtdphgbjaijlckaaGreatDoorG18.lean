/- A part. -/
import Derived.Test.YtdphgbjaijlckaaGreatDoorG16
import Derived.Test.YtdphgbjaijlckaaGreatDoorG17
open Go.Proofs.Tryz
set_option linter.all false
open Rat renaming pow_succ->aC,mul_nonneg->aD,pow_zero->aE,mul_comm->aF,le_trans->aG
namespace Go.Proofs.YtdphgbjaijlckaaGreatDoor
set_option maxRecDepth 20000
open Go
def R4:prog.underlying 5=some (.int .u8):=by kernel_rfl
def L8:prog.underlying 9=some .string:=by kernel_rfl
def pw(e:Nat):Nat:=if e=0 then 0 else 10^(e-1)
section
variable {h h':Heap} {K:VP} {A B:Option Addr} {n c n' c':Nat} {s s':Bool} {x y z:Int} {m:Nat} {p q:Rat} {a b w:QV}
end
def Ns{l:List UInt8}(h:∀ c∈l,F8 c):I0 l<2^(4*l.length):=by
 have a:=Bm h
 have b:10^l.length<=16^l.length:=Nat.pow_le_pow_left dc _
 have d:16^l.length=2^(4*l.length):=by rw [Nat.pow_mul]
 omega
section
variable {h h':Heap} {K:VP} {A B:Option Addr} {n c n' c':Nat} {s s':Bool} {x y z:Int} {m:Nat} {p q:Rat} {a b w:QV} {l:List UInt8}
def Bo{n m:Nat}(h:n<2^m):(H2 n).length<=m+1:=by
 rw [Cz o]
 have:2^m<=10^(m+1):=Nat.le_trans (Nat.pow_le_pow_left dc m) (Nat.pow_le_pow_right dc o)
 omega
end
def mn(p q:Rat):Rat:=if q<p then q else p
def mx(p q:Rat):Rat:=if q>p then q else p
def mnL(p:Rat)(l:List Rat):Rat:=l.foldl mn p
def mxL(p:Rat)(l:List Rat):Rat:=l.foldl mx p
def Ou(p q:Rat)(l:List Rat):mnL p (q::l)=mnL (mn p q) l:=rfl
def Ot(p q:Rat)(l:List Rat):mxL p (q::l)=mxL (mx p q) l:=rfl
def Vu(p q:Rat)(l:List Rat):mnL p (l++[q])=mn (mnL p l) q:=by simp [mnL]
def Vt(p q:Rat)(l:List Rat):mxL p (l++[q])=mx (mxL p l) q:=by simp [mxL]
def Zi(p q:Rat):mn p q<=p/\mn p q<=q:=by unfold mn;split<;>grind
def Zm(p q:Rat):p<=mx p q/\q<=mx p q:=by unfold mx;split<;>grind
def Sr(p q:Rat):mn p q=p\/mn p q=q:=by unfold mn;split<;>simp
def So(p q:Rat):mx p q=p\/mx p q=q:=by unfold mx;split<;>simp
def Gh{a b:Rat}(h:a<=b)(hs:0<a\/b<0):1/b<=1/a:=by
 have i:a≠0:=by rcases hs with c|c<;>grind
 have j:b≠0:=by rcases hs with c|c<;>grind
 have e:1/a-1/b=(b-a)*(1/(a*b)):=gz0
 have d:0<a*b:=by
  rcases hs with c|c
  ·exact Rat.mul_pos c gz0
  ·have:=Rat.mul_pos (show 0 < -a from gz0) (show 0 < -b from gz0)
   grind
 have g:0<1/(a*b):=by
  rw [Rat.div_def,Rat.one_mul];exact Rat.inv_pos.2 d
 have:0<=(b-a)*(1/(a*b)):=aD gz0 (Rat.le_of_lt g)
 grind
def N3{x:Rat}(h:0<=x):∀ k:Nat,0<=x^k
 | 0=>by rw [aE];decide
 | k+1=>by rw [aC];exact aD (N3 h k) h
def L4{x y:Rat}(h:0<=x)(hxy:x<=y):∀ k:Nat,x^k<=y^k
 | 0=>by rw [aE,aE];exact Rat.le_refl
 | k+1=>by
  rw [aC,aC]
  have h1:=L4 h hxy k
  have a:=N3 h k
  have c:0<=x^k*(y-x):=aD a gz0
  have b:0<=(y^k-x^k)*y:=aD gz0 gz0
  grind
def Jb(x:Rat):∀ k:Nat,(-x)^(2*k)=x^(2*k)/\(-x)^(2*k+1)= -(x^(2*k+1))
 | 0=>by simp [aE,aC]
 | k+1=>by
  obtain ⟨h1,h2⟩:=Jb x k
  have a:(-x)^(2*(k+1))=x^(2*(k+1)):=by
   rw [show 2*(k+1)=(2*k+1)+1 from o,aC,aC,h1,aC,aC];grind
  refine ⟨a,?_⟩
  rw [aC,aC,a];grind
def Cp{x:Rat}{k:Nat}(h:k%2=0):(-x)^k=x^k:=by
 obtain ⟨j,rfl⟩:∃ j,k=2*j:=⟨k/2,o⟩
 exact (Jb x j).1
def Nj{x:Rat}{k:Nat}(h:k%2=1):(-x)^k= -(x^k):=by
 obtain ⟨j,rfl⟩:∃ j,k=2*j+1:=⟨k/2,o⟩
 exact (Jb x j).2
def Fx(x:Rat){k:Nat}(h:k%2=0):0<=x^k:=by
 by_cases a:0<=x
 ·exact N3 a k
 ·rw [<- Cp h];exact N3 gz0 k
def Fy(a b:Rat)(k:Nat):Rat:=if 0<k/\k%2=0/\a<0/\0<b then mnL 0 [a^k,b^k] else mn (a^k) (b^k)
def Fz(a b:Rat)(k:Nat):Rat:=if 0<k/\k%2=0/\a<0/\0<b then mxL 0 [a^k,b^k] else mx (a^k) (b^k)
def Bi{a b x y:Rat}(h1:a<=x)(h2:x<=b):mn (a*y) (b*y)<=x*y/\x*y<=mx (a*y) (b*y):=by
 have i:=Zi (a*y) (b*y)
 have g:=Zm (a*y) (b*y)
 by_cases c:0<=y
 ·have d:0<=(x-a)*y:=aD gz0 c
  have e:0<=(b-x)*y:=aD gz0 c
  grind
 ·have d:0<=(x-a)*(-y):=aD gz0 gz0
  have e:0<=(b-x)*(-y):=aD gz0 gz0
  grind
def Xh(l:List Rat):∀ p:Rat,mnL p l<=p/\∀ q∈l,mnL p l<=q:=by
 induction l with
 | nil=>intro p;exact ⟨Rat.le_refl,by simp⟩
 | cons q l ih=>
  intro p
  rw [Ou]
  obtain ⟨b,c⟩:=ih (mn p q)
  obtain ⟨e,d⟩:=Zi p q
  refine ⟨aG b e,fun r a=>?_⟩
  rcases List.mem_cons.1 a with rfl|a
  ·exact aG b d
  ·exact c r a
def Xj(l:List Rat):∀ p:Rat,p<=mxL p l/\∀ q∈l,q<=mxL p l:=by
 induction l with
 | nil=>intro p;exact ⟨Rat.le_refl,by simp⟩
 | cons q l ih=>
  intro p
  rw [Ot]
  obtain ⟨b,c⟩:=ih (mx p q)
  obtain ⟨e,d⟩:=Zm p q
  refine ⟨aG e b,fun r a=>?_⟩
  rcases List.mem_cons.1 a with rfl|a
  ·exact aG d b
  ·exact c r a
def Gc(a b c d:Rat):Rat:=mnL (a*c) [a*d,b*c,b*d]
def Gd(a b c d:Rat):Rat:=mxL (a*c) [a*d,b*c,b*d]
def Sq{a b c d x y:Rat}(h1:a<=x)(h2:x<=b)(h3:c<=y)(h4:y<=d):Gc a b c d<=x*y/\x*y<=Gd a b c d:=by
 obtain ⟨L,g⟩:=Xh [a*d,b*c,b*d] (a*c)
 obtain ⟨C,e⟩:=Xj [a*d,b*c,b*d] (a*c)
 have N:=g (a*d) (by simp)
 have F:=g (b*c) (by simp)
 have G:=g (b*d) (by simp)
 have B:=e (a*d) (by simp)
 have E:=e (b*c) (by simp)
 have D:=e (b*d) (by simp)
 obtain ⟨H,A⟩:=Bi (y:=y) h1 h2
 have i:=Bi (y:=a) h3 h4
 have j:=Bi (y:=b) h3 h4
 have q:=Sr (c*a) (d*a)
 have l:=Sr (c*b) (d*b)
 have m:=So (c*a) (d*a)
 have w:=So (c*b) (d*b)
 have M:=Sr (a*y) (b*y)
 have z:=So (a*y) (b*y)
 unfold Gc Gd
 have r:c*a=a*c:=aF _ _
 have p:d*a=a*d:=aF _ _
 have s:c*b=b*c:=aF _ _
 have u:d*b=b*d:=aF _ _
 have k:y*a=a*y:=aF _ _
 have n:y*b=b*y:=aF _ _
 rw [r,p] at q m i
 rw [s,u] at l w j
 rw [k] at i
 rw [n] at j
 grind
def Yz{a b x:Rat}(k:Nat)(h1:a<=x)(h2:x<=b):Fy a b k<=x^k/\x^k<=Fz a b k:=by
 have C:=Zi (a^k) (b^k)
 have w:=Zm (a^k) (b^k)
 unfold Fy Fz
 by_cases c:0<k/\k%2=0/\a<0/\0<b
 ·rw [iP c,iP c]
  obtain ⟨D,E⟩:=Xh [a^k,b^k] 0
  obtain ⟨A,m⟩:=Xj [a^k,b^k] 0
  have z:=m (a^k) (by simp)
  have B:=m (b^k) (by simp)
  have s:=Fx x c.2.1
  refine ⟨gz0,?_⟩
  by_cases j:0<=x
  ·have:=L4 j h2 k;grind
  ·have:=L4 (x:= -x) (y:= -a) gz0 gz0 k
   rw [Cp c.2.1,Cp c.2.1] at this
   grind
 ·rw [iN c,iN c]
  by_cases n:k=0
  ·subst n
   rw [aE] at *
   rw [aE] at *
   rw [aE] at *
   grind
  by_cases l:k%2=0
  ·by_cases q:0<=a
   ·have d:=L4 q h1 k
    have e:=L4 (x:=x) gz0 h2 k
    grind
   ·have u:b<=0:=by
     have:¬ 0<b:=fun h=>c ⟨o,l,gz0,h⟩
     grind
    have d:=L4 (x:= -x) (y:= -a) gz0 gz0 k
    have e:=L4 (x:= -b) (y:= -x) gz0 gz0 k
    rw [Cp l,Cp l] at d e
    grind
  ·have i:k%2=1:=o
   have mono:∀ {x y:Rat},x<=y->x^k<=y^k:=by
    intro x y g
    by_cases j:0<=x
    ·exact L4 j g k
    ·have r:=N3 (x:= -x) gz0 k
     rw [Nj i] at r
     by_cases p:0<=y
     ·have:=N3 p k;grind
     ·have d:=L4 (x:= -y) (y:= -x) gz0 gz0 k
      rw [Nj i,Nj i] at d
      grind
   have d:=mono h1
   have e:=mono h2
   grind
