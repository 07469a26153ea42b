/- A part. -/
import Derived.Test.YtmbfcbbkbefgfaaGreatDoorG14
import Derived.Test.YtmbfcbbkbefgfaaGreatDoorG15
open Go.Proofs.Tryz
set_option linter.all false
open Rat renaming pow_succ->aC,mul_nonneg->aD,pow_zero->aE,mul_comm->aF,le_trans->aG
namespace Go.Proofs.YtmbfcbbkbefgfaaGreatDoor
set_option maxRecDepth 20000
open Go
def Cn:prog.underlying G0=some (.int .u8):=by kernel_rfl
def T8:prog.underlying A6i=some .string:=by kernel_rfl
def pw(e:Nat):Nat:=if e=0 then 0 else 10^(e-1)
section
variable {h h':Heap} {K:VP} {A B:Option Addr} {n c n' c':Nat} {s s':Bool} {x y z:Int} {m:Nat} {p q:Rat} {a b w:QV}
end
def A2g{l:List UInt8}(h:∀ c∈l,H0 c):N2 l<2^(4*l.length):=by
 have d:=It h
 have a:10^l.length<=16^l.length:=Nat.pow_le_pow_left (by decide) _
 have b:16^l.length=2^(4*l.length):=by rw [Nat.pow_mul]
 omega
section
variable {h h':Heap} {K:VP} {A B:Option Addr} {n c n' c':Nat} {s s':Bool} {x y z:Int} {m:Nat} {p q:Rat} {a b w:QV} {l:List UInt8}
def Iv{n m:Nat}(h:n<2^m):(L0 n).length<=m+1:=by
 rw [Kn (by omega)]
 have:2^m<=10^(m+1):=Nat.le_trans (Nat.pow_le_pow_left (by decide) m) (Nat.pow_le_pow_right (by decide) (by omega))
 omega
end
def mn(p q:Rat):Rat:=if q<p then q else p
def mx(p q:Rat):Rat:=if q>p then q else p
def mnL(p:Rat)(l:List Rat):Rat:=l.foldl mn p
def mxL(p:Rat)(l:List Rat):Rat:=l.foldl mx p
def Wm(p q:Rat)(l:List Rat):mnL p (q::l)=mnL (mn p q) l:=rfl
def Wk(p q:Rat)(l:List Rat):mxL p (q::l)=mxL (mx p q) l:=rfl
def B57(p:Rat):mnL p []=p:=rfl
def B54(p:Rat):mxL p []=p:=rfl
def B1l(p q:Rat)(l:List Rat):mnL p (l++[q])=mn (mnL p l) q:=by simp [mnL]
def B1j(p q:Rat)(l:List Rat):mxL p (l++[q])=mx (mxL p l) q:=by simp [mxL]
def B1k(p q:Rat):mn p q<=p/\mn p q<=q:=by unfold mn;split<;>grind
def B1m(p q:Rat):p<=mx p q/\q<=mx p q:=by unfold mx;split<;>grind
def A25(p q:Rat):mn p q=p\/mn p q=q:=by unfold mn;split<;>simp
def A22(p q:Rat):mx p q=p\/mx p q=q:=by unfold mx;split<;>simp
def U3{x:Rat}(h:0<=x):∀ k:Nat,0<=x^k
 | 0=>by rw [aE];decide
 | k+1=>by rw [aC];exact aD (U3 h k) h
def S3{x y:Rat}(h:0<=x)(hxy:x<=y):∀ k:Nat,x^k<=y^k
 | 0=>by rw [aE,aE];exact Rat.le_refl
 | k+1=>by
  rw [aC,aC]
  have h1:=S3 h hxy k
  have a:=U3 h k
  have c:0<=x^k*(y-x):=aD a (by grind)
  have b:0<=(y^k-x^k)*y:=aD (by grind) (by grind)
  grind
def Wi(x:Rat):∀ k:Nat,(-x)^(2*k)=x^(2*k)/\(-x)^(2*k+1)= -(x^(2*k+1))
 | 0=>by simp [aE,aC]
 | k+1=>by
  obtain ⟨h1,h2⟩:=Wi x k
  have a:(-x)^(2*(k+1))=x^(2*(k+1)):=by
   rw [show 2*(k+1)=(2*k+1)+1 by omega,aC,aC,h1,aC,aC];grind
  refine ⟨a,?_⟩
  rw [aC,aC,a];grind
def Ju{x:Rat}{k:Nat}(h:k%2=0):(-x)^k=x^k:=by
 obtain ⟨j,rfl⟩:∃ j,k=2*j:=⟨k/2,by omega⟩
 exact (Wi x j).1
def A1w{x:Rat}{k:Nat}(h:k%2=1):(-x)^k= -(x^k):=by
 obtain ⟨j,rfl⟩:∃ j,k=2*j+1:=⟨k/2,by omega⟩
 exact (Wi x j).2
def Pz(x:Rat){k:Nat}(h:k%2=0):0<=x^k:=by
 by_cases a:0<=x
 ·exact U3 a k
 ·rw [<- Ju h];exact U3 (by grind) k
def S4(a b:Rat)(k:Nat):Rat:=if 0<k/\k%2=0/\a<0/\0<b then mnL 0 [a^k,b^k] else mn (a^k) (b^k)
def S5(a b:Rat)(k:Nat):Rat:=if 0<k/\k%2=0/\a<0/\0<b then mxL 0 [a^k,b^k] else mx (a^k) (b^k)
def A66{k:Nat}(h:0<k):(0:Rat)^k=0:=by
 obtain ⟨j,rfl⟩:∃ j,k=j+1:=⟨k-1,by omega⟩
 rw [aC,Rat.mul_zero]
def If{a b x y:Rat}(h1:a<=x)(h2:x<=b):mn (a*y) (b*y)<=x*y/\x*y<=mx (a*y) (b*y):=by
 have g:=B1k (a*y) (b*y)
 have i:=B1m (a*y) (b*y)
 by_cases c:0<=y
 ·have d:0<=(x-a)*y:=aD (by grind) c
  have e:0<=(b-x)*y:=aD (by grind) c
  grind
 ·have d:0<=(x-a)*(-y):=aD (by grind) (by grind)
  have e:0<=(b-x)*(-y):=aD (by grind) (by grind)
  grind
def A7l(l:List Rat):∀ p:Rat,mnL p l<=p/\∀ q∈l,mnL p l<=q:=by
 induction l with
 | nil=>intro p;exact ⟨Rat.le_refl,by simp⟩
 | cons q l ih=>
  intro p
  rw [Wm]
  obtain ⟨b,c⟩:=ih (mn p q)
  obtain ⟨e,d⟩:=B1k p q
  refine ⟨aG b e,fun r a=>?_⟩
  rcases List.mem_cons.1 a with rfl|a
  ·exact aG b d
  ·exact c r a
def A7r(l:List Rat):∀ p:Rat,p<=mxL p l/\∀ q∈l,q<=mxL p l:=by
 induction l with
 | nil=>intro p;exact ⟨Rat.le_refl,by simp⟩
 | cons q l ih=>
  intro p
  rw [Wk]
  obtain ⟨b,c⟩:=ih (mx p q)
  obtain ⟨e,d⟩:=B1m p q
  refine ⟨aG e b,fun r a=>?_⟩
  rcases List.mem_cons.1 a with rfl|a
  ·exact aG d b
  ·exact c r a
def Hm(a b c d:Rat):Rat:=mnL (a*c) [a*d,b*c,b*d]
def Hn(a b c d:Rat):Rat:=mxL (a*c) [a*d,b*c,b*d]
def Qd{a b c d x y:Rat}(h1:a<=x)(h2:x<=b)(h3:c<=y)(h4:y<=d):Hm a b c d<=x*y/\x*y<=Hn a b c d:=by
 obtain ⟨z,e⟩:=A7l [a*d,b*c,b*d] (a*c)
 obtain ⟨E,g⟩:=A7r [a*d,b*c,b*d] (a*c)
 have w:=e (a*d) (by simp)
 have G:=e (b*c) (by simp)
 have J:=e (b*d) (by simp)
 have B:=g (a*d) (by simp)
 have L:=g (b*c) (by simp)
 have H:=g (b*d) (by simp)
 obtain ⟨F,C⟩:=If (y:=y) h1 h2
 have i:=If (y:=a) h3 h4
 have j:=If (y:=b) h3 h4
 have u:=A25 (c*a) (d*a)
 have l:=A25 (c*b) (d*b)
 have p:=A22 (c*a) (d*a)
 have n:=A22 (c*b) (d*b)
 have A:=A25 (a*y) (b*y)
 have D:=A22 (a*y) (b*y)
 unfold Hm Hn
 have o:c*a=a*c:=aF _ _
 have k:d*a=a*d:=aF _ _
 have r:c*b=b*c:=aF _ _
 have q:d*b=b*d:=aF _ _
 have m:y*a=a*y:=aF _ _
 have s:y*b=b*y:=aF _ _
 rw [o,k] at u p i
 rw [r,q] at l n j
 rw [m] at i
 rw [s] at j
 grind
def Ls{a b x:Rat}(k:Nat)(h1:a<=x)(h2:x<=b):S4 a b k<=x^k/\x^k<=S5 a b k:=by
 have C:=B1k (a^k) (b^k)
 have A:=B1m (a^k) (b^k)
 unfold S4 S5
 by_cases c:0<k/\k%2=0/\a<0/\0<b
 ·rw [iP c,iP c]
  obtain ⟨s,B⟩:=A7l [a^k,b^k] 0
  obtain ⟨z,m⟩:=A7r [a^k,b^k] 0
  have w:=m (a^k) (by simp)
  have D:=m (b^k) (by simp)
  have r:=Pz x c.2.1
  refine ⟨by grind,?_⟩
  by_cases j:0<=x
  ·have:=S3 j h2 k;grind
  ·have:=S3 (x:= -x) (y:= -a) (by grind) (by grind) k
   rw [Ju c.2.1,Ju c.2.1] at this
   grind
 ·rw [iN c,iN c]
  by_cases p:k=0
  ·subst p
   rw [aE] at *
   rw [aE] at *
   rw [aE] at *
   grind
  by_cases i:k%2=0
  ·by_cases q:0<=a
   ·have d:=S3 q h1 k
    have e:=S3 (x:=x) (by grind) h2 k
    grind
   ·have u:b<=0:=by
     have:¬ 0<b:=fun h=>c ⟨by omega,i,by grind,h⟩
     grind
    have d:=S3 (x:= -x) (y:= -a) (by grind) (by grind) k
    have e:=S3 (x:= -b) (y:= -x) (by grind) (by grind) k
    rw [Ju i,Ju i] at d e
    grind
  ·have g:k%2=1:=by omega
   have mono:∀ {x y:Rat},x<=y->x^k<=y^k:=by
    intro x y l
    by_cases j:0<=x
    ·exact S3 j l k
    ·have o:=U3 (x:= -x) (by grind) k
     rw [A1w g] at o
     by_cases n:0<=y
     ·have:=U3 n k;grind
     ·have d:=S3 (x:= -y) (y:= -x) (by grind) (by grind) k
      rw [A1w g,A1w g] at d
      grind
   have d:=mono h1
   have e:=mono h2
   grind
