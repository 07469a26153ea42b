/- A part. -/
import Derived.Test.YtdphgbjaijlckaaGreatDoorG18
import Derived.Test.YtdphgbjaijlckaaGreatDoorRows
import Derived.Lib.LaidTab
open Go.Proofs.Tryz
set_option linter.all false
open _root_.Array renaming replicate->bK
open Bool renaming eq_iff_iff->cM
open _root_.Go.Builtin renaming zeroCells->aW,append_->bJ
open _root_.ByteArray renaming size->cQ
open Int renaming toNat_natCast->aC,sign_eq_one_of_pos->aM,gcd->aT,sign_eq_neg_one_of_neg->bC,ofNat_tmod->bD,ofNat_tdiv->bF,natCast_mul->bI,mul_le_mul_of_nonneg_left->bU,tmod->cH,gcd_natCast_natCast->cI,mul_ne_zero->cL,natAbs_natCast->cU,tdiv->cV,mul_le_mul_of_nonneg_right->cW,natCast_add->dB,tdiv_eq_ediv_of_dvd->dH,pow_succ->dI,le_of_lt->dJ
open List renaming replicate->aD,getElem?_cons_zero->aE,getElem?_cons_succ->aG,take_of_length_le->aI,length_append->aK,eq_nil_of_length_eq_zero->aN,exists_cons_of_ne_nil->aZ,drop_zero->bB,getElem?_eq_getElem->bH,take_succ_eq_append_getElem->bM,takeWhile_append_dropWhile->bN,length_take->bO,drop_eq_getElem_cons->bZ,append_assoc->cD,length_drop->cF,getElem_mem->cG,drop_of_length_le->cJ,take_append_drop->cN,length_singleton->cO,mem_of_mem_take->cP,map_append->cZ,head?_cons->dA,getLast?_singleton->dG
open Nat renaming pow_le_pow_right->aH,lt_of_lt_of_le->aQ,le_refl->aR,gcd->aS,div_le_self->aU,mul_one->aY,sub_zero->bG,le_trans->bL,zero_add->bX,gcd_dvd_right->cC,min_eq_left->cK,pow_le_pow_left->cR,pow_mul->cX,le_of_dvd->dF
open Option.some renaming injEq->aV
open Rat renaming lt_iff->aX,divInt->bY,num_eq_zero->cY,add->dC,ceil_eq_neg_floor_neg->dD
open _root_.Go.Value renaming int->aO
open _root_.Go renaming Addr->aJ,TypeId->aP,Value->bV,Program->cT
open _root_.Go.Proofs.YtdphgbjaijlckaaGreatDoor renaming FCall->aF,Heap->aL,Priv->bW,den_ne->dE
namespace Go.Proofs.YtdphgbjaijlckaaGreatDoor
set_option maxRecDepth 20000
open Go
structure ZI (h:aL) (s:Bool) (A:Option aJ) (n c:Nat) (z:Int):Prop where
 cap:n<=c
 mag:Mw h A n (z.natAbs:Int)
 sgn:s=decide (z<0)
def ZI.mono{h h':aL}{s:Bool}{A:Option aJ}{n c:Nat}{z:Int}(i:ZI h s A n c z)(l:h.le h'):ZI h' s A n c z:=⟨i.cap,i.mag.mono l,i.sgn⟩
def ZI.zero{h:aL}{A:Option aJ}:ZI h false A 0 0 0:=⟨aR _,Mag.zero,rfl⟩
def ZI.lenG{h:aL}{s:Bool}{A:Option aJ}{n c m k:Nat}{z:Int}(i:ZI h s A n c z)(hz:ZB m z)(hm:m<=64*k):n<=k:=by
 refine i.mag.len_le dc ?_
 rw [Fo]
 have a:(z.natAbs:Int)<2^m:=by
  have:((z.natAbs:Nat):Int)<((2^m:Nat):Int):=Int.ofNat_lt.2 hz
  simpa using this
 have b:=C8 (B:=2) dc hm
 exact Int.lt_of_lt_of_le a b
def ZI.len{h:aL}{s:Bool}{A:Option aJ}{n c m:Nat}{z:Int}(i:ZI h s A n c z)(hz:ZB m z)(hm:m<=6400000000):n<=100000000:=i.lenG hz o
def ZI.zeroIff{h:aL}{s:Bool}{A:Option aJ}{n c:Nat}{z:Int}(i:ZI h s A n c z):z=0↔n=0:=by
 have:=i.mag.len_zero dc
 omega
section
variable {h g:aL} {K:VP} {A B:Option aJ} {s s':Bool} {an ac bn bc m:Nat} {x y:Int}
def K5{v:Nat}{n c:Nat}{neg:Bool}(M:Mw h A n (v:Int))(hc:n<=c)(hK:∀ s,ZI h s A n c (if neg then -(v:Int) else v)->K (.agg #[.bool s,.slice A n c]) h):aF prog 188 #[.bool neg,.slice A n c] h K:=by
 have a:=M.len_zero dc
 refine (fnk func188 (own:=[4])) ?_
 cases neg with
 | true=>
  refine Br.of (fun _=>hK _ ⟨hc,?_,?_⟩) (fun e=>by cases e)
  ·simpa using M
  ·simp only [if_true,decide_eq_decide];omega
 | false=>
  refine Br.of (fun e=>by cases e) (fun _=>hK _ ⟨hc,?_,?_⟩)
  ·simpa using M
  ·simp
def P8(i:ZI h s A an ac x)(hK:∀ s',ZI h s' A an ac (-x)->K (.agg #[.bool s',.slice A an ac]) h):aF prog 125 #[.agg #[.bool s,.slice A an ac]] h K:=by
 refine (fnk func125 (own:=[1,2])) ?_
 refine K5 (neg:= !s) i.mag i.cap ?_
 intro c a
 have e:(if (!s)=true then -(x.natAbs:Int) else x.natAbs)= -x:=by
  have:=i.sgn
  by_cases b:x<0
  ·simp only [b,decide_true] at this;subst this;simp;omega
  ·simp only [b,decide_false] at this;subst this;simp;omega
 rw [e] at a
 exact ⟨_,_,_,_,rfl,hK _ a⟩
def Dg(i:ZI h s A an ac x)(j:ZI h s' B bn bc y)(hx:ZB m x)(hy:ZB m y)(hm:m<=576000000000000)(hK:∀ s1 A' n' c' h',h.le h'->ZI h' s1 A' n' c' (x+y)->K (.agg #[.bool s1,.slice A' n' c']) h'):aF prog 138 #[.agg #[.bool s,.slice A an ac],.agg #[.bool s',.slice B bn bc]] h K:=by
 have r:=i.lenG (k:=9000000000000) hx o
 have t:=j.lenG (k:=9000000000000) hy o
 have f:=i.sgn
 have a:=j.sgn
 refine (fnk func138 (own:=[2,3,4])) ?_
 refine Br.of (fun e=>?_) (fun e=>?_)
 ·have e:s=s':=by simpa using e
  subst e
  refine O1 i.mag j.mag i.cap j.cap o o ?_
  intro A1 q c1 b d g M1
  refine ⟨_,_,_,rfl,d,?_⟩
  rw [<- dB] at M1
  refine K5 (neg:=s) M1 g ?_
  intro s1 c
  refine ⟨_,_,_,_,rfl,B4 _,hK _ _ _ _ _ d ?_⟩
  have n:(if s=true then -((x.natAbs+y.natAbs:Nat):Int) else ((x.natAbs+y.natAbs:Nat):Int))=x+y:=by
   cases s with
   | true=>have b:=of_decide_eq_true f.symm;have l:=of_decide_eq_true a.symm;simp;omega
   | false=>have b:=of_decide_eq_false f.symm;have l:=of_decide_eq_false a.symm;simp;omega
  rw [n] at c
  exact c
 ·have e:s≠s':=by simpa using e
  refine F2 i.mag j.mag o ⟨_,rfl,B6 (fun b=>?_) (fun b=>?_)⟩
  ·have p:¬ (x.natAbs:Int)<y.natAbs:=by rw [<- Z2];omega
   refine F8 i.mag j.mag i.cap o o ?_
   intro A1 q c1 b d g M1
   refine ⟨_,_,_,rfl,d,?_⟩
   rw [show (x.natAbs:Int)-y.natAbs=((x.natAbs-y.natAbs:Nat):Int) from o] at M1
   refine K5 (neg:=s) M1 g ?_
   intro s1 c
   refine ⟨_,_,_,_,rfl,B4 _,hK _ _ _ _ _ d ?_⟩
   have n:(if s=true then -((x.natAbs-y.natAbs:Nat):Int) else ((x.natAbs-y.natAbs:Nat):Int))=x+y:=by
    cases s with
    | true=>cases s' with
     | true=>exact absurd rfl e
     | false=>have b:=of_decide_eq_true f.symm;have l:=of_decide_eq_false a.symm;rw [iP rfl];omega
    | false=>cases s' with
     | true=>have b:=of_decide_eq_false f.symm;have l:=of_decide_eq_true a.symm;rw [iN (by simp)];omega
     | false=>exact absurd rfl e
   rw [n] at c
   exact c
  ·have p:(x.natAbs:Int)<y.natAbs:=by rw [<- Z2];omega
   refine F8 j.mag i.mag j.cap o o ?_
   intro A1 q c1 b d g M1
   refine ⟨_,_,_,rfl,d,?_⟩
   rw [show (y.natAbs:Int)-x.natAbs=((y.natAbs-x.natAbs:Nat):Int) from o] at M1
   refine K5 (neg:=s') M1 g ?_
   intro s1 c
   refine ⟨_,_,_,_,rfl,B4 _,hK _ _ _ _ _ d ?_⟩
   have n:(if s'=true then -((y.natAbs-x.natAbs:Nat):Int) else ((y.natAbs-x.natAbs:Nat):Int))=x+y:=by
    cases s with
    | true=>cases s' with
     | true=>exact absurd rfl e
     | false=>have b:=of_decide_eq_true f.symm;have l:=of_decide_eq_false a.symm;rw [iN (by simp)];omega
    | false=>cases s' with
     | true=>have b:=of_decide_eq_false f.symm;have l:=of_decide_eq_true a.symm;rw [iP rfl];omega
     | false=>exact absurd rfl e
   rw [n] at c
   exact c
def A0q(i:ZI h s A an ac x)(j:ZI h s' B bn bc y)(hx:ZB m x)(hy:ZB m y)(hm:m<=576000000000000)(hK:∀ s1 A' n' c' h',h.le h'->ZI h' s1 A' n' c' (x-y)->K (.agg #[.bool s1,.slice A' n' c']) h'):aF prog 194 #[.agg #[.bool s,.slice A an ac],.agg #[.bool s',.slice B bn bc]] h K:=by
 refine (fnk func194 (own:=[2,3,4])) ?_
 refine P8 j ?_
 intro s1 b
 refine ⟨_,_,_,_,rfl,B4 _,Dg i b hx hy.neg o ?_⟩
 intro d A2 f c2 e a c
 exact ⟨_,_,_,_,rfl,a,hK _ _ _ _ _ a (by rw [Int.sub_eq_add_neg];exact c)⟩
def J3(i:ZI h s A an ac x)(j:ZI h s' B bn bc y)(hx:ZB m x)(hy:ZB m y)(hm:m<=576000000000000)(hK:∀ s1 A' n' c' h',h.le h'->ZI h' s1 A' n' c' (x*y)->K (.agg #[.bool s1,.slice A' n' c']) h'):aF prog 137 #[.agg #[.bool s,.slice A an ac],.agg #[.bool s',.slice B bn bc]] h K:=by
 have l:=i.lenG (k:=9000000000000) hx o
 have p:=j.lenG (k:=9000000000000) hy o
 have b:=i.sgn
 have a:=j.sgn
 refine (fnk func137 (own:=[2,3,4])) ?_
 refine F9 i.mag j.mag i.cap j.cap o o ?_
 intro A1 n c1 g d e M1
 refine ⟨_,_,_,rfl,d,?_⟩
 rw [<- bI] at M1
 refine K5 (neg:= !(s==s')) M1 e ?_
 intro s1 c
 refine ⟨_,_,_,_,rfl,B4 _,hK _ _ _ _ _ d ?_⟩
 have f:(if (!(s==s'))=true then -((x.natAbs*y.natAbs:Nat):Int) else ((x.natAbs*y.natAbs:Nat):Int))=x*y:=by
  rw [bI]
  cases s with
  | true=>cases s' with
   | true=>rw [show (x.natAbs:Int)= -x by have:=of_decide_eq_true b.symm;omega,show (y.natAbs:Int)= -y by have:=of_decide_eq_true a.symm;omega];show -x * -y=x*y;exact Int.neg_mul_neg x y
   | false=>rw [show (x.natAbs:Int)= -x by have:=of_decide_eq_true b.symm;omega,show (y.natAbs:Int)=y by have:=of_decide_eq_false a.symm;omega];show -(-x*y)=x*y;rw [Int.neg_mul,Int.neg_neg]
  | false=>cases s' with
   | true=>rw [show (x.natAbs:Int)=x by have:=of_decide_eq_false b.symm;omega,show (y.natAbs:Int)= -y by have:=of_decide_eq_true a.symm;omega];show -(x * -y)=x*y;rw [Int.mul_neg,Int.neg_neg]
   | false=>rw [show (x.natAbs:Int)=x by have:=of_decide_eq_false b.symm;omega,show (y.natAbs:Int)=y by have:=of_decide_eq_false a.symm;omega];rfl
 rw [f] at c
 exact c
def W8(gl:Gtz h)(i:ZI h s A an ac x)(j:ZI h s' B bn bc y)(hx:ZB m x)(hy:ZB m y)(hm:m<=576000000000000)(hK:∀ A' n' c' h',h.le h'->ZI h' false A' n' c' (aT x y:Int)->K (.agg #[.bool false,.slice A' n' c']) h'):aF prog 117 #[.agg #[.bool s,.slice A an ac],.agg #[.bool s',.slice B bn bc]] h K:=by
 have c:=i.lenG (k:=9000000000000) hx o
 have d:=j.lenG (k:=9000000000000) hy o
 refine (fnk func117 (own:=[2,3,4])) ?_
 refine Hn gl i.mag j.mag i.cap j.cap c d ?_
 intro A1 f c1 e b a M1
 refine ⟨_,_,_,rfl,hK _ _ _ _ b ⟨a,?_,?_⟩⟩
 ·rw [cI] at M1
  rw [cU]
  exact M1
 ·simp
def Ak(i:ZI h s A an ac x)(hK:K (I (Int.sign x)) h):aF prog 122 #[.agg #[.bool s,.slice A an ac]] h K:=by
 have c:=i.zeroIff
 have b:=i.sgn
 refine (fnk func122 (own:=[1])) ?_
 refine D5 (fun e=>?_) (fun e=>?_)
 ·obtain rfl:x=0:=o
  simpa using hK
 ·refine Br.of (fun a=>?_) (fun a=>?_)
  ·subst a
   have:=of_decide_eq_true b.symm
   rw [bC this] at hK;exact hK
  ·subst a
   have:=of_decide_eq_false b.symm
   rw [aM o] at hK;exact hK
def Gd(i:ZI h s A an ac x)(j:ZI h s' B bn bc y)(hx:ZB m x)(hy:ZB m y)(hm:m<=1152000000000000)(hK:K (I (Bf x y)) h):aF prog 136 #[.agg #[.bool s,.slice A an ac],.agg #[.bool s',.slice B bn bc]] h K:=by
 have f:=i.lenG (k:=18000000000000) hx o
 have g:=j.lenG (k:=18000000000000) hy o
 have d:=i.sgn
 have a:=j.sgn
 refine (fnk func136 (own:=[2,3])) ?_
 have c1:x<0->y<0->Bf (y.natAbs:Int) x.natAbs=Bf x y:=fun c b=>by unfold Bf;split<;>split<;>first|rfl|omega|(split<;>split<;>first|rfl|omega)|(split<;>first|rfl|omega)
 have c2:¬ x<0->¬ y<0->Bf (x.natAbs:Int) y.natAbs=Bf x y:=fun c b=>by rw [show (x.natAbs:Int)=x from o,show (y.natAbs:Int)=y from o]
 cases s with
 | true=>
  have c:=of_decide_eq_true d.symm
  refine Br.of (fun _=>?_) (fun e=>by cases e)
  cases s' with
  | true=>
   have b:=of_decide_eq_true a.symm
   refine Br.of (fun _=>?_) (fun e=>by cases e)
   exact F2 j.mag i.mag o ⟨_,rfl,by rw [c1 c b];exact hK⟩
  | false=>
   have b:=of_decide_eq_false a.symm
   refine Br.of (fun e=>by cases e) (fun _=>Br.of (fun _=>?_) (fun e=>by cases e))
   have:Bf x y= -1:=by unfold Bf;rw [iP o]
   rw [this] at hK;exact hK
 | false=>
  have c:=of_decide_eq_false d.symm
  refine Br.of (fun e=>by cases e) (fun _=>Br.of (fun e=>by cases e) (fun _=>?_))
  cases s' with
  | true=>
   have b:=of_decide_eq_true a.symm
   refine Br.of (fun _=>?_) (fun e=>by cases e)
   have:Bf x y=1:=by unfold Bf;rw [iN o,iP o]
   rw [this] at hK;exact hK
  | false=>
   have b:=of_decide_eq_false a.symm
   refine Br.of (fun e=>by cases e) (fun _=>?_)
   exact F2 i.mag j.mag o ⟨_,rfl,by rw [c2 c b];exact hK⟩
end
section
variable {h g:aL} {K:VP} {A B:Option aJ} {s s':Bool} {an ac bn bc m:Nat} {x y:Int}
def Au(hs:s=decide (x<0)):(s=true/\x= -(x.natAbs:Int))\/(s=false/\x=(x.natAbs:Int)):=by
 grind
def A4n(a b:Nat):(a:Int).tdiv b=((a/b:Nat):Int)/\(-(a:Int)).tdiv (-(b:Int))=((a/b:Nat):Int)/\(-(a:Int)).tdiv b= -((a/b:Nat):Int)/\(a:Int).tdiv (-(b:Int))= -((a/b:Nat):Int):=by
 simp_all
def Xr(a b:Nat):(a:Int).tmod b=((a%b:Nat):Int)/\(-(a:Int)).tmod (-(b:Int))= -((a%b:Nat):Int)/\(-(a:Int)).tmod b= -((a%b:Nat):Int)/\(a:Int).tmod (-(b:Int))=((a%b:Nat):Int):=by
 refine ⟨(bD a b).symm,?_,?_,?_⟩
 ·rw [Int.neg_tmod,Int.tmod_neg,bD]
 ·rw [Int.neg_tmod,bD]
 ·rw [Int.tmod_neg,bD]
def Jk(i:ZI h s A an ac x)(j:ZI h s' B bn bc y)(hx:ZB m x)(hy:ZB m y)(hm:m<=6400000000)(hy0:y≠0)(hK:∀ s1 A1 n1 c1 s2 A2 n2 c2 h',h.le h'->ZI h' s1 A1 n1 c1 (x.tdiv y)->ZI h' s2 A2 n2 c2 (x.tmod y)->K (.tuple #[.agg #[.bool s1,.slice A1 n1 c1],.agg #[.bool s2,.slice A2 n2 c2]]) h'):aF prog 193 #[.agg #[.bool s,.slice A an ac],.agg #[.bool s',.slice B bn bc]] h K:=by
 have p:=i.len hx hm
 have r:=j.len hy hm
 have u:=j.zeroIff
 have a:=Au i.sgn
 have b:=Au j.sgn
 refine (fnk func193 (os:=[(4,[0,1,2,3,4,5,7,8,9,6,10,11,12])]) (own:=[2,3,4,5])) ?_
 refine D5 (fun e=>o) (fun _=>?_)
 refine O8 i.mag j.mag i.cap j.cap o o o ?_
 intro A1 q c1 A2 k c2 l f c d M1 M2
 refine ⟨_,_,_,_,_,_,rfl,?_⟩
 refine K5 (neg:= !(s==s')) M1 c ?_
 intro s1 g
 refine ⟨_,_,_,_,rfl,B4 _,?_⟩
 refine K5 (neg:=s) M2 d ?_
 intro s2 n
 refine ⟨_,_,_,_,rfl,B4 _,hK _ _ _ _ _ _ _ _ _ f ?_ ?_⟩
 ·have e:(if (!(s==s'))=true then -((x.natAbs/y.natAbs:Nat):Int) else ((x.natAbs/y.natAbs:Nat):Int))=x.tdiv y:=by
   have t:=A4n x.natAbs y.natAbs
   rcases a with ⟨rfl,hx'⟩|⟨rfl,hx'⟩<;>rcases b with ⟨rfl,hy'⟩|⟨rfl,hy'⟩<;>rw [<- hx',<- hy'] at t
   ·exact t.2.1.symm
   ·exact t.2.2.1.symm
   ·exact t.2.2.2.symm
   grind
  grind
 ·have e:(if s=true then -((x.natAbs%y.natAbs:Nat):Int) else ((x.natAbs%y.natAbs:Nat):Int))=x.tmod y:=by
   have t:=Xr x.natAbs y.natAbs
   rcases a with ⟨rfl,hx'⟩|⟨rfl,hx'⟩<;>rcases b with ⟨rfl,hy'⟩|⟨rfl,hy'⟩<;>rw [<- hx',<- hy'] at t
   ·exact t.2.1.symm
   ·exact t.2.2.1.symm
   ·exact t.2.2.2.symm
   grind
  grind
def F3(i:ZI h s A an ac x)(hK:K (.bool (decide (x=0))) h):aF prog 121 #[.agg #[.bool s,.slice A an ac]] h K:=by
 have a:=i.zeroIff
 refine (fnk func121 (own:=[1])) ?_
 have:((an:Int)==0)=decide (x=0):=by
  grind
 grind
def M0(i:ZI h s A an ac x)(hK:K (.bool (decide (x=1))) h):aF prog 118 #[.agg #[.bool s,.slice A an ac]] h K:=by
 have d:=Au i.sgn
 have p:=i.zeroIff
 have M:=i.mag
 refine (fnk func118 (own:=[1])) ?_
 rcases d with ⟨rfl,g⟩|⟨rfl,g⟩
 ·refine Br.of (fun e=>by cases e) (fun _=>?_)
  rw [show decide (x=1)=false from gz0] at hK;exact hK
 ·refine Br.of (fun _=>?_) (fun e=>by cases e)
  obtain ⟨c,a,f,n,m,b⟩:=M
  refine D5 (fun e=>?_) (fun e=>?_)
  ·obtain ⟨w,rfl⟩:∃ w,c=[w]:=by
    rcases c with _|⟨w,_|⟨k,r⟩⟩
    ·grind
    ·grind
    grind
   refine f.load a o o ?_
   rw [Q9] at b
   grind
  ·have:¬ x=1:=by
    rintro rfl
    have l:=i.mag.len_le (j:=1) dc dc
    omega
   grind
def L9(i:ZI h s A an ac x)(j:ZI h s' B bn bc y)(hx:ZB m x)(hy:ZB m y)(hm:m<=6400000000)(hy0:y≠0)(hK:∀ s1 A1 n1 c1 h',h.le h'->ZI h' s1 A1 n1 c1 (x.tdiv y)->K (.agg #[.bool s1,.slice A1 n1 c1]) h'):aF prog 139 #[.agg #[.bool s,.slice A an ac],.agg #[.bool s',.slice B bn bc]] h K:=by
 refine (fnk func139 (own:=[2,3,4,5,6])) ?_
 refine M0 j ⟨_,rfl,B6 (fun e=>?_) (fun e=>?_)⟩
 ·subst e
  exact hK _ _ _ _ _ (B4 _) gz0
 ·refine Jk i j hx hy hm hy0 ?_
  grind
def Vg(i:ZI h s A an ac x)(j:ZI h s' B bn bc y)(hx:ZB m x)(hm:m<=6400000000)(hK:K (.bool (decide (x=y))) h):aF prog 252 #[.agg #[.bool s,.slice A an ac],.agg #[.bool s',.slice B bn bc]] h K:=by
 have d:=i.len hx hm
 have c:=i.sgn
 have b:=j.sgn
 refine (fnk func252 (own:=[2,3])) ?_
 refine Br.of (fun e=>?_) (fun e=>?_)
 ·refine F2 i.mag j.mag o ⟨_,rfl,?_⟩
  have:(Bf (x.natAbs:Int) y.natAbs==0)=decide (x=y):=by
   by_cases a:x=y
   ·subst a;unfold Bf;simp
   ·unfold Bf
    grind
  grind
 ·have:¬ x=y:=gz0
  grind
def Al{n:Int}(h1: -9223372036854775808<=n)(h2:n<=9223372036854775807)(hK:∀ s1 A1 n1 c1 h',h.le h'->ZI h' s1 A1 n1 c1 n->K (.agg #[.bool s1,.slice A1 n1 c1]) h'):aF prog 187 #[I n] h K:=by
 refine (fnk func187 (own:=[2])) ?_
 refine B6 (fun d=>?_) (fun d=>?_)
 ·have e:C3 (0-C3 n)=(n.natAbs:Int):=by rw [D9,D9];omega
  rw [e]
  refine U5 o ?_
  intro A1 c c1 h1 b a M1
  exact ⟨_,_,_,rfl,hK _ _ _ _ _ b ⟨a,M1,gz0⟩⟩
 ·have e:C3 n=(n.natAbs:Int):=by rw [D9];omega
  rw [e]
  refine U5 o ?_
  intro A1 c c1 h1 b a M1
  exact ⟨_,_,_,rfl,hK _ _ _ _ _ b ⟨a,M1,gz0⟩⟩
end
def Zf{P:cT}{t d e:aP}(ht:P.underlying t=some .string)(hd:P.underlying d=some (.slice e))(he:P.underlying e=some (.int .u8)){h:aL}{l:List UInt8}{K:VP}
 (x:∀ A c h',h.le h'->l.length<=c->SlV h' A (yv l)->K (.slice A l.length c) h'):wpH P (convert t d (.string (bs l))) K h:=by
 unfold convert
 simp only [C4,E5 ht,E5 hd,E5 he]
 unfold Conv.stringToBytes
 simp only [C4]
 refine Eg rfl (fun p=>?_)
 have m:(bs l).size=l.length:=by rfl
 have a:l.length<=(Question.appendCap (bs l).size 0 e).cut p:=by
  simp only [Question.cut];omega
 generalize (Question.appendCap (bs l).size 0 e).cut p=cap at *
 intro b r
 generalize hcs:((bs l).data.map (fun b=>aO .u8 b.toNat)++bK (cap-(bs l).size) (aO .u8 0))=cs
 have g:h.le (h.put b (.cells cs e (cs.size,cs.size+1))):=Heap.le_put _ r
 have j:(h.put b (.cells cs e)).freeze { block:=b,off:=cs.size } 1=h.put b (.cells cs e (cs.size,cs.size+1)):=by
  unfold Heap.freeze
  rw [iN dc]
  funext k
  by_cases f:k=b
  ·subst f
   simp only [if_true,C0,Option.map_some]
   rfl
  ·rw [iN f,B8 _ _ f,B8 _ _ f]
 refine ⟨cs,e,_,C0 _ _ _,?_⟩
 refine ⟨⟨_,C0 _ _ _⟩,?_⟩
 show K (.slice (some ⟨b,0,none⟩) (bs l).size cap) ((h.put b (.cells cs e)).freeze { block:=b,off:=cs.size } 1)
 rw [j,m]
 refine x _ _ _ g a (.inr ⟨_,rfl,?_⟩)
 intro i v n
 have s:i<l.length:=by
  have:=(List.getElem?_eq_some_iff.1 n).1
  simpa [yv] using this
 have q:Addr.add ⟨b,0,none⟩ i=⟨b,i,none⟩:=by rw [D8,bX]
 rw [q,E4,<- hcs,Array.getElem?_append_left (by simp_all)]
 rw [<- n]
 simp [yv,bs]
def Wv{x y:Int}(hy:0<y):(x.tmod y<0->x/y=x.tdiv y-1)/\(0<=x.tmod y->x/y=x.tdiv y):=by
 have b:=Int.mul_tdiv_add_tmod x y
 have d: -y<x.tmod y/\x.tmod y<y:=by
  have c:=Nat.mod_lt x.natAbs (show 0<y.natAbs from o)
  have t:=Xr x.natAbs y.natAbs
  grind
 refine ⟨fun h=>?_,fun h=>?_⟩
 ·refine (Rd (a:=x.tmod y+y) ?_ o o).1
  grind
 ·exact (Rd (a:=x.tmod y) o h o).1
def ZB.tdiv{m:Nat}{x y:Int}(h:ZB m x):ZB m (x.tdiv y):=by
 unfold ZB at *
 rw [Int.natAbs_tdiv]
 exact Nat.lt_of_le_of_lt (aU _ _) h
section
variable {h g:aL} {K:VP} {A B:Option aJ} {s s':Bool} {an ac bn bc m:Nat} {x y:Int}
def Nt(i:ZI h s A an ac x)(j:ZI h s' B bn bc y)(hx:ZB m x)(hy:ZB m y)(hm:m+1<=6400000000)(hy0:0<y)(hK:∀ s1 A1 n1 c1 h',h.le h'->ZI h' s1 A1 n1 c1 (x/y)->K (.agg #[.bool s1,.slice A1 n1 c1]) h'):aF prog 133 #[.agg #[.bool s,.slice A an ac],.agg #[.bool s',.slice B bn bc]] h K:=by
 have g:=Wv (x:=x) hy0
 refine (fnk func133 (os:=[(2,[0,2,1,3,4,5])]) (own:=[2,3,4,5,6])) ?_
 refine Jk i j hx hy o o ?_
 intro s1 A1 n1 c1 w A2 z c2 D f d n
 refine ⟨_,_,_,_,_,_,_,_,rfl,?_⟩
 refine Ak n ⟨_,rfl,B4 _,?_⟩
 refine Ak (j.mono f) ⟨_,rfl,B4 _,?_⟩
 rw [aM hy0,Int.mul_one]
 have G: -1<=Int.sign (x.tmod y)/\Int.sign (x.tmod y)<=1:=by
  rcases Int.lt_trichotomy (x.tmod y) 0 with h|h|h
  ·rw [bC h];omega
  ·rw [h];decide
  ·rw [aM h];omega
 rw [B7 o o]
 refine B6 (fun e=>?_) (fun e=>?_)
 ·have b:x.tmod y<0:=Int.sign_neg_iff.1 e
  refine Al o o ?_
  intro H A3 t E F c p
  refine ⟨_,_,_,_,rfl,c,?_⟩
  refine A0q (m:=m+1) (d.mono c) p (hx.tdiv.mono o) ?_ o ?_
  ·unfold ZB
   have:1<=2^m:=Nat.one_le_two_pow
   rw [Nat.pow_succ];simp;omega
  ·intro r A4 u L C k l
   rw [<- g.1 b] at l
   exact ⟨_,_,_,_,rfl,k,hK _ _ _ _ _ (B0 f (B0 c k)) l⟩
 ·have a:0<=x.tmod y:=by
   by_cases q:x.tmod y<0
   ·exact absurd (by rw [bC q];decide) e
   ·omega
  rw [<- g.2 a] at d
  exact hK _ _ _ _ _ f d
end
def Zy{ws:List Int}{k:Nat}(d:Dig b64 ws)(hl:ws.length=k+1)(h:b64^k<=val b64 ws):Norm ws:=by
 intro e
 have:=(V5 (B:=b64) dc d hl).1
 grind
section
variable {h g:aL} {K:VP} {A B:Option aJ} {ac bc:Nat}
def A5y{Invv:LP}{muv:LN}{d1:ByteArray}{n c:Nat}{chunk base:Int}{us:List Int}{hp hp2:aL}(p:Pw hp2 g A n c us)(hn:n=us.length)(du:Dig b64 us)(nu:Norm us)(hl:n<=9000000000000)(hch:0<=chunk/\chunk<18446744073709551616)(hba:1<=base/\base<18446744073709551616)
 (hK:∀ A' n' c' us' h' g',g.le g'->Pw h' g' A' n' c' us'->n'=us'.length->n'<=n+1->Dig b64 us'->Norm us'->val b64 us'=chunk+base*val b64 us->Invv [.string ((d1).extract ((B9 ((cH (B9 (((cQ d1:Nat):Int)-(1:Int))) (19:Int))+(1:Int))).toNat) ((d1).size)),.slice A' n' c'] h'/\muv [.string ((d1).extract ((B9 ((cH (B9 (((cQ d1:Nat):Int)-(1:Int))) (19:Int))+(1:Int))).toNat) ((d1).size)),.slice A' n' c'] h'<muv [.string d1,.slice A n c] hp):
 Y4 prog Invv muv d1 A n c chunk base hp hp2:=by
 have F:=C5 dc du
 refine ⟨fun l q=>∃ (k:Nat) (e:Int) (d:List Int),l=[U e,I k]/\k<=n/\(0<=e/\e<18446744073709551616)/\d.length=us.length/\Dig b64 d/\Pw q g A n c d/\d.drop k=us.drop k/\val b64 (d.take k)+b64^k*e=chunk+base*val b64 (us.take k),fun l _=>n-(iAt l 1).toNat,⟨0,chunk,us,rfl,o,hch,rfl,du,p,rfl,by simp [val]⟩,?_⟩
 rintro e i q ⟨k,E,d,aa,hk,j,s,t,pw,y,z⟩
 obtain ⟨rfl,rfl⟩:e=E/\i=(k:Int):=gz0
 refine B6 (fun X=>?_) (fun X=>?_)
 ·have N:=K8 t k
  have D:=D7 y
  have S:=C2 b64 us k
  have C:d≠[]:=by rintro rfl;simp at s;omega
  obtain ⟨b,O,w,hc⟩:=Bp pw C
  refine w.sl.load o o o ?_
  simp only [aC]
  generalize hx:d.getD k 0=x at *
  refine O5 N o j ⟨_,_,rfl,?_⟩
  obtain ⟨a,Q,_⟩:=SlV.at w.sl (i:=k) (by simp_all)
  refine ⟨a,Q,o,o,w.storeN E9 Q o ?_⟩
  intro h4 R
  have V:=Hh N (show 0<=base/\base<18446744073709551616 from o) j
  have kP:=Ts (x*base+e)
  have W:B9 ((k:Int)+1)=((k+1:Nat):Int):=by rw [B7 o o];omega
  rw [W]
  have G:=R.priv (m:=n) (c:=c) (by simp_all) (by simp_all) (by simp_all)
  rw [aI (by simp_all)] at G
  refine ⟨⟨k+1,_,_,rfl,o,V,by simp_all,t.set (Ba _),G,?_,?_⟩,by simp only [iAt,aE,aG];omega⟩
  ·rw [C9 o];exact D4 y
  ·rw [C6 o,E6,bO,cK o,dI,S,<- D,kP]
   grind
 ·obtain rfl:k=n:=o
  rw [aI (show d.length<=k from o),aI (show us.length<=k from o)] at z
  refine G7 (fun L=>?_) (fun L=>?_)
  ·refine Ab L7 pw rfl rfl o o ?_
   intro A5 c5 h5 g5 T H
   rw [<- List.map_singleton (f:=aO .u64),<- cZ] at H
   refine hK A5 (k+1) c5 (d++[e]) h5 g5 T H (by simp_all) o (t.append (Dig.one j)) ?_ ?_
   ·unfold Norm;simp_all
   ·rw [E6,<- z,s,<- hn]
  ·subst L
   rw [Int.mul_zero,Int.add_zero] at z
   refine hK A k c d q g (B4 _) pw o o t ?_ z
   rcases us with _|⟨u,r⟩
   ·simp_all
   ·refine Zy (k:=r.length) t o ?_
    have M:Mw hp2 A k (val b64 (u::r)):=⟨_,hn,p.slV,du,nu,rfl⟩
    have B:=M.ge dc (by simp_all)
    rw [show k-1=r.length by simp_all] at B
    have:1*val b64 (u::r)<=base*val b64 (u::r):=cW hba.1 F
    omega
end
section
variable {h g:aL} {K:VP} {A B:Option aJ} {ac bc:Nat}
def A6e{k:Nat}(h:k<=19):10^k<=10000000000000000000:=bL (aH dc h) dc
def A0d{Invv:LP}{muv:LN}{d1:ByteArray}{n c tn:Nat}{T:Option aJ}{l:List UInt8}{hp hp1:aL}(sv:SlV hp1 T (yv l))(ht:tn=l.length)(hd:∀ c∈l,F7 c)(h19:l.length<=19)
 (hK:(0<=B9 ((cH (B9 (((cQ d1:Nat):Int)-(1:Int))) (19:Int))+(1:Int))/\B9 ((cH (B9 (((cQ d1:Nat):Int)-(1:Int))) (19:Int))+(1:Int))<=(((d1).size:Nat):Int))/\Y4 prog Invv muv d1 A n c (I0 l:Int) ((10^l.length:Nat):Int) hp hp1):
 Fi prog Invv muv d1 A n c T tn hp1 hp:=by
 refine ⟨fun s hp=>hp=hp1/\∃ k:Nat,s=[U (I0 (l.take k)),U ((10^k:Nat):Int),I k]/\k<=l.length,fun s _=>l.length-(iAt s 2).toNat,⟨rfl,0,by rfl,o⟩,?_⟩
 rintro z B i x ⟨rfl,k,f,y⟩
 obtain ⟨rfl,rfl,rfl⟩:=f
 refine B6 (fun u=>?_) (fun u=>?_)
 ·have b:k<l.length:=o
  obtain ⟨a,r,j⟩:=SlV.at sv (i:=k) (by rw [Dh];omega)
  have g:=hd l[k] (cG b)
  have e:=Ae (l:=l.take k) (fun c j=>hd c (cP j))
  rw [bO,cK o] at e
  have q:=A6e (k:=k+1) o
  have d:10^(k+1)=10^k*10:=Nat.pow_succ _ _
  refine ⟨a,r,o,o,((l[k].toNat:Nat):Int),?_,?_⟩
  ·rw [aC,aY,j];simp [yv]
  ·unfold F7 at g
   have m:C3 (wu8 (((l[k].toNat:Nat):Int)-48))=((l[k].toNat-48:Nat):Int):=by
    rw [Of o o,C1 o o];omega
   have w:C3 (C3 (10*((I0 (l.take k):Nat):Int))+C3 (wu8 (((l[k].toNat:Nat):Int)-48)))=((I0 (l.take (k+1)):Nat):Int):=by
    rw [m,C1 (n:=10*((I0 (l.take k):Nat):Int)) o o,C1 o o,bM b,Dt];omega
   have p:C3 (((10^k:Nat):Int)*10)=((10^(k+1):Nat):Int):=by rw [C1 o o,d];simp
   have t:B9 ((k:Int)+1)=((k+1:Nat):Int):=by rw [B7 o o];omega
   rw [w,p,t]
   exact ⟨⟨rfl,k+1,rfl,o⟩,by simp only [iAt,aE,aG];omega⟩
 grind
def Jz{l:List UInt8}(hd:∀ c∈l,F7 c)(hl:l.length<=140737488351232)(hK:∀ A n c h',h.le h'->n<=c->Mw h' A n (I0 l:Int)->K (.slice A n c) h'):aF prog 257 #[.string (bs l)] h K:=by
 refine Nk _ ?_
 refine ⟨fun s D=>∃ (e a:List UInt8) (b:List Int) (A:Option aJ) (n c:Nat) (g:aL),s=[.string (bs a),.slice A n c]/\l=e++a/\h.le g/\Pw D g A n c b/\n=b.length/\Dig b64 b/\Norm b/\val b64 b=(I0 e:Int)/\19*n<=e.length+18/\(n=0\/a.length%19=0),fun s _=>match s with|[.string d,_]=>d.size|_=>0,⟨[],l,[],none,0,0,h,rfl,rfl,B4 h,Priv.nil _ _ _ _,rfl,Dig.nil,Norm.nil,rfl,o,.inl rfl⟩,?_⟩
 rintro d1 A1 n1 c1 D ⟨e,a,b,A2,n2,c2,g,W,f,B,p,G,z,F,H,V,L⟩
 obtain ⟨rfl,rfl,rfl,rfl⟩:=W
 have C:l.length=e.length+a.length:=gz0
 rw [G1]
 refine B6 (fun Q=>?_) (fun Q=>?_)
 ·obtain ⟨sz,hsz⟩:∃ sz,sz=(a.length-1)%19+1:=⟨_,rfl⟩
  have x:B9 (cH (B9 ((a.length:Int)-1)) 19+1)=(sz:Int):=by
   rw [B7 (n:=(a.length:Int)-1) o o,Int.tmod_eq_emod_of_nonneg o,B7 o o];omega
  rw [x,aC,K0]
  refine ⟨⟨o,o⟩,Zf P0 Ao.und X4 ?_⟩
  intro T tc h2 X ac E
  refine ⟨_,_,_,rfl,?_⟩
  have S:(a.drop 0).take (sz-0)=a.take sz:=by simp
  rw [S] at E ⊢
  have y:(a.take sz).length=sz:=gz0
  obtain ⟨g2,j,N⟩:=p.after X
  refine A0d E rfl (fun c hc=>hd c gz0) o ?_
  rw [G1,x]
  refine ⟨⟨o,o⟩,?_⟩
  have i:=Ae (l:=a.take sz) (fun c hc=>hd c gz0)
  rw [y] at i ⊢
  have ht:=A6e (k:=sz) o
  refine A5y N G z F o o o ?_
  intro A' M O q h' R m p' u aa t w r
  rw [G1,x,aC,K0,aI gz0]
  refine ⟨⟨e++a.take sz,a.drop sz,q,A',M,O,R,rfl,by simp_all,B0 B (B0 j m),p',u,t,w,?_,?_,?_⟩,?_⟩
  ·rw [r,H,Ch,y,dB,bI,Int.mul_comm];omega
  ·rw [aK,y];omega
  ·rw [cF];omega
  ·simp only [G1,cF];omega
 ·have:a=[]:=aN o
  subst this
  rw [List.append_nil] at f
  subst f
  exact hK _ _ _ _ (B0 B p.le) p.2.1 ⟨b,G,p.slV,z,F,H⟩
end
def zb(l:List UInt8):List Int:=l.map fun c=>(c.toNat:Int)
def De(l:List UInt8):(zb l).length=l.length:=by simp [zb]
def Rv(a b:List UInt8):zb (a++b)=zb a++zb b:=by simp [zb]
def A9o(l:List UInt8):(zb l).map (aO .u8)=yv l:=by simp [zb,yv]
def Zl:∀ v,v<100->H8[2*v+1]? = some (dch (v%10))/\H8[2*v]? = some (dch (v/10)):=by decide +kernel
def Sf(a:Nat):cH (a:Int) 100=((a%100:Nat):Int):=(bD a 100).symm
def tm4(a:Nat):cH (a:Int) 10000=((a%10000:Nat):Int):=(bD a 10000).symm
def tm8(a:Nat):cH (a:Int) 100000000=((a%100000000:Nat):Int):=(bD a 100000000).symm
def Vs(a:Nat):cV (a:Int) 100=((a/100:Nat):Int):=(bF a 100).symm
def td4(a:Nat):cV (a:Int) 10000=((a/10000:Nat):Int):=(bF a 10000).symm
def td8(a:Nat):cV (a:Int) 100000000=((a/100000000:Nat):Int):=(bF a 100000000).symm
def Db{a:Nat}(h:a<4294967296):G8 (a:Int)=a:=L4 o o
def He(a:Nat):(a:Int)*2=((2*a:Nat):Int):=o
def Xi(a:Nat):(a:Int)+1=((a+1:Nat):Int):=o
def FBI(g:aL)(b:Nat)(e:aP)(A:Option aJ)(pre post:List bV)(N u0 nd u:Nat)(hp:aL):Prop:=
 ∃ (ys:List Int) (t:List UInt8),Win .u8 hp g b e A pre (ys++zb t) post/\ys.length=nd/\nd+t.length=N/\pad N u0=pad nd u++t/\u<10^nd
section
variable {P:cT} {h g:aL} {K:VP} {A:Option aJ} {b:Nat} {e:aP} {pre post:List bV}
def Fp(one:P.cellsOf 5=1/\(P.info? 5).isSome=true){N u0 j u:Nat}(f:FBI g b e A pre post N u0 (j+2) u h){E1 E0 I1 I2:Int}(h1:E1=((2*(u%100)+1:Nat):Int))(h0:E0=((2*(u%100):Nat):Int))(hI1:I1=((j+1:Nat):Int))(hI2:I2=(j:Int)){C:aL->Prop}(hC:∀ h',FBI g b e A pre post N u0 j (u/100) h'->C h'):
 ∃ (t:UInt8),(0<=E1/\H8[E1.toNat]? = some t)/\∃ (t0:UInt8),(0<=E0/\H8[E0.toNat]? = some t0)/\∃ a1,A=some a1/\0<=I1/\I1<((N:Nat):Int)/\wpH P (Instr.storeAt 5 (.pointer (some (Addr.add a1 (I1.toNat*1)))) (Y ((t.toNat:Nat):Int))) (fun _ hp1=>∃ a2,A=some a2/\0<=I2/\I2<((N:Nat):Int)/\wpH P (Instr.storeAt 5 (.pointer (some (Addr.add a2 (I2.toNat*1)))) (Y ((t0.toNat:Nat):Int))) (fun _ hp2=>C hp2) hp1) h:=by
 subst h1 h0 hI1 hI2
 obtain ⟨c,t,w,y,E,i,D⟩:=f
 obtain ⟨n,m⟩:=Zl (u%100) o
 have r:∃ a,A=some a:=by
  rcases w.at_ with h0|h0
  ·simp_all
  grind
 obtain ⟨a,d⟩:=r
 have k:(c++zb t).length=N:=by rw [aK,De];omega
 refine ⟨_,⟨o,by exact n⟩,_,⟨o,by exact m⟩,a,d,o,o,?_⟩
 refine w.storeN one d o ?_
 intro z q
 refine ⟨a,d,o,o,?_⟩
 refine q.storeN one d gz0 ?_
 intro p B
 refine hC p ⟨c.take j,[dch (u/10%10),dch (u%10)]++t,?_,gz0,gz0,?_,?_⟩
 ·have x:((c++zb t).set (j+1) ((dch (u%100%10)).toNat:Int)).set j ((dch (u%100/10)).toNat:Int)=c.take j++zb ([dch (u/10%10),dch (u%10)]++t):=by
   have s:c=c.take j++[c[j]'o,c[j+1]'o]:=by
    conv=>lhs;rw [<- cN j c]
    congr 1
    rw [bZ o,bZ o,cJ o]
   have l:(c.take j).length=j:=gz0
   rw [s,show u%100%10=u%10 from o,show u%100/10=u/10%10 from o]
   generalize c[j]'_=y0
   generalize c[j+1]'_=y1
   rw [List.take_append_of_le_length o,aI (show (c.take j).length<=j from o)]
   generalize c.take j=zs at *
   rw [cD,List.set_append_right _ _ o,List.set_append_right _ _ o,l,Rv]
   simp [zb]
  grind
 ·rw [i,A8h];simp
 grind
end
section
variable {h g:aL} {K:VP} {A:Option aJ} {b:Nat} {e:aP} {pre post:List bV}
def Gi:prog.cellsOf 5=1/\(prog.info? 5).isSome=true:=Zk
def B1o{N u0 nd x:Nat}(hN:N<=24)(f:FBI g b e A pre post N u0 nd x h)(hn:nd<2)(hK:∀ h',Win .u8 h' g b e A pre (zb (pad N u0)) post->K (.tuple #[]) h'):Cy prog A N K nd x h:=by
 obtain ⟨c,t,w,k,hN,i,u⟩:=f
 refine B6 (fun m=>?_) (fun m=>?_)
 ·obtain rfl:nd=1:=o
  obtain ⟨y,rfl⟩:∃ y,c=[y]:=by
   rcases c with _|⟨y,_|⟨z,r⟩⟩
   ·grind
   ·grind
   grind
  have q:∃ a,A=some a:=by
   rcases w.at_ with n|n
   ·grind
   grind
  obtain ⟨a,j⟩:=q
  refine ⟨a,j,o,o,?_⟩
  refine w.storeN Gi j (by simp) ?_
  intro l p
  refine hK l ?_
  have d:x<10:=o
  have ev:wu8 (G8 (48+(x:Int)))=((dch x).toNat:Int):=by
   rw [L4 o o,Of o o,Be d];omega
  rw [ev] at p
  have s:pad 1 x=[dch x]:=by
   rw [Kl,A2d _ o,show x%10=x from o];rfl
  rw [i,s,Rv]
  assumption
 ·obtain rfl:nd=0:=o
  have:c=[]:=aN k
  subst this
  have d:x=0:=o
  refine hK h ?_
  rw [i,A2d _ d]
  assumption
def B1n{N u0 nd x:Nat}(hN:N<=24)(f:FBI g b e A pre post N u0 nd x h)(hn:nd<4)(hK:∀ h',Win .u8 h' g b e A pre (zb (pad N u0)) post->K (.tuple #[]) h'):Cz prog A N K nd x h:=by
 have u:x<10000:=by
  obtain ⟨_,_,_,_,_,_,n⟩:=f
  exact aQ n (bL (aH dc (show nd<=4 from o)) dc)
 refine ⟨fun l d=>∃ nd x:Nat,l=[I nd,U32 x]/\FBI g b e A pre post N u0 nd x d/\nd<2,B6 (fun m=>?_) (fun m=>?_),?_⟩
 ·obtain ⟨j,rfl⟩:∃ j,nd=j+2:=⟨nd-2,o⟩
  refine Fp Gi f ?_ ?_ (by rw [B7 o o];omega) (by rw [B7 o o];omega) ?_
  ·simp (disch:=omega) only [Sf,Db,He,Xi]
  ·simp (disch:=omega) only [Sf,Db,He]
  ·intro t i
   refine ⟨j,x/100,?_,i,o⟩
   rw [B7 o o,Vs,Db o]
   grind
 ·grind
 ·rintro c r d ⟨q,p,s,k,a⟩
  obtain ⟨rfl,rfl⟩:c=(q:Int)/\r=(p:Int):=gz0
  exact B1o hN k a hK
def R8{u an ac:Nat}{xs:List Int}(w:Win .u8 h g b e A pre xs post)(hn:an=xs.length)(hN:an<=24)(hu:u<10^an)(hu2:u<18446744073709551616)(hK:∀ h',Win .u8 h' g b e A pre (zb (pad an u)) post->K (.tuple #[]) h'):aF prog 241 #[.slice A an ac,U (u:Int)] h K:=by
 refine Kg _ _ _ _ ?_
 refine ⟨fun l d=>∃ a v:Nat,l=[U v,I a]/\FBI g b e A pre post an u a v d/\v<=u,fun l _=>(iAt l 1).toNat,⟨an,u,rfl,⟨xs,[],by simpa [zb] using w,hn.symm,by simp,by simp,hu⟩,aR _⟩,?_⟩
 rintro C i d ⟨a,v,O,f,Q⟩
 obtain ⟨rfl,rfl⟩:C=(v:Int)/\i=(a:Int):=gz0
 have M:a<=an:=by obtain ⟨_,_,_,_,hN,_,_⟩:=f;omega
 refine B6 (fun t=>?_) (fun t=>?_)
 ·obtain ⟨j,rfl⟩:∃ j,a=j+8:=⟨a-8,o⟩
  refine Fp (j:=j+6) Gi f ?_ ?_ (by rw [B7 o o];omega) (by rw [B7 o o];omega) ?_
  ·simp (disch:=omega) only [tm8,tm4,Sf,Db,He,Xi];omega
  ·simp (disch:=omega) only [tm8,tm4,Sf,Db,He];omega
  intro p H
  refine Fp (j:=j+4) Gi H ?_ ?_ (by rw [B7 o o];omega) (by rw [B7 o o];omega) ?_
  ·simp (disch:=omega) only [tm8,tm4,Vs,Db,He,Xi];omega
  ·simp (disch:=omega) only [tm8,tm4,Vs,Db,He];omega
  intro F c
  refine Fp (j:=j+2) Gi c ?_ ?_ (by rw [B7 o o];omega) (by rw [B7 o o];omega) ?_
  ·simp (disch:=omega) only [tm8,Sf,td4,Db,He,Xi];omega
  ·simp (disch:=omega) only [tm8,Sf,td4,Db,He];omega
  intro s n
  refine Fp (j:=j) Gi n ?_ ?_ (by rw [B7 o o];omega) (by rw [B7 o o];omega) ?_
  ·simp (disch:=omega) only [tm8,Vs,td4,Db,He,Xi];omega
  ·simp (disch:=omega) only [tm8,Vs,td4,Db,He];omega
  intro N D
  have L:B9 (((j+8:Nat):Int)-8)=(j:Int):=by rw [B7 o o];omega
  have z:C3 (cV (v:Int) 100000000)=((v/100/100/100/100:Nat):Int):=by
   rw [td8,C1 o o];omega
  rw [L,z]
  exact ⟨⟨j,_,rfl,D,o⟩,by simp only [iAt,aE,aG];omega⟩
 ·have y:v<100000000:=by
   obtain ⟨_,_,_,_,_,_,hu⟩:=f
   exact aQ hu (bL (aH dc (show a<=8 from o)) dc)
  refine ⟨fun l d=>∃ a x:Nat,l=[I a,U32 x]/\FBI g b e A pre post an u a x d/\a<4,B6 (fun p=>?_) (fun p=>?_),?_⟩
  ·obtain ⟨j,rfl⟩:∃ j,a=j+4:=⟨a-4,o⟩
   refine Fp (j:=j+2) Gi f ?_ ?_ (by rw [B7 o o];omega) (by rw [B7 o o];omega) ?_
   ·simp (disch:=omega) only [tm4,Sf,Db,He,Xi];omega
   ·simp (disch:=omega) only [tm4,Sf,Db,He];omega
   intro F c
   refine Fp (j:=j) Gi c ?_ ?_ (by rw [B7 o o];omega) (by rw [B7 o o];omega) ?_
   ·simp (disch:=omega) only [tm4,Vs,Db,He,Xi];omega
   ·simp (disch:=omega) only [tm4,Vs,Db,He];omega
   intro s n
   refine ⟨j,v/100/100,?_,n,o⟩
   rw [B7 o o,Db o,td4,Db o]
   grind
  ·exact ⟨a,v,by rw [Db o],f,o⟩
  ·rintro m G B ⟨r,q,E,c,k⟩
   obtain ⟨rfl,rfl⟩:m=(r:Int)/\G=(q:Int):=gz0
   exact B1n hN c k hK
end
def Me{P:cT}{h:aL}{l:List UInt8}{m:Nat}{ys:List bV}(hy:ys=yv l)(hm:m=l.length){K:Array bV->aL->Prop}(x:K ys.toArray h):wpH P (Builtin.firstCells 1 m (.string (bs l))) K h:=by
 show K _ h
 have e:((bs l).extract 0 l.length).data.map (fun b=>aO .u8 b.toNat)=(yv l).toArray:=by
  apply Array.toList_inj.1
  simp [bs,yv]
 grind
def Nh{P:cT}{t e e' ty:aP}{z:bV}{bytes:Nat}(st:SliceT P t e z 1 bytes){h g:aL}{A:Option aJ}{n c:Nat}{xs:List bV}(p:bW h g e' 1 A n c xs)
 {B:Option aJ} {m d:Nat} {ys:List bV} (hy:ys.length=m) (hc:SlV h B ys) (h1:∀ v∈ys,Ym v=true) (hb:(2*(n+m)+192)*bytes<=281474976710656) (hm:n+m<=9223372036854775807) {K:VP}
 (x1:n+m<=c->∀ h',bW h' g e' 1 A (n+m) c (xs++ys)->K (.slice A (n+m) c) h') (x2:c<n+m->∀ A' c' h' g',g.le g'->bW h' g' e 1 A' (n+m) c' (xs++ys)->K (.slice A' (n+m) c') h'):
 wpH P (bJ #[t,t] ty #[.slice A n c,.slice B m d]) K h:=by
 obtain ⟨i,x,W,H,w⟩:=st.parts
 have R:=p.1
 unfold bJ
 simp only [List.getElem?_toArray,aE,aG,C4,E5 st.und,J6 x,I3,Bool.false_eq_true,if_false,Builtin.lenOf,H,Bool.not_false,if_true]
 by_cases f:n+m<=c
 ·simp only [f,if_true,C4]
  refine J5 o hc ?_
  rcases p.2.2 with ⟨E,S⟩|⟨b,N,V,O,X,C,F⟩
  ·have Q:n=0:=o
   subst Q;subst S
   have G:ys=[]:=aN o
   have r:K (.slice A (0+m) c) h:=x1 f h ⟨gz0,o,.inl ⟨E,rfl⟩⟩
   subst G
   cases A with
   | none=>exact r
   | some a=>exact r
  ·subst V
   simp only [C4,D8,bX]
   rw [X]
   rw [aY] at C F ⊢
   refine I6 ys.toArray.toList n 0 N ?_ (fun v hv=>h1 v o) ?_
   ·grind
   ·refine x1 f _ ⟨gz0,f,.inr ⟨b,_,rfl,O,rfl,?_,?_⟩⟩
    ·simp only [J7,aK,bO,cF,C,hy];omega
    ·unfold J7
     grind
 ·have q:c<n+m:=o
  simp only [f,if_false,C4,G9 x,w]
  have L:=Iu q
  have aa:Builtin.nextslicecap (n+m) c*bytes<=281474976710656:=bL (Nat.mul_le_mul_right _ L) hb
  rw [iN (by rintro ⟨h',_⟩;simp only [IntKind.max,IntKind.signed,IntKind.bits] at h';omega)]
  simp only [C4,G9 x,w]
  rw [iN o]
  simp only [I3,C4]
  refine Eg rfl fun tt=>?_
  simp only [Bs,G9 x]
  have u:xs=[]\/∃ a,A=some a/\∀ j v,xs[j]? = some v->h.cell? (a.add j)=some v:=p.slV
  refine J5 p.1 u ?_
  refine J5 o hc ?_
  simp only [N8 x W,V3]
  intro b k
  have y:∃ l,(Question.appendCap (n+m) c e).cut tt=l/\n+m<=l:=⟨_,rfl,by simp only [Question.cut];omega⟩
  obtain ⟨l,M,D⟩:=y
  rw [M]
  have s:=p.le
  refine x2 q _ l _ h s ⟨gz0,D,.inr ⟨b,xs++ys++(aW z.cells (l-(n+m))).toList,rfl,k,?_,?_,?_⟩⟩
  ·congr 1;simp
  ·have T:(aW z.cells (l-(n+m))).toList.length=l-(n+m):=by simp [aW,st.cells]
   grind
  grind
def A0f{P:cT}{t e e' ty t2:aP}{z:bV}{bytes:Nat}(st:SliceT P t e z 1 bytes)(hu:P.underlying t2=some .string){h g:aL}{A:Option aJ}{n c:Nat}{xs:List bV}(p:bW h g e' 1 A n c xs)
 {m:Nat} {l:List UInt8} {ys:List bV} (hly:ys=yv l) (hm0:m=l.length) (hy:ys.length=m) (h1:∀ v∈ys,Ym v=true) (hb:(2*(n+m)+192)*bytes<=281474976710656) (hm:n+m<=9223372036854775807) {K:VP}
 (x1:n+m<=c->∀ h',bW h' g e' 1 A (n+m) c (xs++ys)->K (.slice A (n+m) c) h') (x2:c<n+m->∀ A' c' h' g',g.le g'->bW h' g' e 1 A' (n+m) c' (xs++ys)->K (.slice A' (n+m) c') h'):
 wpH P (bJ #[t,t2] ty #[.slice A n c,.string (bs l)]) K h:=by
 obtain ⟨i,x,V,G,w⟩:=st.parts
 have Q:=p.1
 unfold bJ
 simp only [List.getElem?_toArray,aE,aG,C4,E5 st.und,E5 hu,J6 x,I3,Bool.false_eq_true,if_false,Builtin.lenOf,G,Bool.not_false,if_true,G1,<- hm0]
 by_cases d:n+m<=c
 ·simp only [d,if_true,C4]
  refine Me hly hm0 ?_
  rcases p.2.2 with ⟨D,R⟩|⟨b,M,T,N,W,B,E⟩
  ·have O:n=0:=o
   subst O;subst R
   have F:ys=[]:=aN o
   have r:K (.slice A (0+m) c) h:=x1 d h ⟨gz0,o,.inl ⟨D,rfl⟩⟩
   subst F
   cases A with
   | none=>exact r
   | some a=>exact r
  ·subst T
   simp only [C4,D8,bX]
   rw [W]
   rw [aY] at B E ⊢
   refine I6 ys.toArray.toList n 0 M ?_ (fun v hv=>h1 v o) ?_
   ·grind
   ·refine x1 d _ ⟨gz0,d,.inr ⟨b,_,rfl,N,rfl,?_,?_⟩⟩
    ·simp only [J7,aK,bO,cF,B,hy];omega
    ·unfold J7
     grind
 ·have q:c<n+m:=o
  simp only [d,if_false,C4,G9 x,w]
  have H:=Iu q
  have aa:Builtin.nextslicecap (n+m) c*bytes<=281474976710656:=bL (Nat.mul_le_mul_right _ H) hb
  rw [iN (by rintro ⟨h',_⟩;simp only [IntKind.max,IntKind.signed,IntKind.bits] at h';omega)]
  simp only [C4,G9 x,w]
  rw [iN o]
  simp only [I3,C4]
  refine Eg rfl fun X=>?_
  simp only [Bs,G9 x]
  have u:xs=[]\/∃ a,A=some a/\∀ j v,xs[j]? = some v->h.cell? (a.add j)=some v:=p.slV
  refine J5 p.1 u ?_
  refine Me hly hm0 ?_
  simp only [N8 x V,V3]
  intro b f
  have y:∃ k,(Question.appendCap (n+m) c e).cut X=k/\n+m<=k:=⟨_,rfl,by simp only [Question.cut];omega⟩
  obtain ⟨k,L,C⟩:=y
  rw [L]
  have s:=p.le
  refine x2 q _ k _ h s ⟨gz0,C,.inr ⟨b,xs++ys++(aW z.cells (k-(n+m))).toList,rfl,f,?_,?_,?_⟩⟩
  ·congr 1;simp
  ·have S:(aW z.cells (k-(n+m))).toList.length=k-(n+m):=by simp [aW,st.cells]
   grind
  grind
def Qm(l:List UInt8):∀ v∈yv l,Ym v=true:=by
 intro v a
 simp only [yv,List.mem_map] at a
 obtain ⟨c,_,rfl⟩:=a
 rfl
def Z7{P:cT}{t:aP}{z v:bV}(hz:(P.info? t).map (fun i=>i.zero)=some (some z)){K:VP}{h:aL}(x:∀ b,h b=none->K (.pointer (some ⟨b,0,none⟩)) (h.put b (.cells z.cells t))):wpH P (Instr.alloc t true v) K h:=by
 cases hi:P.info? t with
 | none=>rw [hi] at hz;cases hz
 | some i=>
  rw [hi] at hz
  simp only [Option.map_some,aV] at hz
  unfold Instr.alloc
  simp only [C4,N8 hi hz]
  exact x
def Zb:(prog.info? 280).map (fun i=>i.zero)=some (some (.agg (bK 24 (.int .u8 0)))):=by kernel_rfl
def Gp(h:aL):Prop:=∀ k,k<20->h.cell? (Addr.add ⟨0,0,none⟩ (k*1))=some (U ((10^k:Nat):Int))
def Gp.mono{h h':aL}(g:Gp h)(l:h.le h'):Gp h':=fun k a=>B5 l (g k a)
section
variable {h g:aL} {K:VP}
def Oj{i:Nat}(hi:i<100)(hK:K (.string (bs (K7 i))) h):aF prog 239 #[I i] h K:=by
 refine A43 _ ?_
 have key:∀ i:Nat,i<100->(i<10->Qp.extract i (i+1)=bs (K7 i))/\(¬ i<10->H8.extract (2*i) (2*i+2)=bs (K7 i)):=by
  intro i hi
  revert i
  decide +kernel
 obtain ⟨b,c⟩:=key i hi
 refine B6 (fun d=>?_) (fun d=>?_)
 ·have a:B9 ((i:Int)+1)=((i+1:Nat):Int):=by rw [B7 o o];omega
  rw [a,aC,aC,b o]
  exact ⟨⟨o,by show _<=((36:Nat):Int);omega⟩,⟨o,o⟩,hK⟩
 ·have a:B9 ((i:Int)*2)=((2*i:Nat):Int):=by rw [B7 o o];omega
  have e:B9 (((2*i:Nat):Int)+2)=((2*i+2:Nat):Int):=by rw [B7 o o];omega
  rw [a,e,aC,aC,c o]
  exact ⟨⟨o,by show _<=((200:Nat):Int);omega⟩,⟨o,o⟩,hK⟩
def Ac{d:Nat}(gp:Gp h)(h0:d≠0)(hd:d<18446744073709551616)(hK:K (I ((dd d).length:Int)) h):aF prog 240 #[U (d:Int)] h K:=by
 refine (fnk func240) ?_
 have e:L8 d<=64:=Dx hd
 obtain ⟨_,_,c⟩:=A6t (L8 d) o
 refine Yp hd ⟨_,rfl,(fnk func268) ?_⟩
 have b:Int.fdiv (B9 ((L8 d:Int)*78913)) (2^(min ((18:Int)).toNat 64))=((ndg (L8 d):Nat):Int):=by
  rw [show (2:Int)^(min ((18:Int)).toNat 64)=262144 from dc,Int.fdiv_eq_ediv_of_nonneg _ dc,B7 o o]
  rfl
 rw [b]
 refine ⟨_,rfl,⟨o,o⟩,_,by rw [aC];exact gp _ o,(fnk func269) ?_⟩
 rw [B1i h0 hd] at hK
 refine B6 (fun a=>⟨_,rfl,?_⟩) (fun a=>⟨_,rfl,?_⟩)
 ·rw [iP o] at hK
  rw [B7 o o]
  exact hK
 ·rw [iN o] at hK
  rw [B7 o o]
  exact hK
def Y3{e':aP}{A:Option aJ}{n c i:Nat}{l:List UInt8}(gp:Gp h)(p:bW h g e' 1 A n c (yv l))(hi:i<18446744073709551616)(hn:n<=1000000000000)
 (hK:∀ A' c' e2 h' g',g.le g'->bW h' g' e2 1 A' (n+(K7 i).length) c' (yv (l++K7 i))->(n+(K7 i).length<=c->A'=A/\c'=c/\e2=e')->(e'=5->e2=5)->K (.slice A' (n+(K7 i).length:Nat) c') h'):aF prog 243 #[.slice A n c,U (i:Int),I 10] h K:=by
 refine (fnk func243 (wr:=[241])) ?_
 refine D5 (fun _=>?_) (fun e=>absurd rfl e)
 have w:(K7 i).length<=20:=(Hr dc).2 oo
 refine B6 (fun G=>?_) (fun G=>?_)
 ·rw [B7 oo oo]
  refine Oj oo ⟨_,rfl,?_⟩
  refine A0f Ao P0 p (l:=K7 i) rfl rfl (Dh _) (Qm _) oo oo ?_ ?_
  ·intro t h' a
   rw [<- Q0] at a
   exact ⟨_,_,_,rfl,hK _ _ _ _ _ (B4 _) a (fun _=>⟨rfl,rfl,rfl⟩) id⟩
  ·intro t A' c' h' g' C a
   rw [<- Q0] at a
   grind
 ·refine Z7 Zb ?_
  intro b d
  have H:(Value.agg (bK 24 (.int .u8 0))).cells=((aD 24 (0:Int)).map (aO .u8)).toArray:=by rfl
  rw [H]
  have E:Win .u8 (h.put b (.cells ((aD 24 (0:Int)).map (aO .u8)).toArray 280)) h b 280 (some ⟨b,0,none⟩) [] (aD 24 (0:Int)) []:=⟨d,by simp,.inr rfl⟩
  generalize (h.put b (.cells ((aD 24 (0:Int)).map (aO .u8)).toArray 280))=h1' at *
  refine ⟨_,rfl,Ac (gp.mono E.le) oo hi ⟨_,rfl,?_⟩⟩
  have f:K7 i=dd i:=Z1 oo
  rw [f] at w hK
  refine ⟨⟨oo,oo⟩,?_⟩
  rw [aC,bG]
  have z:=E.sub (l:=0) (m:=(dd i).length) (c:=24) oo gz0 (by simp)
  have u:((aD 24 (0:Int)).drop 0).take ((dd i).length-0)=aD (dd i).length 0:=by
   grind
  rw [u] at z
  have j:i<10^(dd i).length:=N5.1 (aR _)
  refine R8 z (by simp) oo j hi ?_
  intro B y
  refine ⟨rfl,⟨oo,oo⟩,?_⟩
  have x:pad (dd i).length i=dd i:=by simp [pad]
  rw [x] at y
  have L:SlV B (P7 (some ⟨b,0,none⟩) 24 0 1) (yv (dd i)):=by
   have:=y.sl
   unfold SlI at this
   rw [A9o] at this
   exact this
  have s:=y.eq
  obtain ⟨o,ho⟩:∃ o,B=h.put b o:=⟨_,s⟩
  subst ho
  have F:=p.put d o
  have r:g.le (g.put b o):=by
   intro k M D
   have q:k≠b:=by
    rintro rfl
    rw [p.le k M D] at d;cases d
   rw [B8 _ _ q];exact D
  refine Nh Ao F (Dh _) L (Qm _) oo oo ?_ ?_
  ·intro t h' a
   rw [<- Q0] at a
   grind
  ·intro t A' c' h' g' C a
   rw [<- Q0] at a
   exact ⟨_,_,_,rfl,hK _ _ _ _ _ (B0 r C) a (fun e=>oo) (fun _=>rfl)⟩
end
structure Ext (g:aL) (e':aP) (A:Option aJ) (n c:Nat) (l t:List UInt8) (A':Option aJ) (n' c':Nat) (e2:aP) (g' h':aL):Prop where
 le:g.le g'
 priv:bW h' g' e2 1 A' n' c' (yv (l++t))
 len:n'=n+t.length
 fit:n+t.length<=c->A'=A/\c'=c/\e2=e'
 tag:e'=5->e2=5
def Ext.trans{g g1 g2 h1 h2:aL}{e' e1 e2:aP}{A A1 A2:Option aJ}{n c n1 c1 n2 c2:Nat}{l t s:List UInt8}(x:Ext g e' A n c l t A1 n1 c1 e1 g1 h1)(y:Ext g1 e1 A1 n1 c1 (l++t) s A2 n2 c2 e2 g2 h2):Ext g e' A n c l (t++s) A2 n2 c2 e2 g2 h2:=by
 refine ⟨B0 x.le y.le,?_,?_,?_,fun e=>y.tag (x.tag e)⟩
 ·have:=y.priv;grind
 ·rw [y.len,x.len,aK];omega
 ·intro a
  rw [aK] at a
  obtain ⟨rfl,rfl,rfl⟩:=x.fit o
  have b:=x.len
  exact y.fit o
section
variable {h g:aL} {K:VP} {A:Option aJ} {n c:Nat} {e':aP} {l:List UInt8}
def Cr{i:Nat}(gp:Gp h)(p:bW h g e' 1 A n c (yv l))(hi:i<18446744073709551616)(hn:n<=1000000000000)
 (hK:∀ A' n' c' e2 g' h',Ext g e' A n c l (K7 i) A' n' c' e2 g' h'->K (.slice A' n' c') h'):aF prog 237 #[.slice A n c,U (i:Int),I 10] h K:=by
 refine (fnk func237) ?_
 refine Y3 gp p hi hn ?_
 intro A' c' e2 h' g' b d a e
 exact ⟨_,_,_,rfl,hK _ _ _ _ _ _ ⟨b,d,rfl,a,e⟩⟩
def Cc{ch:UInt8}{v:Int}(hv:v=(ch.toNat:Int))(p:bW h g e' 1 A n c (yv l))(hn:n<=1000000000000){KK:Option aJ->Nat->Nat->aL->Prop}
 (x:∀ A' n' c' e2 g' h',Ext g e' A n c l [ch] A' n' c' e2 g' h'->KK A' n' c' h'):
 wpH prog (Instr.buildSlice 166 1 #[(0,Y v)]) (fun v1 hp1=>∃ (A1:Option aJ) (n1 c1:Nat),v1= .slice A1 n1 c1/\wpH prog (bJ #[166,166] 166 #[.slice A n c,.slice A1 n1 c1]) (fun v2 hp2=>∃ (A2:Option aJ) (n2 c2:Nat),v2= .slice A2 n2 c2/\KK A2 n2 c2 hp2) hp1) h:=by
 subst hv
 refine T6 Ao rfl ?_
 intro b a
 refine ⟨_,_,_,rfl,?_⟩
 have s:=p.put a (.cells #[Y (ch.toNat:Int)] 5)
 have d:g.le (g.put b (.cells #[Y (ch.toNat:Int)] 5)):=by
  intro k w q
  have i:k≠b:=by
   rintro rfl
   rw [p.le k w q] at a;cases a
  rw [B8 _ _ i];exact q
 have t:SlV (h.put b (.cells #[Y (ch.toNat:Int)] 5)) (some ⟨b,0,none⟩) (yv [ch]):=by
  refine .inr ⟨_,rfl,fun j u z=>?_⟩
  rw [D8,E4]
  match j with
  | 0=>assumption
  | j+1=>assumption
 refine Nh Ao s (m:=1) (ys:=yv [ch]) rfl t (Qm _) o o ?_ ?_
 ·intro r h' f
  rw [<- Q0] at f
  exact ⟨_,_,_,rfl,x _ _ _ _ _ _ ⟨d,f,rfl,fun _=>⟨rfl,rfl,rfl⟩,id⟩⟩
 ·intro r A' c' h' g' y f
  rw [<- Q0] at f
  exact ⟨_,_,_,rfl,x _ _ _ _ _ _ ⟨B0 d y,f,rfl,fun e=>gz0,fun _=>rfl⟩⟩
def Kj{i:Int}(h:i<0):Ej i=[45]++K7 i.natAbs:=by unfold Ej;grind
def Gk{i:Int}(h:¬ i<0):Ej i=K7 i.natAbs:=by unfold Ej;grind
def Fh{i:Int}(gp:Gp g)(p:bW h g e' 1 A n c (yv l))(h1: -9223372036854775808<=i)(h2:i<9223372036854775808)(hn:n<=100000000000)
 (hK:∀ A' n' c' e2 g' h',Ext g e' A n c l (Ej i) A' n' c' e2 g' h'->K (.slice A' n' c') h'):aF prog 132 #[.slice A n c,I i,I 10] h K:=by
 refine (fnk func132) ?_
 refine (fnk func192) ?_
 refine B6 (fun k=>?_) (fun k=>?_)
 ·rw [Kj k] at hK
  refine Cc (ch:=45) rfl p o ?_
  intro A1 u c1 t s r a
  have e:C3 (0-C3 i)=((i.natAbs:Nat):Int):=by rw [D9,D9];omega
  rw [e]
  refine Y3 (gp.mono (B0 a.le a.priv.le)) a.priv o (by have:=a.len;grind) ?_
  intro A2 c2 e2 m q d f b j
  exact ⟨_,_,_,rfl,_,_,_,rfl,hK _ _ _ _ _ _ (a.trans ⟨d,f,rfl,b,j⟩)⟩
 ·rw [Gk k] at hK
  have e:C3 i=((i.natAbs:Nat):Int):=by rw [D9];omega
  rw [e]
  refine Y3 (gp.mono p.le) p o o ?_
  intro A2 c2 e2 m q d f b j
  exact ⟨_,_,_,rfl,_,_,_,rfl,hK _ _ _ _ _ _ ⟨d,f,rfl,b,j⟩⟩
def Rx{b:Nat}{e:aP}{B:Option aJ}{pre post:List bV}{s:List UInt8}(w:Win .u8 h g b e B pre (zb s) post):SlV h B (yv s):=by
 have:=w.sl
 unfold SlI at this
 rw [A9o] at this
 exact this
def Fd{i:Int}(gp:Gp h)(h1: -9223372036854775808<=i)(h2:i<9223372036854775808)(hK:K (.string (bs (Ej i))) h):aF prog 131 #[I i,I 10] h K:=by
 refine FCall.pure ((fnk func131) ?_)
 refine (fnk func191 (cs:=[(3,[17],[],[.bool false])]) (wr:=[241])) ?_
 refine D5 (fun _=>?_) (fun e=>absurd rfl e)
 refine ⟨fun L j=>L=[.bool (decide (0<=i/\i<100))]/\j=h,B6 (fun n=>⟨by simp [n],rfl⟩) (fun n=>⟨by simp [n],rfl⟩),?_⟩
 rintro t j ⟨N,rfl⟩
 obtain rfl:t=decide (0<=i/\i<100):=gz0
 refine B6 (fun n=>?_) (fun n=>?_)
 ·obtain ⟨k,rfl⟩:∃ k:Nat,i=k:=⟨i.toNat,o⟩
  refine Oj o ⟨_,rfl,⟨_,rfl,B4 _,?_⟩⟩
  assumption
 ·refine Z7 Zb ?_
  intro b F
  have G:(Value.agg (bK 24 (.int .u8 0))).cells=((aD 24 (0:Int)).map (aO .u8)).toArray:=by rfl
  rw [G]
  have r:Win .u8 (j.put b (.cells ((aD 24 (0:Int)).map (aO .u8)).toArray 280)) j b 280 (some ⟨b,0,none⟩) [] (aD 24 (0:Int)) []:=⟨F,by simp,.inr rfl⟩
  generalize (j.put b (.cells ((aD 24 (0:Int)).map (aO .u8)).toArray 280))=hp1 at *
  refine ⟨_,rfl,?_⟩
  obtain ⟨u,hu⟩:∃ u:Nat,u=i.natAbs:=⟨_,rfl⟩
  have a:u≠0:=o
  have z:K7 u=dd u:=Z1 a
  have M:(dd u).length<=20:=N5.2 o
  have B:B9 (1+(((dd u).length:Nat):Int))=((1+(dd u).length:Nat):Int):=by rw [B7 o o];omega
  have s:=r.sub (l:=1) (m:=1+(dd u).length) (c:=24) o gz0 (by simp)
  have y:((aD 24 (0:Int)).drop 1).take (1+(dd u).length-1)=aD (dd u).length 0:=by
   grind
  rw [y] at s
  have f:u<10^(dd u).length:=N5.1 (aR _)
  have q:pad (dd u).length u=dd u:=by simp [pad]
  have g:1+(dd u).length-1=(dd u).length:=o
  refine B6 (fun p=>?_) (fun p=>?_)
  ·rw [Kj p,<- hu,z] at hK
   have e:C3 (0-C3 i)=(u:Int):=by rw [D9,D9];omega
   rw [e]
   refine Ac (gp.mono r.le) a o ⟨_,rfl,?_⟩
   dsimp only;rw [B,aC]
   refine ⟨⟨o,o⟩,⟨o,o⟩,?_⟩
   rw [show ((1:Int)).toNat=1 from rfl,g]
   refine R8 s (by simp) o f o ?_
   intro x d
   rw [q] at d
   refine ⟨rfl,B6 (fun _=>?_) (fun w=>absurd p w)⟩
   have E:=r.whole (l:=1) (m:=1+(dd u).length) o gz0 (by rw [De];omega) d
   refine ⟨⟨o,o⟩,?_⟩
   rw [show ((0:Int)).toNat=0 from rfl]
   refine E.storeN Gi rfl (by simp) ?_
   intro H A
   refine ⟨⟨o,o⟩,?_⟩
   have C:=A.sub (l:=0) (m:=1+(dd u).length) (c:=24) o (by simp [De];omega) (by simp [De];omega)
   have D:((((aD 24 (0:Int)).take 1++zb (dd u)++(aD 24 (0:Int)).drop (1+(dd u).length)).set 0 45).drop 0).take (1+(dd u).length-0)=zb ([45]++dd u):=by
    rw [bB,List.take_replicate,show min 1 24=1 from rfl,show aD 1 (0:Int)=[0] from rfl,cD,List.singleton_append,List.set_cons_zero,bG,Nat.add_comm 1,List.take_succ_cons,List.take_left' (De _)]
    rfl
   rw [D] at C
   refine Ek Ao.und X4 P0 (Rx C) gz0 ⟨_,rfl,_,rfl,?_,hK⟩
   exact A.le
  ·rw [Gk p,<- hu,z] at hK
   have e:C3 i=(u:Int):=by rw [D9];omega
   rw [e]
   refine Ac (gp.mono r.le) a o ⟨_,rfl,?_⟩
   dsimp only;rw [B,aC]
   refine ⟨⟨o,o⟩,⟨o,o⟩,?_⟩
   rw [show ((1:Int)).toNat=1 from rfl,g]
   refine R8 s (by simp) o f o ?_
   intro x d
   rw [q] at d
   refine ⟨rfl,B6 (fun w=>absurd w p) (fun _=>?_)⟩
   refine ⟨⟨o,o⟩,⟨o,o⟩,?_⟩
   exact Ek Ao.und X4 P0 (Rx d) rfl ⟨_,rfl,_,rfl,d.le,hK⟩
def Ob{s q:List UInt8}(hK:K (.tuple #[.string (bs (if q <+: s then s.drop q.length else s)),.bool (decide (q <+: s))]) h):aF prog 183 #[.string (bs s),.string (bs q)] h K:=by
 refine (fnk func183) ?_
 refine (fnk func227) ?_
 have b:aF prog 256 #[.string (bs s),.string (bs q)] h (fun r b=>r= .bool (decide (q <+: s))/\b=h):=by
  refine (fnk func256) ?_
  simp only [G1]
  refine B6 (fun a=>?_) (fun a=>?_)
  ·refine ⟨⟨o,o⟩,?_,trivial⟩
   rw [aC,K0,Fg]
   congr 1
   rw [decide_eq_decide,bB,bG,List.prefix_iff_eq_take]
   exact eq_comm
  grind
 refine b.mono ?_
 rintro r c ⟨rfl,rfl⟩
 refine ⟨_,rfl,Br.not (B6 (fun a=>?_) (fun a=>?_))⟩
 ·rw [iP a,decide_eq_true a] at hK
  have:=a.length_le
  simp only [G1]
  refine ⟨⟨o,o⟩,_,_,rfl,?_⟩
  rw [aC,K0,aI gz0]
  exact hK
 grind
end
abbrev cB:Int:=10000000000000000000
section
variable {h g:aL} {K:VP} {A B:Option aJ} {ac bc:Nat}
def B1z{Invv:LP}{muv:LN}{WA CA:Option aJ}{wn wc cn cc:Nat}{us:List Int}{hp1 g1:aL}(p:Pw hp1 g1 WA wn wc us)(hne:us≠[])(hwn:wn=us.length)(du:Dig b64 us)(hl:wn<=100000000)
 (hK:∀ (ws:List Int) (m:Nat) (r:Int) (hp2:aL),Pw hp2 g1 WA m wc (ws.take m)->m=(ws.take m).length->m<=wn->Norm (ws.take m)->Dig b64 (ws.take m)->val b64 us=val b64 (ws.take m)*cB+r->(0<=r/\r<cB)->
  wpH prog (Instr.buildSlice 89 1 #[(0,U r)]) (fun v hp6=>∃ (t44A:Option aJ) (t44n:Nat) (t44c:Nat),v= .slice t44A t44n t44c/\wpH prog (bJ #[89,89] 89 #[.slice CA cn cc,.slice t44A t44n t44c]) (fun v1 hp7=>∃ (t45A:Option aJ) (t45n:Nat) (t45c:Nat),v1= .slice t45A t45n t45c/\Invv [.slice WA m wc,.slice t45A t45n t45c] hp7/\muv [.slice WA m wc,.slice t45A t45n t45c] hp7<muv [.slice WA wn wc,.slice CA cn cc] hp1) hp6) hp2):
 Ed prog Invv muv WA wn wc CA cn cc hp1:=by
 obtain ⟨b,g,F,S⟩:=Bp p hne
 refine ⟨fun s E=>∃ (k:Nat) (r:Int) (ws:List Int),s=[U r,I ((k:Int)-1)]/\k<=wn/\(0<=r/\r<cB)/\ws.length=us.length/\Dig b64 ws/\Win .u64 E g1 b 230 WA [] ws g/\ws.take k=us.take k/\val b64 (us.drop k)=val b64 (ws.drop k)*cB+r,fun s _=>(iAt s 1+1).toNat,⟨wn,0,us,by rw [B7 o o],o,dc,rfl,du,F,rfl,by rw [cJ o];rfl⟩,?_⟩
 rintro c i hp2 ⟨k,r,ws,R,O,n,B,l,w,d,M⟩
 obtain ⟨rfl,rfl⟩:c=r/\i=(k:Int)-1:=gz0
 refine B6 (fun D=>?_) (fun D=>?_)
 ·obtain ⟨j,rfl⟩:∃ j,k=j+1:=⟨k-1,o⟩
  have e:((j+1:Nat):Int)-1=(j:Int):=o
  rw [e]
  have L:=K8 l j
  refine w.sl.load o o o ?_
  rw [aC]
  refine Kp (y:=10000000000000000000) n L dc ⟨_,_,rfl,?_⟩
  have G:us.getD j 0=ws.getD j 0:=by
   have H:(ws.take (j+1)).getD j 0=(us.take (j+1)).getD j 0:=by rw [d]
   grind
  generalize hx:ws.getD j 0=x at *
  have A:0<=c/\c<10000000000000000000:=n
  have C:0<=(c*18446744073709551616+x)/10000000000000000000/\(c*18446744073709551616+x)/10000000000000000000<18446744073709551616:=o
  obtain ⟨a,t,_⟩:=SlV.at w.sl (i:=j) gz0
  refine ⟨a,t,o,o,w.storeN E9 t o ?_⟩
  intro Q u
  rw [B7 o o]
  refine ⟨⟨j,_,_,rfl,o,gz0,gz0,l.set C,u,?_,?_⟩,by simp only [iAt,aE,aG];omega⟩
  ·rw [List.take_set_of_le o]
   have H:=congrArg (List.take j) d
   grind
  ·rw [Q8 o,Gh b64 o,M,G]
   simp only [val]
   grind
 ·obtain rfl:k=0:=o
  rw [show wn=ws.length from o] at hK ⊢
  refine Am w.sl o o ?_
  intro m q N z
  refine ⟨_,_,_,rfl,?_⟩
  have f:ws≠[]:=gz0
  exact hK ws m c hp2 (w.priv f o q) gz0 q N (l.take m) gz0 n
end
def nv:List Nat->Nat
 | []=>0
 | c::r=>c+10^19*nv r
def A2k(ns:List Nat)(c:Nat):((nv (ns++[c]):Nat):Int)=(nv ns:Int)+cB^ns.length*(c:Int):=by
 induction ns with
 | nil=>simp [nv]
 | cons d r ih=>
  have e:((10^19:Nat):Int)=cB:=dc
  simp only [List.cons_append,nv,List.length_cons,dI,dB,bI,ih,e]
  grind
def B3d{ns:List Nat}(h:∀ c∈ns,c<10^19):nv ns<10^(19*ns.length):=by
 induction ns with
 | nil=>simp [nv]
 | cons d r ih=>
  have a:=h d (by simp)
  simp only [nv,List.length_cons]
  grind
def B3c{ns:List Nat}(hne:ns≠[])(h:ns.getLast? ≠ some 0):nv ns≠0:=by
 induction ns with
 | nil=>grind
 | cons d r ih=>
  cases r with
  | nil=>simp at h;assumption
  | cons e s=>
   have:=ih (by simp) (by assumption)
   simp only [nv] at this ⊢
   omega
def A5g{c:Nat}:aD (19-(K7 c).length) 48++K7 c=pad 19 c:=by
 unfold K7 pad
 split
 ·rename_i h;subst h;rw [H9];rfl
 ·rfl
def A2e{c w:Nat}(h:c≠0):aD (w-(K7 c).length) 48++K7 c=pad w c:=by
 unfold K7 pad;grind
def Zw{w n k:Nat}(h:n<10^k):(pad w n).length<=w+k:=by
 unfold pad
 have:=N5.2 h
 grind
def A0m(W:Nat)(ns:List Nat)(k:Nat):List UInt8:=if k<ns.length then pad (W-19*k) (nv (ns.drop k)) else []
def A4j{W:Nat}{ns:List Nat}(h:∀ c∈ns,c<10^19)(k:Nat):(A0m W ns k).length<=W+19*ns.length:=by
 unfold A0m
 split
 ·have:=Zw (w:=W-19*k) (B3d (ns:=ns.drop k) fun c a=>h c (List.mem_of_mem_drop a))
  grind
 ·simp
def A16{W:Nat}{ns:List Nat}(hb:∀ c∈ns,c<10^19)(ht:ns.getLast? ≠ some 0){j:Nat}(hj:j<ns.length):A0m W ns j=A0m W ns (j+1)++(aD ((if j+1=ns.length then max (K7 ns[j]).length (W-19*j) else 19)-(K7 ns[j]).length) 48++K7 ns[j]):=by
 have e:ns.drop j=ns[j]::ns.drop (j+1):=bZ hj
 unfold A0m
 rw [iP hj,e]
 by_cases h:j+1=ns.length
 ·rw [iN o,iP h,List.nil_append,cJ o]
  have a:ns[j]≠0:=by
   grind
  rw [show max (K7 ns[j]).length (W-19*j)-(K7 ns[j]).length=(W-19*j)-(K7 ns[j]).length from o,A2e a]
  simp [nv]
 ·rw [iP o,iN h,A5g]
  have d:nv (ns.drop (j+1))≠0:=by
   apply B3c
   ·intro b;have:=congrArg List.length b;grind
   grind
  have:=Tl (w:=W-19*j) (h:=nv (ns.drop (j+1))) (l:=ns[j]) (k:=19) (hb _ (cG hj)) (.inl d)
  rw [Nat.sub_sub] at this
  rw [show 19*(j+1)=19*j+19 from o,<- this]
  congr 1
  simp only [nv];omega
def Priv.clear{h g:aL}{e:aP}{A:Option aJ}{n c:Nat}{xs:List bV}(p:bW h g e 1 A n c xs):bW h g e 1 A 0 c []:=by
 obtain ⟨a,b,d⟩:=p
 refine ⟨by simp,o,?_⟩
 grind
def nz(ns:List Nat):List Int:=ns.map fun (x:Nat)=>(x:Int)
def Bx(g:aL)(eT:aP)(A:Option aJ)(n c:Nat)(l:List UInt8)(p:aJ)(CA:Option aJ)(ns:List Nat)(bl t:List UInt8)(tA:Option aJ)(tn tc:Nat)(hp:aL):Prop:=
 ∃ e2 gA gB,Ext g eT A n c l t tA tn tc e2 gA hp/\bW gA gB 311 1 (some p) bl.length 20 (yv bl)/\g.le gB/\SlI .u64 gB CA (nz ns)
section
variable {h g:aL} {K:VP} {A CA:Option aJ} {n c:Nat} {eT:aP} {l:List UInt8} {p:aJ} {ns:List Nat}
def Xm{bl t s:List UInt8}{tA tA':Option aJ}{tn tc tn' tc':Nat}{e2 e3:aP}{gA gB g' hp hp':aL}(x:Ext g eT A n c l t tA tn tc e2 gA hp)(q:bW gA gB 311 1 (some p) bl.length 20 (yv bl))(lg:g.le gB)(sc:SlI .u64 gB CA (nz ns))(y:Ext gA e2 tA tn tc (l++t) s tA' tn' tc' e3 g' hp'):Bx g eT A n c l p CA ns bl (t++s) tA' tn' tc' hp':=by
 obtain ⟨a,b,d⟩:=q.after y.le
 exact ⟨e3,g',a,x.trans y,d,B0 lg b,sc.mono b⟩
def A63{Invv2:LP}{muv2:LN}{tA:Option aJ}{tn tc q:Nat}{first:Bool}{i1 size:Int}{bl t:List UInt8}{hp9 hp11:aL}(x:Bx g eT A n c l p CA ns bl t tA tn tc hp11)(hq:B9 (size-((bl.length:Nat):Int))=(q:Int))(hb:n+t.length+q+bl.length<=100000000000)
 (hK:∀ tA' tn' tc' hp',Bx g eT A n c l p CA ns bl (t++(aD q 48++bl)) tA' tn' tc' hp'->Invv2 [.slice tA' tn' tc',.bool false,I (B9 (i1-1))] hp'/\muv2 [.slice tA' tn' tc',.bool false,I (B9 (i1-1))] hp'<muv2 [.slice tA tn tc,.bool first,I i1] hp9):
 Cw prog Invv2 muv2 tA tn tc first i1 (some p) bl.length 20 size hp9 hp11:=by
 refine ⟨fun s j=>∃ (k:Nat) (tA:Option aJ) (tn tc:Nat),s=[.slice tA tn tc,I k]/\k<=q/\Bx g eT A n c l p CA ns bl (t++aD k 48) tA tn tc j,fun s _=>q-(iAt s 1).toNat,⟨0,tA,tn,tc,rfl,o,gz0⟩,?_⟩
 rintro B C G L u ⟨k,N,M,F,H,Q,S,T,R,ex,d,i,m⟩
 obtain ⟨⟨rfl,rfl,rfl⟩,rfl⟩:=H
 have a:=ex.len
 rw [aK,List.length_replicate] at a
 refine B6 (fun z=>?_) (fun z=>?_)
 ·refine Cc (ch:=48) rfl ex.priv o ?_
  intro A' O w V D r y
  rw [B7 o o]
  refine ⟨⟨k+1,_,_,_,rfl,o,?_⟩,by simp only [iAt,aE,aG];omega⟩
  have:=Xm ex d i m y
  rwa [cD,<- List.replicate_succ'] at this
 ·obtain rfl:k=q:=o
  refine ⟨fun s j=>∃ (tA:Option aJ) (tn tc:Nat),s=[.slice tA tn tc]/\Bx g eT A n c l p CA ns bl (t++(aD k 48++bl)) tA tn tc j,?_,?_⟩
  ·refine Nh Ao ex.priv (Dh bl) (SlV.mono ex.priv.le d.slV) (Qm _) o o ?_ ?_
   ·intro E r b
    rw [<- Q0] at b
    refine ⟨_,_,_,rfl,_,_,_,rfl,?_⟩
    have:=Xm ex d i m (s:=bl) ⟨B4 _,b,rfl,fun _=>⟨rfl,rfl,rfl⟩,id⟩
    grind
   ·intro E A' w r D f b
    rw [<- Q0] at b
    refine ⟨_,_,_,rfl,_,_,_,rfl,?_⟩
    have:=Xm ex d i m (s:=bl) ⟨f,b,rfl,fun e=>o,fun _=>rfl⟩
    grind
  grind
def A61{W tn tc:Nat}{tA:Option aJ}{t:List UInt8}{e2:aP}{gA hp9:aL}(x:Ext g eT A n c l t tA tn tc e2 gA hp9)(hW:W<=10000000000)(hb:tn<=10000000000)(hK:∀ A' n' c' e3 g' h',Ext g eT A n c l (t++aD W 48) A' n' c' e3 g' h'->K (.slice A' n' c') h'):Cv prog (W:Int) K tA tn tc hp9:=by
 refine ⟨fun s b=>∃ (k:Nat) (tA:Option aJ) (tn' tc:Nat) (e3:aP) (g':aL),s=[.slice tA tn' tc,I k]/\k<=W/\tn'=tn+k/\Ext g eT A n c l (t++aD k 48) tA tn' tc e3 g' b,fun s _=>W-(iAt s 1).toNat,⟨0,tA,tn,tc,e2,gA,rfl,o,rfl,gz0⟩,?_⟩
 rintro r u p f a ⟨k,w,e,i,e3,g',z,B,j,ex⟩
 obtain ⟨⟨rfl,rfl,rfl⟩,rfl⟩:=z
 refine B6 (fun q=>?_) (fun q=>?_)
 ·refine Cc (ch:=48) rfl ex.priv o ?_
  intro A' n' c' m d h' y
  rw [B7 o o]
  refine ⟨⟨k+1,_,_,_,m,d,rfl,o,?_,?_⟩,by simp only [iAt,aE,aG];omega⟩
  ·have:=y.len;grind
  ·have:=ex.trans y
   rwa [cD,<- List.replicate_succ'] at this
 grind
def A62{W cn:Nat}{tA:Option aJ}{tn tc:Nat}{hp8:aL}{b:Nat}(gp:Gp g)(hp:p=⟨b,0,none⟩)(x:Bx g eT A n c l p CA ns [] [] tA tn tc hp8)(hcn:cn=ns.length)(hb:∀ c∈ns,c<10^19)(ht:ns.getLast? ≠ some 0)(hW:W<=1000000000)(hn:n<=1000000000)(hnl:ns.length<=1000000000)
 (hK:∀ A' n' c' e3 g' h',Ext g eT A n c l (pad W (nv ns)) A' n' c' e3 g' h'->K (.slice A' n' c') h'):Cx prog tA tn tc (W:Int) K CA cn p hp8:=by
 subst hcn
 have f:P7 (some p) 20 0 1=some p:=by rfl
 refine ⟨fun s hp=>∃ (k:Nat) (tA:Option aJ) (tn tc:Nat) (E:List UInt8),s=[.slice tA tn tc,.bool (decide (k=ns.length)),I ((k:Int)-1)]/\k<=ns.length/\Bx g eT A n c l p CA ns E (A0m W ns k) tA tn tc hp,fun s _=>(iAt s 2+1).toNat,⟨ns.length,tA,tn,tc,[],by rw [B7 o o];simp,aR _,by unfold A0m;grind⟩,?_⟩
 rintro t u B first i1 af ⟨k,ag,ae,aa,E,hs,hk,G,gA,gB,ex,z,m,N⟩
 obtain ⟨⟨rfl,rfl,rfl⟩,rfl,rfl⟩:=hs
 have F:=ex.len
 have S:=A4j (W:=W) hb k
 refine B6 (fun X=>?_) (fun X=>?_)
 ·obtain ⟨j,rfl⟩:∃ j,k=j+1:=⟨k-1,o⟩
  have e:((j+1:Nat):Int)-1=(j:Int):=o
  rw [e]
  have D:j<ns.length:=o
  refine ⟨⟨o,o⟩,?_⟩
  refine (N.mono (B0 z.le ex.priv.le)).load (by simp [nz]) o o ?_
  have hz:(nz ns).getD (j:Int).toNat 0=((ns[j]:Nat):Int):=by
   simp [nz,List.getD,D]
  rw [hz,f,show ((0:Int)).toNat-0=0 from rfl,show 20-0=20 from rfl]
  have a:=hb ns[j] (cG D)
  have ad:(K7 ns[j]).length<=20:=(Hr dc).2 (aQ a dc)
  refine ex.priv.call ?_
  refine Cr (l:=[]) (gp.mono (B0 m z.le)) z.clear (aQ a dc) o ?_
  intro A' n' c' e3 g' Q y h' T
  obtain ⟨rfl,rfl,rfl⟩:=y.fit o
  have L:=y.len
  rw [bX] at L
  subst L
  refine ⟨_,_,_,rfl,?_⟩
  have x2:Bx g eT A n c l p CA ns (K7 ns[j]) (A0m W ns (j+1)) t u B h':=
   ⟨G,Q,g',⟨B0 m (B0 y.le y.priv.le),T,ex.len,ex.fit,ex.tag⟩,by simpa using y.priv,B0 m y.le,N.mono y.le⟩
  refine ⟨fun s hp=>s=[I (((if j+1=ns.length then max (K7 ns[j]).length (W-19*j) else 19):Nat):Int)]/\hp=h',B6 (fun i=>⟨?_,rfl⟩) (fun i=>⟨gz0,rfl⟩),?_⟩
  ·rw [iP i,B7 (n:=19*(j:Int)) o o,B7 o o]
   grind
  ·rintro d H ⟨ac,rfl⟩
   obtain rfl:d=(((if j+1=ns.length then max (K7 ns[j]).length (W-19*j) else 19):Nat):Int):=gz0
   have O:(K7 ns[j]).length<=19:=(Hr dc).2 a
   generalize hsz:(if j+1=ns.length then max (K7 ns[j]).length (W-19*j) else 19)=sz at *
   have M:(K7 ns[j]).length<=sz/\sz<=W+20:=by
    grind
   refine A63 (q:=sz-(K7 ns[j]).length) x2 (by rw [B7 o o];omega) o ?_
   intro w C r V R
   rw [B7 o o]
   refine ⟨⟨j,w,C,r,K7 ns[j],?_,o,?_⟩,by simp only [iAt,aE,aG];omega⟩
   ·rw [show decide (j=ns.length)=false from gz0]
   ·rw [A16 hb ht D,hsz];exact R
 ·obtain rfl:k=0:=o
  refine B6 (fun i=>?_) (fun i=>?_)
  ·refine A61 ex o o ?_
   intro A' n' c' e3 g' h' y
   refine hK _ _ _ e3 g' _ ?_
   have:A0m W [] 0++aD W 48=pad W (nv []):=by simp [A0m,nv,pad,H9]
   grind
  ·refine hK _ _ _ G gA _ ?_
   ·have:A0m W ns 0=pad W (nv ns):=by unfold A0m;grind
    grind
end
def A67:(prog.info? 311).map (fun i=>i.zero)=some (some (.agg (bK 20 (.int .u8 0)))):=by kernel_rfl
def A8i(ns:List Nat)(c:Nat):nz (ns++[c])=nz ns++[(c:Int)]:=by simp [nz]
section
variable {h g:aL} {K:VP} {A XA:Option aJ} {n c:Nat} {eT:aP} {l:List UInt8}
def Bk{xn xc v W:Nat}(gp:Gp g)(p:bW h g eT 1 A n c (yv l))(M:Mw g XA xn (v:Int))(hx:xn<=10000000)(hW:W<=1000000000)(hn:n<=1000000000)
 (hK:∀ A' n' c' e3 g' h',Ext g eT A n c l (pad W v) A' n' c' e3 g' h'->K (.slice A' n' c') h'):aF prog 267 #[.slice A n c,.slice XA xn xc,I (W:Int)] h K:=by
 obtain ⟨xs,D,sx,dx,nx,L⟩:=M
 refine Kf _ _ _ _ _ _ _ ?_
 refine p.call ?_
 refine Bg sx D oo ?_
 intro WA Q h0 g0 l0 pw h1 R
 obtain ⟨y,X,am⟩:=R.swap pw
 refine ⟨_,_,_,rfl,?_⟩
 have an:(v:Int)<2^(64*xn):=by
  have:=J4 (B:=b64) dc dx
  rw [L,<- D,Fo] at this;exact this
 refine ⟨fun s hp=>∃ (a:List Int) (ns:List Nat) (WA CA:Option aJ) (wn Q cn cc:Nat) (y g2 g3:aL),s=[.slice WA wn Q,.slice CA cn cc]/\Pw hp y WA wn Q a/\Pw y g2 CA cn cc (nz ns)/\bW g2 g3 eT 1 A n c (yv l)/\g.le g3/\wn=a.length/\cn=ns.length/\wn<=xn/\Dig b64 a/\Norm a/\(∀ c∈ns,c<10^19)/\(v:Int)=val b64 a*cB^ns.length+(nv ns:Int)/\(a=[]->ns.getLast? ≠ some 0),fun s hp=>match s with|[.slice A n _,_]=>A2p b64 hp A n|_=>0,⟨xs,[],WA,none,xs.length,Q,0,0,y,y,g0,rfl,X,Priv.nil _ _ _ _,am,l0,rfl,rfl,oo,dx,nx,by simp,by simp [nv,L],by simp⟩,?_⟩
 rintro WA1 H af CA1 ai ax N ⟨a,ns,WA2,CA2,aw,au,ay,aq,y,g2,g3,hs,pw,pc,R,lg,E,V,ar,S,nu,hb,hv,u⟩
 obtain ⟨⟨rfl,rfl,rfl⟩,rfl,rfl,rfl⟩:=hs
 have ap:=C5 (B:=b64) dc S
 have Mu:Mw N WA1 H (val b64 a):=⟨a,E,pw.slV,S,nu,rfl⟩
 refine B6 (fun h2=>?_) (fun h2=>?_)
 ·have T:a≠[]:=gz0
  have F:0<val b64 a:=by
   have:=Mu.len_zero dc
   omega
  have t:ns.length<=64*xn:=by
   by_cases hc:ns.length<=64*xn
   ·exact hc
   ·exfalso
    have h3:(2:Int)^(64*xn)<=2^ns.length:=C8 dc oo
    have h4:(2:Int)^ns.length<=cB^ns.length:=by
     have:∀ k:Nat,(2:Int)^k<=cB^k:=by
      intro k
      induction k with
      | zero=>simp
      | succ k ih=>
       grind
     grind
    have h5:1*cB^ns.length<=val b64 a*cB^ns.length:=cW F (dJ (Int.pow_pos dc))
    omega
  refine B1z pw T E S oo ?_
  intro ws m r av al hm ao nw dw j hr
  obtain ⟨q,aa,ag⟩:=al.swap pc
  refine Ab L7 aa rfl rfl oo oo ?_
  intro CA' aj h' g' ae i
  obtain ⟨w,l2,d⟩:=ag.after ae
  obtain ⟨g4,O,ad⟩:=i.swap d
  obtain ⟨g5,l5,ac⟩:=R.after l2
  obtain ⟨c0,e⟩:∃ c0:Nat,r=(c0:Int):=⟨r.toNat,oo⟩
  refine ⟨⟨ws.take m,ns++[c0],WA1,CA',m,af,ai+1,aj,g4,w,g5,rfl,O,?_,ac,B0 lg l5,hm,gz0,oo,dw,nw,?_,?_,?_⟩,?_⟩
  ·have h9:=ad
   rw [<- List.map_singleton (f:=aO .u64),<- cZ,e,<- A8i] at h9
   exact h9
  ·grind
  ·rw [A2k,hv,j,aK,cO,dI,e];grind
  ·intro he
   rw [List.getLast?_append]
   simp only [dG,Option.some_or,ne_eq,aV]
   intro e0
   rw [he] at j
   simp [val] at j
   omega
  ·show A2p b64 h' WA1 m<A2p b64 N WA1 H
   have Mw2:Mw h' WA1 m (val b64 (ws.take m)):=⟨ws.take m,hm,O.slV,dw,nw,rfl⟩
   rw [T5 Mw2,T5 Mu]
   grind
 ·have z:a=[]:=aN oo
  subst z
  obtain ⟨w,ah,i⟩:=pc.swap R
  obtain ⟨q,C,d⟩:=pw.swap ah
  have ak:v=nv ns:=by
   simp [val] at hv;omega
  have t:ns.length<=1000000000:=by
   by_cases e:ns=[]
   ·grind
   ·have h7:=u rfl
    obtain ⟨ms,c0,rfl⟩:∃ ms c0,ns=ms++[c0]:=⟨ns.dropLast,ns.getLast e,(List.dropLast_concat_getLast e).symm⟩
    rw [List.getLast?_append] at h7
    simp only [dG,Option.some_or,ne_eq,aV] at h7
    have h8:=A2k ms c0
    by_cases hc:ms.length<=64*xn
    ·grind
    ·exfalso
     have h3:(2:Int)^(64*xn)<=2^ms.length:=C8 dc oo
     have h4:(2:Int)^ms.length<=cB^ms.length:=by
      have:∀ k:Nat,(2:Int)^k<=cB^k:=by
       intro k
       induction k with
       | zero=>simp
       | succ k ih=>
        grind
      grind
     have h5:cB^ms.length*1<=cB^ms.length*(c0:Int):=bU oo (dJ (Int.pow_pos dc))
     omega
  refine Z7 A67 ?_
  intro b x
  refine ⟨_,rfl,?_⟩
  have G:q b=none:=by
   cases hx1:q b with
   | none=>rfl
   | some o=>rw [C.le b o hx1] at x;cases x
  refine A62 (ns:=ns) gp rfl ⟨eT,_,q,⟨?_,?_,by simp,fun _=>⟨rfl,rfl,rfl⟩,id⟩,⟨by simp [yv],by simp,.inr ⟨b,aD 20 (aO .u8 0),rfl,G,rfl,by simp,by simp [yv]⟩⟩,?_,?_⟩ V hb (u rfl) hW hn t (by rw [<- ak];exact hK)
  ·exact B0 lg (B0 i.le (B0 d.le (Heap.le_put _ G)))
  ·rw [List.append_nil];exact C.put x _
  ·exact B0 lg (B0 i.le d.le)
  ·exact (show SlI .u64 w CA1 (nz ns) from i.slV).mono d.le
end
def Gb(i:Nat):Nat:=10^(19*2^i)
def A1a(i:Nat):Gb i=(10^19)^(2^i):=cX _ _ _
def A4m(i:Nat):0<Gb i:=Nat.pow_pos dc
def Sh(i:Nat):Gb (i+1)=Gb i*Gb i:=by
 unfold Gb
 rw [<- Nat.pow_add]
 grind
def A7d(i:Nat):(Gb i:Int)<b64^(2^i):=by
 have h:(10^19)^(2^i)<(18446744073709551616:Nat)^(2^i):=Nat.pow_lt_pow_left dc (Nat.pos_iff_ne_zero.1 (Nat.pow_pos dc))
 rw [<- A1a] at h
 grind
def A7e(i:Nat):(2:Int)^(63*2^i)<=(Gb i:Int):=by
 have h:(2^63)^(2^i)<=(10^19)^(2^i):=cR dc _
 rw [<- A1a,<- cX] at h
 grind
def A9t{k m:Nat}(h:(2:Int)^k<2^m):k<m:=by
 by_cases a:k<m
 ·exact a
 ·have:=C8 (B:=2) dc (show m<=k from o)
  omega
abbrev slT(s:Option aJ × Nat × Nat):bV:=.slice s.1 s.2.1 s.2.2
def Pws(h:aL)(PA:Option aJ)(k:Nat):Prop:=∃ ss:List (Option aJ × Nat × Nat),ss.length=k/\SlV h PA (ss.map slT)/\∀ i s,ss[i]? = some s->s.2.1<=s.2.2/\Mw h s.1 s.2.1 (Gb i:Int)
def Pws.mono{h h':aL}(l:h.le h'){PA:Option aJ}{k:Nat}(p:Pws h PA k):Pws h' PA k:=by
 obtain ⟨d,b,c,a⟩:=p
 exact ⟨d,b,c.mono l,fun i s e=>⟨(a i s e).1,(a i s e).2.mono l⟩⟩
def Pws.take{h:aL}{PA:Option aJ}{k j:Nat}(p:Pws h PA k)(hj:j<=k):Pws h PA j:=by
 obtain ⟨a,d,b,f⟩:=p
 refine ⟨a.take j,gz0,?_,fun i s e=>?_⟩
 ·have:=SlV.cut (c:=(a.map slT).length) b (Nat.zero_le j) gz0 (aR _)
  rw [G0,bB,bG,<- List.map_take] at this
  exact this
 grind
def Pws.at{h:aL}{PA:Option aJ}{k i:Nat}(p:Pws h PA k)(hi:i<k):∃ (a:aJ) (A:Option aJ) (n c:Nat),PA=some a/\h.cell? (a.add i)=some (.slice A n c)/\n<=c/\Mw h A n (Gb i:Int):=by
 obtain ⟨e,f,b,g⟩:=p
 obtain ⟨a,d,j⟩:=b.at (i:=i) gz0
 grind
def Mw.tenP_le{h:aL}{A:Option aJ}{n i:Nat}(m:Mw h A n (Gb i:Int)):n<=2^i:=m.len_le dc (A7d i)
def Mw.tenP_ge{h:aL}{A:Option aJ}{n i:Nat}(m:Mw h A n (Gb i:Int)):2^i<2*n:=by
 have a:=m.lt dc
 rw [Fo] at a
 have b:=A9t (Int.lt_of_le_of_lt (A7e i) a)
 omega
def Ext.weak{g g0 g' h':aL}{eT e2:aP}{A A':Option aJ}{n c n' c':Nat}{l t:List UInt8}(l0:g0.le g)(x:Ext g eT A n c l t A' n' c' e2 g' h'):Ext g0 eT A n c l t A' n' c' e2 g' h':=⟨B0 l0 x.le,x.priv,x.len,x.fit,x.tag⟩
def B1g(w n:Nat):w<=(pad w n).length:=by simp [pad];omega
def A7m{j:Nat}(hj:j<=50):B9 (19*2^(min j 64))=((19*2^j:Nat):Int):=by
 rw [cK o]
 have b:2^j<=2^50:=aH dc hj
 have a:(19*2^j:Int)=((19*2^j:Nat):Int):=by rfl
 rw [a,B7 o o]
def Rc{l:List UInt8}(hd:∀ c∈l,F7 c):(I0 l:Int)<b64^(l.length/19+1):=by
 have f:=Ae hd
 have b:10^l.length<=10^(19*(l.length/19+1)):=aH dc o
 rw [cX] at b
 have e:(10^19)^(l.length/19+1)<=(18446744073709551616:Nat)^(l.length/19+1):=cR dc _
 have d:I0 l<(18446744073709551616:Nat)^(l.length/19+1):=o
 have a:=Int.ofNat_lt.2 d
 rw [Int.natCast_pow] at a
 exact a
def Kb:∀ (k:Nat) {h g:aL} {K:VP} {A XA PA:Option aJ} {n c xn xc pc v W:Nat} {eT:aP} {l:List UInt8},Gp g->bW h g eT 1 A n c (yv l)->Mw g XA xn (v:Int)->xn<=xc->xn<=10000000->Pws g PA k->k<=pc->k<=26->(W=0\/W=19*2^k)->n+(pad W v).length<=1000000000->
 (∀ A' n' c' e3 g' h',Ext g eT A n c l (pad W v) A' n' c' e3 g' h'->K (.slice A' n' c') h')->aF prog 238 #[.slice A n c,.slice XA xn xc,I (W:Int),.slice PA k pc] h K:=by
 intro k
 induction k with
 | zero=>
  intro h g K A XA PA n c xn xc pc v W eT l d p M x E u D hk hW N C
  refine (fnk func238) ?_
  refine B6 (fun _=>?_) (fun e=>absurd dc e)
  refine Bk d p M E o o ?_
  grind
 | succ j ih=>
  intro h g K A XA PA n c xn xc pc v W eT l d p M x E u D hk hW N C
  have R:=B1g W v
  have e1:B9 (((j+1:Nat):Int)-1)=(j:Int):=by rw [B7 o o];omega
  refine (fnk func238) ?_
  simp only [e1,aC,bG,G0,A7m (show j<=50 from o)]
  refine B6 (fun e=>absurd e o) (fun _=>B6 (fun _=>?_) (fun _=>?_))
  ·refine Bk d p M E o o ?_
   grind
  ·obtain ⟨a,PA',pn,ad,ha,hc,s,Mp⟩:=u.at (i:=j) o
   refine ⟨a,ha,o,o,_,_,_,by rw [aY];exact B5 p.le hc,?_⟩
   have ah:=Mp.tenP_le
   have V:2^j<=2^26:=aH dc o
   have B:=A4m j
   refine p.call ?_
   refine O8 M Mp x s o o o ?_
   intro A1 m1 c1 A2 X c2 g1 b S O M1 M2 h1 L
   refine ⟨_,_,_,_,_,_,rfl,?_⟩
   rw [<- Int.natCast_ediv] at M1
   rw [<- Int.natCast_emod] at M2
   have hv:=Nat.div_add_mod v (Gb j)
   have f:=Nat.mod_lt v B
   have ac:=aU v (Gb j)
   generalize v/Gb j=q at *
   generalize v%Gb j=r at *
   have hz:=M1.len_zero dc
   have F:=M.lt dc
   have af:m1<=xn:=M1.len_le dc o
   have ae:X<=xn:=M2.len_le dc (by
    omega)
   have z:v=q*10^(19*2^j)+r:=by rw [<- hv,Nat.mul_comm];rfl
   refine B6 (fun e=>absurd e o) (fun _=>?_)
   refine D5 (fun T=>D5 (fun eW=>?_) (fun eW=>?_)) (fun T=>?_)
   ·obtain rfl:W=0:=o
    obtain rfl:q=0:=o
    obtain rfl:v=r:=o
    refine ⟨⟨o,o⟩,?_⟩
    refine ih (W:=0) (d.mono b) L M2 O o ((u.mono b).take o) o o (.inl rfl) N ?_
    intro A4 n4 c4 Q H h4 y
    exact ⟨_,_,_,rfl,C _ _ _ _ _ _ (y.weak b)⟩
   all_goals
    have hw:q≠0\/19*2^j<=W:=o
    have t:=Tl (w:=W) (h:=q) (l:=r) (k:=19*2^j) f hw
    rw [<- z] at t
    have aa:(pad (19*2^j) r).length=19*2^j:=Ou f
    have ai:(pad W v).length=(pad (W-19*2^j) q).length+19*2^j:=gz0
    refine ⟨⟨o,o⟩,?_⟩
    have e3:(if (0:Int)>B9 ((W:Int)-((19*2^j:Nat):Int)) then (0:Int) else B9 ((W:Int)-((19*2^j:Nat):Int)))=((W-19*2^j:Nat):Int):=by
     rw [B7 o o]
     omega
    rw [e3]
    refine ih (d.mono b) L M1 S o ((u.mono b).take o) o o o o ?_
    intro A3 n3 c3 e3 g3 h3 m
    have ag:=m.len
    have G:=B0 b m.le
    refine ⟨_,_,_,rfl,⟨o,o⟩,?_⟩
    refine ih (d.mono G) m.priv (M2.mono m.le) O o ((u.mono G).take o) o o (.inr rfl) o ?_
    intro A4 n4 c4 Q H h4 y
    refine ⟨_,_,_,rfl,C _ _ _ Q H _ ?_⟩
    rw [t]
    exact (m.trans y).weak b
def Dp:∀ (k:Nat) {h:aL} {K:VP} {PA:Option aJ} {pc:Nat} {l:List UInt8},(∀ c∈l,F7 c)->l.length<=140737488351232->Pws h PA k->k<=pc->k<=50->(∀ A n c h',h.le h'->n<=c->Mw h' A n (I0 l:Int)->K (.slice A n c) h')->aF prog 228 #[.string (bs l),.slice PA k pc] h K:=by
 intro k
 induction k using Nat.strongRecOn with
 | _ k ih=>
  intro h K PA pc l p V y W hk Q
  refine (fnk func228 [(2,[5],[],[I 0])] (os:=[(7,[0,1,2,3,4,5,7,8,9,10,6,11,12])])) ?_
  rw [G1]
  have b:aF prog 257 #[.string (bs l)] h (fun r q=>∃ (A:Option aJ) (n c:Nat),r= .slice A n c/\K (.slice A n c) q):=by
   refine Jz p V ?_
   grind
  refine ⟨fun s q=>q=h/\∃ j:Nat,s=[I ((j:Int)-1)]/\j<=k,fun s _=>(iAt s 0+1).toNat,⟨rfl,k,by rw [B7 o o],aR _⟩,?_⟩
  rintro last q ⟨rfl,j,hs,hj⟩
  obtain rfl:last=(j:Int)-1:=gz0
  refine B6 (fun L=>?_) (fun L=>B6 (fun _=>b) (fun e=>absurd (show (j:Int)-1<0 from o) e))
  obtain ⟨i,rfl⟩:∃ i,j=i+1:=⟨j-1,o⟩
  have H:((i+1:Nat):Int)-1=(i:Int):=o
  simp only [H,aC,bG,G0,A7m (show i<=50 from o)]
  refine B6 (fun e=>absurd e o) (fun _=>B6 (fun D=>?_) (fun D=>?_))
  ·refine ⟨⟨trivial,i,by rw [B7 o o],o⟩,?_⟩
   simp only [iAt,aE]
   rw [B7 o o]
   omega
  refine B6 (fun e=>absurd e o) (fun _=>B6 (fun _=>b) (fun C=>B6 (fun e=>absurd e o) (fun _=>?_)))
  have S:B9 ((l.length:Int)-((19*2^i:Nat):Int))=((l.length-19*2^i:Nat):Int):=by rw [B7 o o];omega
  simp only [S,aC,K0,bB,bG]
  obtain ⟨a,PA',pn,R,ha,m,g,Mp⟩:=y.at (i:=i) o
  refine ⟨⟨o,o⟩,⟨o,o⟩,a,ha,o,o,_,_,_,by rw [aY];exact m,?_⟩
  have aa:=Mp.tenP_le
  have f:∀ c∈l.take (l.length-19*2^i),F7 c:=fun c m=>p c (cP m)
  have d:∀ c∈l.drop (l.length-19*2^i),F7 c:=fun c m=>p c (List.mem_of_mem_drop m)
  have ac:(l.take (l.length-19*2^i)).length=l.length-19*2^i:=gz0
  have u:(l.drop (l.length-19*2^i)).length=19*2^i:=gz0
  have E:I0 l=I0 (l.take (l.length-19*2^i))*Gb i+I0 (l.drop (l.length-19*2^i)):=by
   have:=Ch (l.take (l.length-19*2^i)) (l.drop (l.length-19*2^i))
   rw [cN,u] at this
   exact this
  have M:=Rc p
  have B:=Rc f
  have x:=Rc d
  refine ih i o f o (y.take o) o o ?_
  intro A1 n1 c1 D t G M1
  refine ⟨_,_,_,rfl,t,?_⟩
  have N:=M1.len_le dc B
  refine F9 M1 (Mp.mono t) G g o o ?_
  intro A2 n2 c2 h2 z k2 M2
  refine ⟨_,_,_,rfl,z,⟨o,o⟩,⟨o,o⟩,?_⟩
  have X:=M2.len_le dc (Int.lt_of_le_of_lt (Int.ofNat_le.2 o) M)
  rw [aI o]
  refine ih i o d o ((y.mono (B0 t z)).take o) o o ?_
  intro A3 n3 c3 h3 w O M3
  refine ⟨_,_,_,rfl,w,?_⟩
  have T:=M3.len_le dc x
  refine O1 (M2.mono w) M3 k2 O o o ?_
  intro A4 n4 c4 h4 F k4 M4
  refine ⟨_,_,_,rfl,F,Q _ _ _ _ (B0 t (B0 z (B0 w F))) k4 ?_⟩
  grind
section
variable {h g:aL} {K:VP} {A XA:Option aJ} {n c:Nat} {eT:aP} {l:List UInt8}
def Si{hs:aL}{ss:List (Option aJ × Nat × Nat)}{s:Option aJ × Nat × Nat}(h3:∀ i s,ss[i]? = some s->s.2.1<=s.2.2/\Mw hs s.1 s.2.1 (Gb i:Int))(h4:s.2.1<=s.2.2/\Mw hs s.1 s.2.1 (Gb ss.length:Int)):∀ i t,(ss++[s])[i]? = some t->t.2.1<=t.2.2/\Mw hs t.1 t.2.1 (Gb i:Int):=by
 grind
def Ps{hs:aL}{b:Nat}{e:aP}: ∀ i (t:Option aJ × Nat × Nat),[((some ⟨b,0,none⟩:Option aJ),1,1)][i]? = some t->t.2.1<=t.2.2/\Mw (hs.put b (.cells #[U 10000000000000000000] e)) t.1 t.2.1 (Gb i:Int):=by
 intro i t a
 rcases i with _|i
 ·simp at a
  subst a
  refine ⟨aR _,[10000000000000000000],rfl,SlI.new _ _ _ _ _,?_,?_,?_⟩
  ·intro x c;grind
  ·unfold Norm;simp
  rfl
 grind
def Ll(hd:∀ c∈l,F7 c)(hl:l.length<=140737488351232)(hK:∀ A n c h',h.le h'->n<=c->Mw h' A n (I0 l:Int)->K (.slice A n c) h'):aF prog 185 #[.string (bs l)] h K:=by
 refine (fnk func185 [(4,[3],[],[.slice none 0 0])]) ?_
 rw [G1]
 refine B6 (fun h5=>?_) (fun _=>?_)
 ·refine T6 L7 rfl ?_
  intro q w
  refine ⟨_,_,_,rfl,?_⟩
  refine Ab Xt (Priv.nil _ _ _ none) rfl rfl o o ?_
  intro A1 c1 h1 R m Q
  refine ⟨fun s t=>∃ (d:List (Option aJ × Nat × Nat)) (PA:Option aJ) (k u:Nat) (g:aL),s=[.slice PA k u]/\bW t g 89 1 PA k u (d.map slT)/\d.length=k/\0<k/\h.le g/\(∀ i s,d[i]? = some s->s.2.1<=s.2.2/\Mw g s.1 s.2.1 (Gb i:Int))/\2^(k-1)<=l.length,fun s _=>match s with|[.slice _ n _]=>l.length-n|_=>0,⟨[(some ⟨q,0,none⟩,1,1)],A1,1,c1,R,rfl,Q,rfl,o,B0 (Heap.le_put _ w) m,fun i s e=>⟨(Ps (hs:=h) (b:=q) (e:=230) i s e).1,(Ps (hs:=h) (b:=q) (e:=230) i s e).2.mono m⟩,o⟩,?_⟩
  rintro PA k u t ⟨d,PA',k',N,g,hs,p,z,O,y,j,H⟩
  obtain ⟨rfl,rfl,rfl⟩:=hs
  have E:k-1<47:=by
   by_cases f:k-1<47
   ·exact f
   ·have:2^47<=2^(k-1):=aH dc o
    omega
  rw [aC,A7m (show k<=50 from o)]
  have W:B9 ((k:Int)-1)=((k-1:Nat):Int):=by rw [B7 o o];omega
  have x:Pws t PA k:=⟨d,z,p.slV,fun i s e=>⟨(j i s e).1,(j i s e).2.mono p.le⟩⟩
  refine B6 (fun e=>absurd e o) (fun _=>B6 (fun T=>?_) (fun T=>?_))
  ·obtain ⟨a,X,f⟩:=p.slV.at (i:=k-1) gz0
   rw [List.getElem_map] at f
   obtain ⟨B,M⟩:=j (k-1) (d[k-1]'o) (bH o)
   generalize d[k-1]'o=s at *
   dsimp only;rw [W]
   refine ⟨a,X,o,o,_,_,_,by rw [aC,aY];exact f,?_⟩
   have C:=M.tenP_le
   have L:2^k=2*2^(k-1):=by rw [<- Nat.pow_succ',show (k-1).succ=k from o]
   refine p.call ?_
   refine F9 M M B B o o ?_
   intro A2 F c2 g2 D V M2 h2 G
   refine ⟨_,_,_,rfl,?_⟩
   refine Ab Xt G rfl rfl o o ?_
   intro A3 S h3 g3 r p3
   refine ⟨⟨d++[(A2,F,c2)],A3,k+1,S,g3,rfl,?_,gz0,o,B0 y (B0 D r),?_,?_⟩,?_⟩
   ·grind
   ·refine Si (fun i s e=>⟨(j i s e).1,(j i s e).2.mono (B0 D r)⟩) ⟨V,?_⟩
    rw [z,show Gb k=Gb (k-1)*Gb (k-1) by rw [<- Sh];grind,bI]
    exact M2.mono r
   ·grind
   grind
  ·refine Dp k hd hl x p.2.1 o ?_
   intro A n c h' l1 f M
   exact ⟨_,_,_,rfl,hK _ _ _ _ (B0 y (B0 p.le l1)) f M⟩
 ·refine Dp 0 hd hl ⟨[],rfl,SlV.nil,by simp⟩ o o ?_
  grind
def Em(hd:∀ c∈l,F7 c)(hl:l.length<=140737488351232)(hK:∀ A n c h',h.le h'->ZI h' false A n c (I0 l:Int)->K (.agg #[.bool false,.slice A n c]) h'):aF prog 116 #[.string (bs l)] h K:=by
 refine (fnk func116 (own:=[2])) ?_
 refine Ll hd hl ?_
 intro A n c h' b a M
 refine ⟨_,_,_,rfl,hK _ _ _ _ b ⟨a,?_,?_⟩⟩
 ·assumption
 rfl
end
def Priv.le_put'{h g:aL}{e:aP}{s:Nat}{A:Option aJ}{n c:Nat}{xs:List bV}(p:bW h g e s A n c xs){b:Nat}(hb:h b=none)(o:Obj):g.le (g.put b o):=by
 intro k f d
 have a:k≠b:=by
  rintro rfl
  rw [p.le k f d] at hb;cases hb
 rw [B8 _ _ a];exact d
def A0v{n:Int}(h0:9223372036854775808<=n)(h1:n<18446744073709551616):B9 n=n-18446744073709551616:=by
 unfold B9 IntKind.wrap
 simp only [IntKind.signed,IntKind.bits]
 grind
section
variable {h g:aL} {K:VP} {A XA:Option aJ} {n c:Nat} {eT:aP} {l:List UInt8}
def B1v{v xn:Nat}(hv:(v:Int)<b64^xn):(dd v).length<=20*xn:=by
 refine N5.2 ?_
 rw [cX]
 have a:((v:Nat):Int)<((18446744073709551616^xn:Nat):Int):=by assumption
 exact aQ (Int.ofNat_lt.1 a) (cR dc _)
def Cs{xn xc v:Nat}(gp:Gp g)(p:bW h g eT 1 A n c (yv l))(M:Mw g XA xn (v:Int))(hxc:xn<=xc)(hx:xn<=10000000)(hn:n<=200000000)
 (hK:∀ A' n' c' e3 g' h',Ext g eT A n c l (K7 v) A' n' c' e3 g' h'->K (.slice A' n' c') h'):aF prog 190 #[.slice A n c,.slice XA xn xc] h K:=by
 have h0:=M.len_zero dc
 refine (fnk func190 [(6,[5],[],[.slice none 0 0])]) ?_
 refine D5 (fun e=>?_) (fun e=>?_)
 ·obtain rfl:v=0:=o
  refine Cc (ch:=48) rfl p o ?_
  assumption
 ·have R:v≠0:=o
  refine D5 (fun X=>?_) (fun X=>?_)
  ·obtain ⟨xs,N,sx,dx,nx,G⟩:=M
   obtain ⟨w,rfl⟩:∃ w,xs=[w]:=by
    rcases xs with _|⟨w,_|⟨w',r⟩⟩
    ·grind
    ·grind
    grind
   rw [Q9] at G
   subst G
   refine (SlI.mono p.le sx).load N o o ?_
   have t:=dx v (by simp)
   refine Cr (gp.mono p.le) p gz0 o ?_
   grind
  ·have al:=B1v (M.lt dc)
   have af:(pad 0 v).length<=200000000:=by rw [Yj];omega
   refine T6 L7 rfl ?_
   intro B H
   refine ⟨_,_,_,rfl,?_⟩
   have p1:=p.put H (.cells #[U 10000000000000000000] 230)
   have l1:=p.le_put' H (.cells #[U 10000000000000000000] 230)
   have w1:=fun i s e=>Ps (hs:=g) (b:=B) (e:=230) i s e
   generalize h.put B (Obj.cells #[U 10000000000000000000] 230)=h1 at *
   generalize g.put B (Obj.cells #[U 10000000000000000000] 230)=g1 at *
   refine T6 Xt rfl ?_
   intro b2 S
   refine ⟨_,_,_,rfl,?_⟩
   have split:∀ {y:aL} {m:List (Option aJ × Nat × Nat)} {PA:Option aJ} {k u:Nat} {f d:aL},bW y f 89 1 PA k u (m.map slT)->bW f d eT 1 A n c (yv l)->m.length=k->g.le d->(∀ i s,m[i]? = some s->s.2.1<=s.2.2/\Mw d s.1 s.2.1 (Gb i:Int))->k<=26->
    aF prog 238 #[.slice A n c,.slice XA xn xc,I (0:Int),.slice PA k u] y (fun r aa=>∃ (A1:Option aJ) (n1 c1:Nat),r= .slice A1 n1 c1/\K (.slice A1 n1 c1) aa):=by
    intro y m PA k u f d z C E D t j
    obtain ⟨g3,O,q⟩:=z.swap C
    have F:=B0 D q.le
    refine Kb k (W:=0) (gp.mono F) O (M.mono F) hxc hx ⟨m,E,q.slV,fun i s e=>⟨(t i s e).1,(t i s e).2.mono q.le⟩⟩ q.2.1 j (.inl rfl) o ?_
    intro A' n' c' e2 g' h' x
    refine ⟨_,_,_,rfl,hK _ _ _ e2 g' _ ?_⟩
    rw [Yj,<- Z1 R] at x
    exact x.weak F
   refine ⟨fun s y=>∃ (m:List (Option aJ × Nat × Nat)) (PA:Option aJ) (k u:Nat) (f d:aL),s=[.slice PA k u]/\bW y f 89 1 PA k u (m.map slT)/\bW f d eT 1 A n c (yv l)/\m.length=k/\0<k/\g.le d/\(∀ i s,m[i]? = some s->s.2.1<=s.2.2/\Mw d s.1 s.2.1 (Gb i:Int))/\2^(k-1)<=2*xn,fun s _=>match s with|[.slice _ n _]=>xn-n|_=>0,⟨[(some ⟨B,0,none⟩,1,1)],_,1,1,h1,g1,rfl,⟨by simp,by simp,.inr ⟨b2,[.slice (some ⟨B,0,none⟩) 1 1],rfl,S,rfl,by simp,by simp⟩⟩,p1,rfl,o,l1,w1,o⟩,?_⟩
   rintro PA k u y ⟨m,PA',k',ah,f,d,hs,z,C,E,ai,D,t,ak⟩
   obtain ⟨rfl,rfl,rfl⟩:=hs
   have j:k<=26:=by
    by_cases L:k<=26
    ·exact L
    ·have h1:2^26<=2^(k-1):=aH dc o
     omega
   refine B6 (fun aj=>?_) (fun _=>split z C E D t j)
   have X:B9 ((k:Int)-1)=((k-1:Nat):Int):=by rw [B7 o o];omega
   obtain ⟨a,ha,L⟩:=z.slV.at (i:=k-1) gz0
   rw [List.getElem_map] at L
   obtain ⟨h4,Mk⟩:=t (k-1) (m[k-1]'o) (bH o)
   generalize m[k-1]'o=s at *
   simp only [X,aC,aY]
   refine ⟨a,ha,o,o,_,_,_,L,?_⟩
   have ae:=Mk.tenP_ge
   have am:=Mk.tenP_le
   have e2:B9 (2*(s.2.1:Int))=2*(s.2.1:Int):=B7 o o
   refine B6 (fun h5=>?_) (fun _=>split z C E D t j)
   refine ⟨a,ha,o,o,_,_,_,L,?_⟩
   refine z.call (C.call ?_)
   refine F9 Mk Mk h4 h4 o o ?_
   intro A2 m2 c2 g2 l2 k2 M2 ad ac ag T
   refine ⟨_,_,_,rfl,?_⟩
   refine Ab Xt T rfl rfl o o ?_
   intro A3 c3 h3 g3 F p3
   obtain ⟨g4,Q,V⟩:=ac.after F
   have hm:2^k=2*2^(k-1):=by
    obtain ⟨i,rfl⟩:∃ i,k=i+1:=⟨k-1,o⟩
    grind
   refine ⟨⟨m++[(A2,m2,c2)],A3,k+1,c3,g3,g4,rfl,?_,V,gz0,o,B0 D (B0 l2 Q),?_,?_⟩,?_⟩
   ·rw [cZ];exact p3
   ·refine Si (fun i s e=>⟨(t i s e).1,(t i s e).2.mono (B0 l2 Q)⟩) ⟨k2,?_⟩
    rw [E,show Gb k=Gb (k-1)*Gb (k-1) by rw [<- Sh];grind,bI]
    exact M2.mono Q
   ·grind
   omega
def A4c{z:Int}{s:Bool}{xn xc m:Nat}(i:ZI h s XA xn xc z)(hz:ZB m z)(hm:m<=100000000):xn<=10000000:=by
 obtain ⟨k,hk⟩:∃ k,k=10000000:=⟨_,rfl⟩
 rw [<- hk]
 refine i.mag.len_le dc ?_
 rw [Fo]
 have a:(z.natAbs:Int)<2^m:=by
  have:((z.natAbs:Nat):Int)<((2^m:Nat):Int):=Int.ofNat_lt.2 hz
  assumption
 have b:=C8 (B:=2) dc (show m<=64*k from o)
 omega
def Df{s:Bool}{xn xc:Nat}{z:Int}(gp:Gp g)(p:bW h g eT 1 A n c (yv l))(i:ZI g s XA xn xc z){m:Nat}(hz:ZB m z)(hm:m<=100000000)(hn:n<=100000000)
 (hK:∀ A' n' c' e3 g' h',Ext g eT A n c l (Ej z) A' n' c' e3 g' h'->K (.slice A' n' c') h'):aF prog 129 #[.agg #[.bool s,.slice XA xn xc],.slice A n c] h K:=by
 have d:=A4c i hz hm
 refine (fnk func129 (own:=[2])) ?_
 refine Br.of (fun e=>?_) (fun e=>?_)
 ·have a:z<0:=by have:=i.sgn;grind
  rw [Kj a] at hK
  refine Cc (ch:=45) rfl p o ?_
  intro A1 u c1 t r f b
  have:=b.len
  refine Cs (gp.mono b.le) b.priv (i.mag.mono b.le) i.cap d gz0 ?_
  intro A2 x c2 w q k j
  exact ⟨_,_,_,rfl,hK _ _ _ _ _ _ (b.trans j)⟩
 ·have a:¬ z<0:=by have:=i.sgn;grind
  rw [Gk a] at hK
  refine Cs gp p i.mag i.cap d o ?_
  grind
def Dd{s:Bool}{xn xc:Nat}{z:Int}(gp:Gp h)(i:ZI h s XA xn xc z){m:Nat}(hz:ZB m z)(hm:m<=100000000)(hK:K (.string (bs (Ej z))) h):aF prog 69 #[.agg #[.bool s,.slice XA xn xc]] h K:=by
 refine FCall.pure ((fnk func69 (own:=[1])) ?_)
 refine Df (l:=[]) (eT:=5) gp (Priv.nil _ _ _ _) i hz hm o ?_
 intro A' a c e d b x
 refine ⟨_,_,_,rfl,?_⟩
 have f:=x.len
 refine Ek Ao.und X4 P0 x.priv.slV gz0 ⟨_,rfl,?_⟩
 exact ⟨B0 x.le x.priv.le,hK⟩
def Vf{s:Bool}{xn xc:Nat}{z:Int}(i:ZI h s XA xn xc z)(hK1: -9223372036854775808<=z->z<9223372036854775808->K (.tuple #[I z,.bool true]) h)(hK0:¬ (-9223372036854775808<=z/\z<9223372036854775808)->K (.tuple #[I 0,.bool false]) h):aF prog 127 #[.agg #[.bool s,.slice XA xn xc]] h K:=by
 have y:=i.zeroIff
 have l:=Au i.sgn
 refine (fnk func127 (own:=[1])) ?_
 refine D5 (fun e=>?_) (fun e=>?_)
 ·grind
 ·obtain ⟨g,a,m,x,u,b⟩:=i.mag
  refine m.load a o o ?_
  rw [show ((0:Int)).toNat=0 from rfl]
  refine B6 (fun k=>?_) (fun k=>?_)
  ·refine hK0 ?_
   have j:=i.mag.ge dc o
   have t:b64^1<=b64^(xn-1):=C8 dc o
   grind
  ·obtain ⟨w,rfl⟩:∃ w,g=[w]:=by
    rcases g with _|⟨w,_|⟨q,r⟩⟩
    ·grind
    ·grind
    grind
   rw [Q9] at b
   have p:[w].getD 0 0=w:=rfl
   rcases l with ⟨rfl,n⟩|⟨rfl,n⟩
   ·refine Br.of (fun _=>?_) (fun f=>by cases f)
    refine B6 (fun c=>?_) (fun c=>?_)
    ·have:B9 (C3 (0-w))=z:=by rw [D9,A0v o o];omega
     grind
    ·refine Br.of (fun d=>by cases d) (fun _=>?_)
     grind
   ·refine Br.of (fun f=>by cases f) (fun _=>?_)
    refine Br.of (fun _=>?_) (fun d=>by cases d)
    refine B6 (fun c=>?_) (fun c=>?_)
    ·have:B9 w=z:=by rw [B7 o o];omega
     grind
    grind
end
def Py(q:Rat)(f:Int):(q-f).num=q.num-f*q.den/\(q-f).den=q.den:=by
 have b:aS (q.num-f*q.den).natAbs q.den=1:=by
  have a:aT (q.num-f*q.den) q.den=aT q.num q.den:=Int.gcd_sub_mul_right_left _ _ _
  have c:aT q.num q.den=1:=by
   have:=q.reduced
   assumption
  rw [c] at a
  assumption
 have e:q-f=⟨q.num-f*q.den,q.den,q.den_nz,b⟩:=by
  rw [Rat.sub_def',Rat.mk_eq_mkRat];simp
 grind
def Hl{r:Rat}(h:0<r):r⁻¹.num=r.den/\(r⁻¹.den:Int)=r.num/\0<r⁻¹:=by
 have a:0<r.num:=by
  have:=aX 0 r
  simp_all
 refine ⟨?_,?_,Rat.inv_pos.2 h⟩
 ·rw [Rat.num_inv,aM a,Int.one_mul]
 ·rw [Rat.den_inv,iN o];omega
def Yn{r:Rat}(h:0<r):0<r.num:=by
 have:=aX 0 r
 simp_all
def Dv{q:Rat}{f:Int}(h1:(f:Rat)<q)(h2:q<f+1):(q-f)⁻¹.num=q.den/\((q-f)⁻¹.den:Int)=q.num-f*q.den/\(q-f)⁻¹.den<q.den/\1<(q-f)⁻¹:=by
 have j:0<q-f:=gz0
 have i:q-f<1:=gz0
 obtain ⟨a,b,c⟩:=Hl j
 obtain ⟨d,e⟩:=Py q f
 have g:=(aX (q-f) 1).1 i
 simp only [Rat.one_num,Rat.one_den] at g
 rw [e] at a g
 rw [d] at b g
 refine ⟨a,b,o,?_⟩
 rw [aX]
 simp_all
def Pe(q:Rat):(q<=q.ceil)/\((q.ceil:Rat)<q+1)/\((q.floor:Rat)<=q)/\(q<q.floor+1):=by
 refine ⟨Rat.le_ceil,Rat.ceil_lt,Rat.floor_le q,?_⟩
 have:=Rat.lt_floor_add_one q
 grind
def Un{q:Rat}(h:(q.floor:Rat)<q):q.ceil=q.floor+1:=by
 obtain ⟨f,c,i,e⟩:=Pe q
 have a:(q.floor:Rat)<(q.ceil:Rat):=gz0
 have b:(q.ceil:Rat)<((q.floor+2:Int):Rat):=by
  grind
 have d:=Rat.intCast_lt_intCast.1 a
 have g:=Rat.intCast_lt_intCast.1 b
 omega
def Wz{q:Rat}(h:¬ (q.floor:Rat)<q):(q.ceil:Rat)=q/\(q.floor:Rat)=q:=by
 have a:=Rat.floor_le q
 have e:(q.floor:Rat)=q:=Rat.le_antisymm a (Rat.not_lt.1 h)
 refine ⟨?_,e⟩
 have:q.ceil=q.floor:=by
  conv=>lhs;rw [<- e]
  rfl
 grind
def A2l{lo hi:Rat}(h:¬ ((lo.ceil:Rat)<=hi\/¬ lo<=hi)):(lo.floor:Rat)<lo/\lo<=hi/\hi<lo.floor+1:=by
 have b:¬ (lo.ceil:Rat)<=hi:=fun e=>h (.inl e)
 have c:lo<=hi:=by
  grind
 by_cases a:(lo.floor:Rat)<lo
 ·refine ⟨a,c,?_⟩
  have:=Un a
  rw [this,Rat.intCast_add,Rat.not_le] at b
  omega
 ·exfalso
  rw [(Wz a).1] at b
  grind
def Dc(lo hi:Rat):Rat:=
 if _h:(lo.ceil:Rat)<=hi\/¬ lo<=hi then lo.ceil else lo.floor+(Dc (hi-lo.floor)⁻¹ (lo-lo.floor)⁻¹)⁻¹
termination_by lo.den+hi.den
decreasing_by
 obtain ⟨a,b,c⟩:=A2l _h
 have d:=(Dv a (Std.lt_of_le_of_lt b c)).2.2.1
 have e:=(Dv (Std.lt_of_lt_of_le a b) c).2.2.1
 omega
def Lb{lo hi:Rat}(h:(lo.ceil:Rat)<=hi):Dc lo hi=lo.ceil:=by
 rw [Dc,dif_pos (.inl h)]
def Il{lo hi:Rat}(h:¬ (lo.ceil:Rat)<=hi)(h2:lo<=hi):Dc lo hi=lo.floor+(Dc (hi-lo.floor)⁻¹ (lo-lo.floor)⁻¹)⁻¹:=by
 rw [Dc,dif_neg (fun e=>e.elim h (fun e=>e h2))]
def V8{a b:Rat}(ha:0<a)(h:a<=b):b⁻¹<=a⁻¹:=by
 have g:0<b:=Std.lt_of_lt_of_le ha h
 obtain ⟨e,d,_⟩:=Hl ha
 obtain ⟨c,f,_⟩:=Hl g
 have:=(Rat.le_iff a b).1 h
 rw [Rat.le_iff,e,d,c,f]
 grind
def Sp:∀ n (lo hi:Rat),lo.den+hi.den<=n->0<lo->lo<=hi->(lo<=Dc lo hi/\Dc lo hi<=hi)/\∀ y,lo<=y->y<=hi->(Dc lo hi).den<=y.den/\(Dc lo hi).num<=y.num:=by
 intro n
 induction n with
 | zero=>intro lo hi h;have:=lo.den_nz;omega
 | succ n ih=>
  intro lo hi Q q i
  by_cases h:(lo.ceil:Rat)<=hi
  ·rw [Lb h]
   refine ⟨⟨(Pe lo).1,h⟩,?_⟩
   intro y j l
   have t:0<y:=Std.lt_of_lt_of_le q j
   refine ⟨by rw [Rat.den_intCast];have:=y.den_nz;omega,?_⟩
   rw [Rat.num_intCast,Rat.ceil_le_iff]
   refine Rat.le_trans j ?_
   rw [Rat.le_iff,Rat.num_intCast,Rat.den_intCast]
   have r:=Yn t
   have m:1<=(y.den:Int):=by have:=y.den_nz;omega
   have:=bU m (dJ r)
   omega
  ·obtain ⟨a,b,c⟩:=A2l (fun e=>e.elim h (fun e=>e i))
   rw [Il h i]
   generalize hf:lo.floor=f at *
   have k:0<=f:=by
    have:(-1:Int)<lo.floor:=by
     have H:(0:Int)<=lo.floor:=Rat.le_floor_iff.2 gz0
     omega
    omega
   obtain ⟨S,T,L,M⟩:=Dv a (Std.lt_of_le_of_lt b c)
   obtain ⟨z,R,E,W⟩:=Dv (Std.lt_of_lt_of_le a b) c
   have d:(hi-f)⁻¹<=(lo-f)⁻¹:=V8 gz0 gz0
   obtain ⟨⟨w,p⟩,u⟩:=ih (hi-f)⁻¹ (lo-f)⁻¹ o gz0 d
   generalize hx:Dc (hi-f)⁻¹ (lo-f)⁻¹=x at *
   have g:0<x:=gz0
   obtain ⟨V,N,B⟩:=Hl g
   have A:=V8 (show 0<(hi-f)⁻¹ from gz0) w
   have X:=V8 g p
   refine ⟨⟨gz0,gz0⟩,?_⟩
   have s:((f:Rat)+x⁻¹).den=x⁻¹.den/\((f:Rat)+x⁻¹).num=x⁻¹.num+f*x⁻¹.den:=by
    have:=Py (x⁻¹) (-f)
    grind
   intro y j l
   obtain ⟨C,y2,F,O⟩:=Dv (Std.lt_of_lt_of_le a j) (Std.lt_of_le_of_lt l c)
   obtain ⟨G,D⟩:=u (y-f)⁻¹ (V8 gz0 gz0) (V8 gz0 gz0)
   refine ⟨o,?_⟩
   have:=bU (show (x⁻¹.den:Int)<=y.den from o) k
   omega
def A4y{lo hi:Rat}(h0:0<lo)(h:lo<=hi):lo<=Dc lo hi/\Dc lo hi<=hi:=(Sp _ lo hi (aR _) h0 h).1
def Xw{m:Nat}{lo hi:Rat}(h0:0<lo)(h:lo<=hi)(hs:Sz m lo):Sz m (Dc lo hi):=by
 obtain ⟨⟨a,_⟩,b⟩:=Sp _ lo hi (aR _) h0 h
 obtain ⟨d,c⟩:=b lo Rat.le_refl h
 have:=Yn (Std.lt_of_lt_of_le h0 a)
 exact ⟨hs.num.le o,hs.den.le o⟩
def A1m(lo hi:Rat):Rat:=if hi<0 then -Dc (-hi) (-lo) else if lo<=0 then 0 else Dc lo hi
def A2q(a b:Rat):(a*b).num=a.num.tdiv (aS a.num.natAbs b.den:Nat)*b.num.tdiv (aS b.num.natAbs a.den:Nat)/\(a*b).den=a.den/(aS b.num.natAbs a.den)*(b.den/(aS a.num.natAbs b.den)):=by
 show (Rat.mul a b).num=_/\(Rat.mul a b).den=_
 delta Rat.mul
 simp only [Int.divExact_eq_tdiv,Nat.divExact_eq_div,and_self]
def Pj(a b:Rat)(h:a.den.gcd b.den=1):(a+b).num=a.num*b.den+b.num*a.den/\(a+b).den=a.den*b.den:=by
 show (dC a b).num=_/\(dC a b).den=_
 delta dC
 grind
def Pi(a b:Rat)(h:a.den.gcd b.den≠1){g r:Nat}{z:Int}(hg:g=a.den.gcd b.den)(hz:z=a.num*(b.den/g:Nat)+b.num*(a.den/g:Nat))(hr:r=z.natAbs.gcd g):(a+b).num=z.tdiv r/\(a+b).den=a.den/g*(b.den/r):=by
 subst hg hz
 have c:r∣b.den:=by rw [hr];exact Nat.dvd_trans (cC ..) (cC ..)
 show (dC a b).num=_/\(dC a b).den=_
 delta dC
 simp only [h,dif_neg,not_false_eq_true]
 rw [Rat.maybeNormalize_eq]
 subst hr
 refine ⟨?_,Nat.mul_div_assoc _ c⟩
 simp only [Int.divExact_eq_tdiv]
def Hw(a:Rat)(z:Int):(a+z).num=z*a.den+a.num/\(a+z).den=a.den:=by
 have:=Py a (-z)
 have e:a - -(z:Rat)=a+z:=gz0
 grind
def Pa{q:Rat}(h:q.den=1):q=(q.num:Rat):=by
 apply Rat.ext
 ·simp
 assumption
abbrev dgt(c:UInt8):Bool:=decide (F7 c)
def Gq(l:List UInt8):∀ c∈l.takeWhile dgt,F7 c:=by
 induction l with
 | nil=>simp
 | cons d r ih=>
  intro c b
  by_cases a:F7 d
  ·simp [a] at b
   grind
  simp_all
def A5f(l:List UInt8):Bool:=decide ([45] <+: l)
def Ey(l:List UInt8):List UInt8:=if [45] <+: l then l.drop 1 else l
def Yh(l:List UInt8):l=(if A5f l then [45] else [])++Ey l:=by
 unfold A5f Ey
 by_cases h:[45] <+: l
 ·obtain ⟨t,rfl⟩:=h;simp
 grind
def A2b(l:List UInt8):A5f l=(l.head? == some 45):=by
 unfold A5f
 cases l with
 | nil=>simp
 | cons c r=>
  grind
def Form.parts{l:List UInt8}{neg:Bool}{a b:List UInt8}(f:Form l neg a b):neg=A5f l/\a=(Ey l).takeWhile dgt/\(if b=[] then [] else 47::b)=(Ey l).dropWhile dgt:=by
 have j:neg=A5f l:=by rw [A2b];exact f.head
 have e:=Yh l
 have i:=e.symm.trans f.eq
 have g:∀ c,(if b=[] then [] else 47::b:List UInt8).head? = some c->¬ F7 c:=by
  intro c d
  split at d
  ·grind
  ·simp at d;subst d;decide
 have:=Bw f.da g
 grind
section
variable {h g:aL} {K:VP} {l:List UInt8}
def Fe(hl:l.length<=1000000000000000)(hK:K (.tuple #[.string (bs (l.takeWhile dgt)),.string (bs (l.dropWhile dgt))]) h):aF prog 184 #[.string (bs l)] h K:=by
 refine (fnk func184 [(2,[4],[],[I 0])] (cs:=[(4,[4],[],[I 0])])) ?_
 simp only [G1]
 refine ⟨fun L d=>L=[I (((l.takeWhile dgt).length:Nat):Int)]/\d=h,?_,?_⟩
 ·refine ⟨fun L d=>∃ k:Nat,L=[I k]/\d=h/\k<=l.length/\(∀ c∈l.take k,F7 c),fun L _=>l.length-(iAt L 0).toNat,⟨0,rfl,rfl,o,by simp⟩,?_⟩
  rintro n d ⟨k,x,rfl,z,f⟩
  obtain rfl:n=(k:Int):=gz0
  have a:(∀ c,(l.drop k).head? = some c->¬ F7 c)->[I (k:Int)]=[I (((l.takeWhile dgt).length:Nat):Int)]/\d=d:=by
   intro w
   have:=Bw f w
   simp_all
  refine B6 (fun s=>?_) (fun s=>?_)
  ·have g:k<l.length:=o
   have b:(bs l)[(k:Int).toNat]? = some l[k]:=by rw [aC,Nd,bH g]
   have q:(l.drop k).head? = some l[k]:=by simp_all
   refine ⟨l[k],⟨o,b⟩,B6 (fun j=>?_) (fun j=>?_)⟩
   ·refine ⟨l[k],⟨o,b⟩,B6 (fun r=>?_) (fun r=>?_)⟩
    ·rw [B7 o o]
     refine ⟨⟨k+1,rfl,rfl,o,?_⟩,by simp only [iAt,aE];omega⟩
     rw [bM g]
     intro c e
     rcases List.mem_append.1 e with m|m
     ·grind
     ·rw [List.mem_singleton.1 m];exact ⟨o,o⟩
    ·exact a (fun c e=>by rw [q] at e;cases e;intro f;exact r (by have:=f.2;omega))
   ·exact a (fun c e=>by rw [q] at e;cases e;intro f;exact j (by have:=f.1;omega))
  grind
 ·rintro n d ⟨x,rfl⟩
  obtain rfl:n=(((l.takeWhile dgt).length:Nat):Int):=gz0
  have t:(l.takeWhile dgt).length<=l.length:=(List.takeWhile_sublist _).length_le
  have i:l.take (l.takeWhile dgt).length=l.takeWhile dgt:=by
   conv=>lhs;rw [<- bN (p:=dgt) (l:=l)]
   rw [bN,List.prefix_iff_eq_take.1 (List.takeWhile_prefix _)]
   grind
  have y:l.drop (l.takeWhile dgt).length=l.dropWhile dgt:=by
   have u:l.takeWhile dgt++l.drop (l.takeWhile dgt).length=l.takeWhile dgt++l.dropWhile dgt:=by
    rw [bN]
    conv=>lhs;lhs;rw [<- i]
    exact cN _ _
   exact List.append_cancel_left u
  refine ⟨⟨o,o⟩,⟨o,o⟩,?_⟩
  rw [aC,K0,K0,bB,bG,i,y,aI gz0]
  exact hK
def R9(a:List UInt8):((bs a).toList==({ data:=#[] }:ByteArray).toList)=decide (a=[]):=Fg a []
def Ik(hl:l.length<=1000000000000000)(hK1:∀ neg a b,Form l neg a b->K (.tuple #[.agg #[.bool neg,.string (bs a),.string (bs b)],.bool true]) h)(hK0:(∀ neg a b,¬ Form l neg a b)->∀ neg a b,K (.tuple #[.agg #[.bool neg,.string (bs a),.string (bs b)],.bool false]) h):aF prog 115 #[.string (bs l)] h K:=by
 refine (fnk func115 (cs:=[(8,[31],[],[.bool false])]) (own:=[2,4])) ?_
 refine Ob (q:=[45]) ⟨_,_,rfl,?_⟩
 have aa:(Ey l).length<=l.length:=by unfold Ey;grind
 show aF prog 184 #[.string (bs (Ey l))] h _
 refine Fe o ⟨_,_,rfl,?_⟩
 show Br _ _ _
 have x:Ey l=(Ey l).takeWhile dgt++(Ey l).dropWhile dgt:=List.takeWhile_append_dropWhile.symm
 have z:∀ c∈(Ey l).takeWhile dgt,F7 c:=Gq _
 have j:∀ neg a b,Form l neg a b->neg=A5f l/\a=(Ey l).takeWhile dgt/\(if b=[] then [] else 47::b)=(Ey l).dropWhile dgt:=fun neg a b f=>f.parts
 have F:=Yh l
 show Br _ _ _
 have A:decide ([45] <+: l)=A5f l:=rfl
 rw [A]
 generalize A5f l=neg at *
 generalize (Ey l).takeWhile dgt=a at *
 generalize (Ey l).dropWhile dgt=r at *
 generalize Ey l=t at *
 subst x
 have M:((bs a).toList==({ data:=#[48] }:ByteArray).toList)=decide (a=[48]):=Fg a [48]
 rw [M,R9,R9]
 refine B6 (fun R=>?_) (fun R=>?_)
 ·subst R
  refine Br.not (Br.of (fun hn=>?_) (fun hn=>?_))
  ·refine hK0 ?_ _ _ []
   intro B p g f
   obtain ⟨rfl,rfl,_⟩:=j _ _ _ f
   rcases f.ha with d|d
   ·grind
   grind
  ·subst hn
   by_cases X:r=[]
   ·subst X
    refine hK1 false [48] [] ⟨by assumption,o,by simp,by simp,.inr ⟨rfl,rfl,rfl⟩,by simp,by simp⟩
   ·rw [decide_eq_false X]
    refine hK0 ?_ _ _ []
    intro B p g f
    obtain ⟨rfl,rfl,w⟩:=j _ _ _ f
    rcases f.ha with d|d
    ·grind
    grind
 ·refine ⟨fun L V=>L=[.bool (decide (a=[]\/a.head? = some 48))]/\V=h,?_,?_⟩
  ·refine B6 (fun d=>⟨by simp [d],rfl⟩) (fun d=>?_)
   obtain ⟨c,i,rfl⟩:=aZ d
   refine ⟨c,⟨o,by rfl⟩,?_,rfl⟩
   congr 2
   rw [cM,beq_iff_eq,decide_eq_true_iff]
   simp only [reduceCtorEq,false_or,dA,aV]
   constructor
   ·intro e;apply UInt8.toNat_inj.1;grind
   ·rintro rfl;rfl
  rintro G V ⟨hL,rfl⟩
  obtain rfl:G=decide (a=[]\/a.head? = some 48):=gz0
  refine B6 (fun d=>?_) (fun d=>?_)
  ·refine hK0 ?_ _ _ []
   intro B p g f
   obtain ⟨rfl,rfl,_⟩:=j _ _ _ f
   rcases d with d|d
   ·exact f.ne d
   ·rcases f.ha with w|w
    ·grind
    grind
  ·have k:a≠[]:=fun e=>d (.inl e)
   have u:a.head? ≠ some 48:=fun e=>d (.inr e)
   refine B6 (fun w=>?_) (fun w=>?_)
   ·exact hK1 neg a [] ⟨gz0,z,by simp,k,.inl u,by simp,by simp⟩
   ·obtain ⟨c,i,rfl⟩:=aZ w
    refine ⟨c,⟨o,by rfl⟩,G7 (fun Q=>?_) (fun Q=>?_)⟩
    ·refine hK0 ?_ _ _ []
     intro B p g f
     obtain ⟨rfl,rfl,m⟩:=j _ _ _ f
     by_cases D:g=[]
     ·grind
     ·rw [iN D] at m
      simp at m
      exact Q (by rw [<- m.1];rfl)
    ·have hc:c=47:=by apply UInt8.toNat_inj.1;grind
     subst hc
     refine ⟨⟨o,by rw [G1];grind⟩,?_⟩
     rw [K0,show ((1:Int)).toNat=1 from rfl,G1,aI (by simp),List.drop_succ_cons,bB]
     refine Fe gz0 ⟨_,_,rfl,?_⟩
     have T:i=i.takeWhile dgt++i.dropWhile dgt:=List.takeWhile_append_dropWhile.symm
     have E:∀ c∈i.takeWhile dgt,F7 c:=Gq _
     have O:∀ g:List UInt8,(∀ c∈g,F7 c)->g=i->i.takeWhile dgt=g/\i.dropWhile dgt=[]:=by
      intro g hd e
      have:=Bw (r:=[]) hd (by simp)
      grind
     generalize i.takeWhile dgt=b at *
     generalize i.dropWhile dgt=s at *
     have no:(s≠[]\/b=[]\/b.head? = some 48\/b=[49])->∀ neg' p g,¬ Form (((if neg=true then [45] else [])++(a++47::i))) neg' p g:=by
      rintro y B p g f
      rw [<- F] at f
      obtain ⟨rfl,rfl,m⟩:=j _ _ _ f
      by_cases D:g=[]
      ·grind
      ·rw [iN D] at m
       simp at m
       obtain ⟨e6,e7⟩:=O g f.db m
       subst e6
       rcases y with n|n|n|n
       ·grind
       ·grind
       ·exact f.hb n
       ·exact f.b1 n
     rw [R9,R9]
     have H:((bs b).toList==({ data:=#[49] }:ByteArray).toList)=decide (b=[49]):=Fg b [49]
     rw [H]
     refine B6 (fun n=>?_) (fun n=>hK0 gz0 _ _ _)
     refine Br.not (B6 (fun S=>hK0 gz0 _ _ _) (fun S=>?_))
     obtain ⟨c,C,rfl⟩:=aZ S
     refine ⟨c,⟨o,by rfl⟩,G7 (fun W=>?_) (fun W=>?_)⟩
     ·by_cases N:c::C=[49]
      ·rw [decide_eq_true N]
       exact hK0 gz0 _ _ _
      ·rw [decide_eq_false N]
       refine hK1 neg a (c::C) ⟨gz0,z,E,k,.inl u,?_,N⟩
       intro e;simp at e;exact W (by rw [e];rfl)
     ·have hh:(c::C).head? = some 48:=by
       simp only [dA,aV]
       apply UInt8.toNat_inj.1;grind
      grind
end
def A66:(prog.info? 170).map (fun i=>i.zero)=some (some (.agg (bK 48 (.int .u8 0)))):=by kernel_rfl
def Uj{x y:Int}(hy:0<y):(bY x y).num=x.tdiv (aT x y)/\((bY x y).den:Int)=y.tdiv (aT x y):=by
 have b:(aT x y:Int)∣x:=Int.gcd_dvd_left ..
 have a:(aT x y:Int)∣y:=Int.gcd_dvd_right ..
 constructor
 ·rw [Rat.num_divInt,aM hy,Int.one_mul,Int.gcd_comm,dH b]
 ·rw [Rat.den_divInt,iN o,Int.gcd_comm,Int.natCast_ediv,Int.natAbs_of_nonneg o,dH a]
def Pq{q:Rat}(h:q.den=1):H1 q=Ej q.num:=by unfold H1;grind
def Sc{q:Rat}(h:q.den≠1):H1 q=Ej q.num++[47]++Ej (q.den:Int):=by
 unfold H1;rw [iN h,Gk (i:=(q.den:Int)) o,cU];simp
section
variable {h g:aL} {K:VP} {l:List UInt8}
def B2c{k:Nat}(h:k<=18):10^k<=1000000000000000000:=bL (aH dc h) dc
def Cq(hd:∀ c∈l,F7 c)(hl:l.length<=18)(hK:K (I (I0 l:Int)) h):aF prog 182 #[.string (bs l)] h K:=by
 refine (fnk func182 [(3,[3,7],[],[I 0,I 0])]) ?_
 simp only [G1]
 refine ⟨fun L f=>∃ k:Nat,L=[I (I0 (l.take k):Int),I k]/\f=h/\k<=l.length,fun L _=>l.length-(iAt L 1).toNat,⟨0,rfl,rfl,o⟩,?_⟩
 rintro n r f ⟨k,j,rfl,m⟩
 obtain ⟨rfl,rfl⟩:=j
 refine B6 (fun g=>?_) (fun g=>?_)
 ·have a:k<l.length:=o
  have d:=hd l[k] (cG a)
  have b:=Ae (l:=l.take (k+1)) (fun c i=>hd c (cP i))
  rw [bO,cK o] at b
  have q:=B2c (k:=k+1) o
  have p:I0 (l.take (k+1))=10*I0 (l.take k)+(l[k].toNat-48):=by rw [bM a,Dt]
  unfold F7 at d
  refine ⟨l[k],⟨o,by rw [aC,Nd,bH a]⟩,?_⟩
  have e:B9 (B9 (10*((I0 (l.take k):Nat):Int))+B9 (wu8 (((l[k].toNat:Nat):Int)-48)))=((I0 (l.take (k+1)):Nat):Int):=by
   rw [Of o o,B7 (n:=((l[k].toNat:Nat):Int)-48) o o,B7 (n:=10*((I0 (l.take k):Nat):Int)) o o,B7 o o]
   omega
  rw [e,B7 (n:=(k:Int)+1) o o]
  exact ⟨⟨k+1,rfl,rfl,o⟩,by simp only [iAt,aE,aG];omega⟩
 grind
def Sg{a b:Nat}(hK:K (I (aS a b:Int)) h):aF prog 130 #[I (a:Int),I (b:Int)] h K:=by
 refine (fnk func130 [(1,[0,1],[],[I 0,I 0])]) ?_
 refine ⟨fun L c=>∃ x y:Nat,L=[I x,I y]/\c=h/\aS x y=aS a b,fun L _=>(iAt L 1).toNat,⟨a,b,rfl,rfl,rfl⟩,?_⟩
 rintro i g c ⟨x,y,l,rfl,k⟩
 obtain ⟨rfl,rfl⟩:i=(x:Int)/\g=(y:Int):=gz0
 refine G7 (fun d=>?_) (fun d=>?_)
 ·have j:y≠0:=o
  refine B6 (fun e=>absurd e d) (fun _=>?_)
  have f:=Nat.mod_lt x (Nat.pos_of_ne_zero j)
  refine ⟨⟨y,x%y,rfl,rfl,?_⟩,by assumption⟩
  rw [<- k,Nat.gcd_comm x y,Nat.gcd_rec y x,Nat.gcd_comm]
 simp_all
def Aa(hK1:∀ q,l=H1 q->q.num.natAbs<1000000000->q.den<1000000000->K (.tuple #[.agg #[I q.num,I (q.den:Int)],.bool true]) h)(hK0:K (.tuple #[.agg #[I 0,I 0],.bool false]) h):aF prog 114 #[.string (bs l)] h K:=by
 refine (fnk func114 (cs:=[(5,[29],[],[.bool false]),(11,[],[(2,2),(6,2)],[I 0,I 0,I 0,I 0]),(13,[],[(6,2)],[I 0,I 0])]) (own:=[2,4,6])) ?_
 rw [G1]
 refine B6 (fun _=>hK0) (fun M=>?_)
 refine Ik o ?_ ?_
 ·intro neg a b f
  refine ⟨_,_,_,_,rfl,?_⟩
  simp only [G1]
  refine ⟨fun L i=>L=[.bool (decide (a.length>9\/b.length>9))]/\i=h,Br.of (fun e=>by cases e) (fun _=>B6 (fun n=>⟨?_,rfl⟩) (fun n=>⟨?_,rfl⟩)),?_⟩
  ·grind
  ·by_cases y:b.length>9
   ·grind
   grind
  rintro g i ⟨A,rfl⟩
  obtain rfl:g=decide (a.length>9\/b.length>9):=gz0
  refine B6 (fun _=>hK0) (fun n=>?_)
  have r:(Ka neg a).natAbs=I0 a:=by unfold Ka;omega
  have B:=Ae f.da
  have t:=Ae f.db
  have E:∀ k,k<=9->10^k<=1000000000:=fun k w=>bL (aH dc w) dc
  have D:=E a.length o
  refine Cq f.da o ⟨_,rfl,?_⟩
  refine ⟨fun L d=>L=[I 0,I 0,I (I0 a:Int),I (Gc b:Int)]/\d=i/\aS (I0 a) (Gc b)=1,?_,?_⟩
  ·rw [R9]
   refine Br.not (B6 (fun s=>?_) (fun s=>?_))
   ·subst s;exact ⟨rfl,rfl,by unfold Gc;simp⟩
   ·refine Cq f.db o ⟨_,rfl,Sg ⟨_,rfl,G7 (fun _=>hK0) (fun H=>?_)⟩⟩
    have F:Gc b=I0 b:=by unfold Gc;grind
    grind
  ·rintro C z G O j ⟨m,rfl,u⟩
   obtain ⟨_,_,rfl,rfl⟩:=m
   obtain ⟨q,x⟩:=f.isNum.2 u
   have c:=f.of_txt x
   have p:Gc b<1000000000:=by unfold Gc;grind
   refine ⟨fun L d=>L=[I q.num,I (q.den:Int)]/\d=j,Br.of (fun e=>?_) (fun e=>?_),?_⟩
   ·rw [c.1,c.2,e,B7 o o]
    exact ⟨by unfold Ka;simp,rfl⟩
   ·rw [c.1,c.2,e]
    exact ⟨by rfl,rfl⟩
   grind
 ·intro N neg a b
  refine ⟨_,_,_,_,rfl,?_⟩
  refine ⟨fun L i=>L=[.bool true]/\i=h,Br.not ⟨rfl,rfl⟩,?_⟩
  rintro g i ⟨A,rfl⟩
  obtain rfl:g=true:=gz0
  exact Br.of (fun _=>hK0) (fun e=>by cases e)
def S7{l':List UInt8}(hK1:∀ p q,l=H1 p->l'=H1 q->p.num.natAbs<1000000000->p.den<1000000000->q.num.natAbs<1000000000->q.den<1000000000->K (.tuple #[.agg #[I p.num,I (p.den:Int)],.agg #[I q.num,I (q.den:Int)],.bool true]) h)(hK0:K (.tuple #[.agg #[I 0,I 0],.agg #[I 0,I 0],.bool false]) h):aF prog 65 #[.string (bs l),.string (bs l')] h K:=by
 refine (fnk func65 (own:=[4,5,7,9])) ?_
 refine Aa ?_ ⟨_,_,_,rfl,Br.not hK0⟩
 intro p a e c
 refine ⟨_,_,_,rfl,Br.not ?_⟩
 refine Aa ?_ ⟨_,_,_,rfl,Br.not hK0⟩
 intro q b f d
 exact ⟨_,_,_,rfl,Br.not (hK1 p q a b e c f d)⟩
def O7{num den:Int}(gp:Gp h)(hd:den≠0)(h1:num.natAbs<4000000000000000000)(h2:den.natAbs<4000000000000000000)(hK:K (.string (bs (H1 (bY num den)))) h):aF prog 66 #[I num,I den] h K:=by
 refine FCall.pure ((fnk func66 (cs:=[(3,[0,1],[],[I 0,I 0]),(6,[0,1],[],[I 0,I 0])]) (wr:=[132])) ?_)
 refine ⟨fun L t=>t=h/\∃ n d:Int,L=[I n,I d]/\0<d/\bY n d=bY num den/\n.natAbs=num.natAbs/\d.natAbs=den.natAbs,B6 (fun j=>⟨rfl,-num,-den,?_,o,Rat.neg_divInt_neg num den,o,o⟩) (fun j=>⟨rfl,num,den,rfl,o,rfl,rfl,rfl⟩),?_⟩
 ·rw [B7 o o,B7 o o,Int.zero_sub,Int.zero_sub]
 rintro f m t ⟨rfl,n,d,M,p,H,hn,T⟩
 obtain ⟨rfl,rfl⟩:=M
 rw [<- H] at hK
 have g:=Uj (x:=f) p
 have O:=Hq (a:=f) (b:=m) o
 generalize bY f m=q at *
 refine ⟨fun L s=>s=t/\L=[I q.num,I (q.den:Int)],G7 (fun j=>?_) (fun j=>?_),?_⟩
 ·have z:(if (B9 (0-f))>f then B9 (0-f) else f)=((f.natAbs:Nat):Int):=by
   rw [B7 o o];omega
  obtain ⟨k,rfl⟩:∃ k:Nat,m=k:=⟨m.toNat,o⟩
  rw [z]
  refine Sg ⟨_,rfl,?_⟩
  have V:0<aS f.natAbs k:=Nat.gcd_pos_of_pos_right _ o
  refine B6 (fun e=>o) (fun _=>B6 (fun e=>o) (fun _=>⟨rfl,?_⟩))
  have A:cV f ((aS f.natAbs k:Nat):Int)=q.num:=g.1.symm
  have e4:cV (k:Int) ((aS f.natAbs k:Nat):Int)=(q.den:Int):=g.2.symm
  rw [A,e4,B7 o o,B7 o o]
 ·subst j
  have F:aT f 1=1:=by simp
  rw [F] at g
  grind
 rintro n2 d2 l ⟨rfl,w⟩
 obtain ⟨rfl,rfl⟩:=w
 refine D5 (fun j=>?_) (fun j=>?_)
 ·rw [Pq o] at hK
  exact Fd gp o o ⟨_,rfl,B4 _,hK⟩
 ·rw [Sc o] at hK
  refine Z7 A66 ?_
  intro b D
  refine ⟨_,rfl,⟨o,o⟩,?_⟩
  have W:bW (l.put b (.cells (aD 48 (aO .u8 0)).toArray 170)) l 170 1 (some ⟨b,0,none⟩) 0 48 (yv []):=⟨by simp [yv],o,.inr ⟨b,aD 48 (aO .u8 0),rfl,D,rfl,by simp,by simp [yv]⟩⟩
  refine Fh gp W o o o ?_
  intro A1 aa c1 z g1 R u
  refine ⟨_,_,_,rfl,?_⟩
  have X:(Ej q.num).length<=20:=by
   unfold Ej
   have:(K7 q.num.natAbs).length<=19:=(Hr dc).2 (aQ (show q.num.natAbs<10000000000000000000 from o) dc)
   grind
  have N:=u.len
  refine Cc (ch:=47) rfl u.priv o ?_
  intro A2 C c2 e2 g2 Q y
  have i:=u.trans y
  have r:=i.len
  rw [aK,cO] at r
  refine Fh (gp.mono i.le) y.priv o o o ?_
  intro A3 G c3 A g3 S E
  refine ⟨_,_,_,rfl,?_⟩
  have c:=i.trans E
  have B:=c.len
  refine Ek Ao.und X4 P0 c.priv.slV gz0 ⟨_,rfl,?_⟩
  refine ⟨B0 c.le c.priv.le,?_⟩
  assumption
end
structure RQ (h:aL) (w:QV) (q:Rat):Prop where
 num:ZI h w.s w.A w.n w.c q.num
 den:ZI h w.s2 w.A2 w.n2 w.c2 (if q.den=1 then 0 else (q.den:Int))
def ZB.gcd{m:Nat}{x y:Int}(hy:y≠0)(h:ZB m y):ZB m (aT x y:Int):=by
 refine h.le ?_
 exact dF o (Int.natAbs_dvd_natAbs.2 (Int.gcd_dvd_right x y))
def A7l{x y a b:Int}(ha:0<a)(hb:0<b)(hs:x.sign≠y.sign):Bf (x*a) (y*b)=Bf x y:=by
 have c:(x*a).sign=x.sign:=by rw [Int.sign_mul,aM ha,Int.mul_one]
 have d:(y*b).sign=y.sign:=by rw [Int.sign_mul,aM hb,Int.mul_one]
 have key:∀ u v:Int,u.sign≠v.sign->(u<v↔u.sign<v.sign)/\(v<u↔v.sign<u.sign):=by
  grind
 have e:=key x y hs
 have f:=key (x*a) (y*b) o
 unfold Bf
 omega
section
variable {h h':aL} {K:VP} {A B:Option aJ} {n c n' c':Nat} {s s':Bool} {x y z:Int} {m:Nat} {p q:Rat} {a b w:QV} {l:List UInt8}
def RQ.mono(hl:h.le h')(i:RQ h w q):RQ h' w q:=⟨i.num.mono hl,i.den.mono hl⟩
def RQ.whole(i:ZI h s A n c z):RQ h ⟨s,A,n,c,false,none,0,0⟩ (z:Rat):=⟨by assumption,by simpa using ZI.zero⟩
def RQ.zero:RQ h ⟨false,none,0,0,false,none,0,0⟩ 0:=⟨ZI.zero,ZI.zero⟩
def J9(i:RQ h w q)(hK:K (.bool (decide (q.den=1))) h):aF prog 121 #[.agg #[.bool w.s2,.slice w.A2 w.n2 w.c2]] h K:=by
 refine F3 i.den ?_
 have:=q.den_nz
 simp_all
def O9(i:ZI h s A n c z)(j:ZI h s' B n' c' y)(h1:q.num=z)(h2:(q.den:Int)=y)(hK:∀ w,RQ h w q->K w.v h):aF prog 123 #[.agg #[.bool s,.slice A n c],.agg #[.bool s',.slice B n' c']] h K:=by
 subst h1 h2
 refine (fnk func123 (own:=[2,3,4])) ?_
 refine M0 j ⟨_,rfl,B6 (fun e=>?_) (fun e=>?_)⟩
 ·exact hK ⟨s,A,n,c,false,none,0,0⟩ ⟨i,by rw [iP o];exact ZI.zero⟩
 ·exact hK ⟨s,A,n,c,s',B,n',c'⟩ ⟨i,gz0⟩
def Ay(i:RQ h w q)(hK:∀ s A n c h',h.le h'->ZI h' s A n c (q.den:Int)->K (.agg #[.bool s,.slice A n c]) h'):aF prog 124 #[w.v] h K:=by
 refine (fnk func124 (own:=[1,2])) ?_
 refine J9 i ⟨_,rfl,B6 (fun e=>?_) (fun e=>?_)⟩
 ·refine Al dc dc ?_
  grind
 ·have:=i.den
  rw [iN e] at this
  exact hK _ _ _ _ _ (B4 _) this
def Nc(gl:Gtz h)(i:ZI h s A n c x)(j:ZI h s' B n' c' y)(hx:ZB m x)(hy:ZB m y)(hm:m<=6400000000)(hy0:0<y)(hK:∀ s1 A1 n1 c1 s2 A2 n2 c2 h',h.le h'->ZI h' s1 A1 n1 c1 (x.tdiv (aT x y))->ZI h' s2 A2 n2 c2 (y.tdiv (aT x y))->K (.tuple #[.agg #[.bool s1,.slice A1 n1 c1],.agg #[.bool s2,.slice A2 n2 c2]]) h'):aF prog 147 #[.agg #[.bool s,.slice A n c],.agg #[.bool s',.slice B n' c']] h K:=by
 refine (fnk func147 (os:=[(4,[0,1,3,4,2,5,6,7])]) (own:=[2,3,4,5,6])) ?_
 refine M0 j ⟨_,rfl,B6 (fun e=>?_) (fun e=>?_)⟩
 ·subst e
  have k:aT x 1=1:=by simp
  rw [k] at hK
  exact hK _ _ _ _ _ _ _ _ _ (B4 _) gz0 (by assumption)
 ·refine W8 gl i j hx hy o ?_
  intro A1 n1 c1 u d g
  have k:=Int.gcd_pos_of_ne_zero_right x (show y≠0 from o)
  have a:ZB m (aT x y:Int):=ZB.gcd o hy
  refine ⟨_,_,_,_,rfl,L9 (i.mono d) g hx a hm o ?_⟩
  intro s2 A2 n2 c2 r b p
  refine ⟨_,_,_,_,rfl,b,L9 (j.mono (B0 d b)) (g.mono b) hy a hm o ?_⟩
  intro q A3 z t w f l
  exact ⟨_,_,_,_,rfl,f,hK _ _ _ _ _ _ _ _ _ (B0 d (B0 b f)) (p.mono f) l⟩
def Ol(i:RQ h w q)(hK:∀ w',RQ h w' (-q)->K w'.v h):aF prog 140 #[w.v] h K:=by
 refine A9d _ _ _ _ _ _ _ _ ?_
 refine P8 i.num ?_
 intro a b
 exact ⟨_,_,_,_,rfl,B4 _,hK ⟨a,w.A,w.n,w.c,w.s2,w.A2,w.n2,w.c2⟩ ⟨by assumption,by simpa using i.den⟩⟩
def Bz(i:RQ h w q)(hK:K (I q.num.sign) h):aF prog 135 #[w.v] h K:=by
 refine A6a _ _ _ _ _ _ _ _ ?_
 exact Ak i.num ⟨_,rfl,hK⟩
def Sv(i:RQ h w q)(hK:K (.bool (decide (q=0))) h):aF prog 61 #[w.v] h K:=by
 refine (fnk func61 (own:=[1])) ?_
 refine F3 i.num ⟨_,rfl,?_⟩
 simp_all
def Oo(gl:Gtz h)(i:RQ h a p)(j:RQ h b q)(hp:Sz m p)(hq:Sz m q)(hm:2*m+1<=6400000000)(hK:∀ w h',h.le h'->RQ h' w (p+q)->K w.v h'):aF prog 72 #[a.v,b.v] h K:=by
 have aq:=q.den_nz
 have M:∀ {z:Int},ZB m z->ZB (2*m+1) z:=fun A=>A.mono o
 refine A9g _ _ _ _ _ _ _ _ _ _ _ _ _ _ _ _ ?_
 refine ⟨fun L hp=>L=[.bool (decide (p.den=1/\q.den=1))]/\hp=h,J9 i ⟨_,rfl,B6 (fun e=>?_) (fun e=>?_)⟩,?_⟩
 ·exact J9 j ⟨_,rfl,by simp [e],rfl⟩
 ·grind
 rintro af ai ⟨hL,rfl⟩
 obtain rfl:af=decide (p.den=1/\q.den=1):=gz0
 refine B6 (fun e=>?_) (fun e=>?_)
 ·refine Dg i.num j.num hp.num hq.num o ?_
  intro s1 A1 n1 c1 h1 k W
  refine ⟨_,_,_,_,rfl,hK ⟨s1,A1,n1,c1,false,none,0,0⟩ _ k ?_⟩
  have:=RQ.whole W
  rw [Rat.intCast_add,<- Pa e.1,<- Pa e.2] at this
  exact this
 ·refine ⟨fun L hp=>L=[.bool (decide (p.den=1))]/\hp=ai,J9 i ⟨_,rfl,rfl,rfl⟩,?_⟩
  rintro ad au ⟨hL,rfl⟩
  obtain rfl:ad=decide (p.den=1):=gz0
  refine B6 (fun N=>?_) (fun N=>?_)
  ·have al:q.den≠1:=fun V=>e ⟨N,V⟩
   have jd:=j.den
   rw [iN al] at jd
   refine J3 i.num jd hp.num hq.den o ?_
   intro s1 A1 n1 c1 h1 k W
   refine ⟨_,_,_,_,rfl,k,Dg (m:=2*m+1) W (j.num.mono k) ((hp.num.mul hq.den).mono o) (M hq.num) o ?_⟩
   intro s2 A2 n2 c2 h2 l i2
   have c:=Hw q p.num
   rw [<- Pa N,Rat.add_comm] at c
   refine ⟨_,_,_,_,rfl,l,hK ⟨s2,A2,n2,c2,b.s2,b.A2,b.n2,b.c2⟩ _ (B0 k l) ⟨gz0,?_⟩⟩
   rw [c.2]
   exact j.den.mono (B0 k l)
  ·refine J9 j ⟨_,rfl,B6 (fun V=>?_) (fun V=>?_)⟩
   ·have f:=i.den
    rw [iN N] at f
    refine J3 j.num f hq.num hp.den o ?_
    intro s1 A1 n1 c1 h1 k W
    refine ⟨_,_,_,_,rfl,k,Dg (m:=2*m+1) W (i.num.mono k) ((hq.num.mul hp.den).mono o) (M hp.num) o ?_⟩
    intro s2 A2 n2 c2 h2 l i2
    have c:=Hw p q.num
    rw [<- Pa V] at c
    refine ⟨_,_,_,_,rfl,l,hK ⟨s2,A2,n2,c2,a.s2,a.A2,a.n2,a.c2⟩ _ (B0 k l) ⟨gz0,?_⟩⟩
    rw [c.2]
    exact i.den.mono (B0 k l)
   ·have f:=i.den
    have s:=j.den
    rw [iN N] at f
    rw [iN V] at s
    refine W8 gl f s hp.den hq.den o ?_
    intro A1 n1 c1 h1 k E
    rw [cI] at E
    obtain ⟨g,hg⟩:∃ g,g=p.den.gcd q.den:=⟨_,rfl⟩
    rw [<- hg] at E
    have ae:0<g:=gz0
    have ac:g∣q.den:=by rw [hg];exact cC ..
    have u:ZB m (g:Int):=hq.den.le (by simpa using dF o ac)
    refine ⟨_,_,_,_,rfl,L9 (s.mono k) E hq.den u o o ?_⟩
    intro s2 A2 n2 c2 h2 l il
    rw [<- bF] at il
    refine ⟨_,_,_,_,rfl,l,L9 (f.mono (B0 k l)) (E.mono l) hp.den u o o ?_⟩
    intro s3 A3 n3 c3 h3 H ir
    rw [<- bF] at ir
    have D:ZB m ((q.den/g:Nat):Int):=hq.den.le (by exact aU _ _)
    have t:ZB m ((p.den/g:Nat):Int):=hp.den.le (by exact aU _ _)
    have C:=B0 k (B0 l H)
    refine ⟨_,_,_,_,rfl,H,J3 (i.num.mono C) (il.mono H) hp.num D o ?_⟩
    intro s4 A4 n4 c4 h4 B i4
    refine ⟨_,_,_,_,rfl,B,J3 (j.num.mono (B0 C B)) (ir.mono B) hq.num t o ?_⟩
    intro s5 A5 n5 c5 h5 F i5
    refine ⟨_,_,_,_,rfl,F,Dg (m:=2*m) (i4.mono F) i5 ((hp.num.mul D).mono o) ((hq.num.mul t).mono o) o ?_⟩
    intro s6 A6 n6 c6 h6 T G
    obtain ⟨z,A⟩:∃ z,z=p.num*((q.den/g:Nat):Int)+q.num*((p.den/g:Nat):Int):=⟨_,rfl⟩
    rw [<- A] at G
    have O:ZB (2*m+1) z:=by
     rw [A]
     exact ((hp.num.mul D).mono (show m+m<=2*m from o)).add ((hq.num.mul t).mono (show m+m<=2*m from o))
    have d:=B0 C (B0 B (B0 F T))
    refine ⟨_,_,_,_,rfl,T,F3 G ⟨_,rfl,B6 (fun Q=>?_) (fun Q=>?_)⟩⟩
    ·have:p+q=0:=by
      rw [<- cY]
      by_cases aa:p.den.gcd q.den=1
      ·have:=(Pj p q aa).1
       grind
      ·have:=(Pi p q aa hg A rfl).1
       rw [this,Q];simp
     rw [this] at hK
     exact hK ⟨false,none,0,0,false,none,0,0⟩ _ d RQ.zero
    ·refine M0 (E.mono (B0 l (B0 H (B0 B (B0 F T))))) ⟨_,rfl,B6 (fun ag=>?_) (fun ag=>?_)⟩
     ·have n:g=1:=o
      have c:=Pj p q o
      rw [n,Nat.div_one,Nat.div_one] at A
      refine J3 (f.mono d) (s.mono d) hp.den hq.den o ?_
      intro s7 A7 n7 c7 h7 x R
      refine ⟨_,_,_,_,rfl,x,O9 (q:=p+q) (G.mono x) R o o ?_⟩
      intro w iw
      exact ⟨_,_,_,_,_,_,_,_,rfl,B4 _,hK _ _ (B0 d x) iw⟩
     ·have n:p.den.gcd q.den≠1:=o
      obtain ⟨r,hr⟩:∃ r,r=z.natAbs.gcd g:=⟨_,rfl⟩
      have c:=Pi p q n hg A hr
      have ar:0<r:=gz0
      have av:r<=g:=by rw [hr];exact dF ae (cC ..)
      have ak:=E.mono (B0 l (B0 H (B0 B (B0 F T))))
      refine W8 (gl.mono d) G ak O (M u) o ?_
      intro A7 n7 c7 h7 x R
      have e7:aT z (g:Int)=r:=hr.symm
      rw [e7] at R
      have X:ZB m (r:Int):=u.le o
      refine ⟨_,_,_,_,rfl,L9 (G.mono x) R O (M X) hm o ?_⟩
      intro s8 A8 n8 c8 h8 S i8
      refine ⟨_,_,_,_,rfl,S,L9 (s.mono (B0 d (B0 x S))) (R.mono S) hq.den X o o ?_⟩
      intro s9 A9 n9 c9 h9 l9 i9
      rw [<- bF] at i9
      have aj:ZB m ((q.den/r:Nat):Int):=hq.den.le (by exact aU _ _)
      refine ⟨_,_,_,_,rfl,l9,J3 (ir.mono (B0 B (B0 F (B0 T (B0 x (B0 S l9)))))) i9 t aj o ?_⟩
      intro an A10 ap am ao y ah
      refine ⟨_,_,_,_,rfl,y,O9 (q:=p+q) (i8.mono (B0 l9 y)) ah c.1 o ?_⟩
      intro w iw
      exact ⟨_,_,_,_,_,_,_,_,rfl,B4 _,hK _ _ (B0 d (B0 x (B0 S (B0 l9 y)))) iw⟩
def Zm(gl:Gtz h)(i:RQ h a p)(j:RQ h b q)(hp:Sz m p)(hq:Sz m q)(hm:2*m+1<=6400000000)(hK:∀ w h',h.le h'->RQ h' w (p-q)->K w.v h'):aF prog 73 #[a.v,b.v] h K:=by
 refine A9c _ _ _ _ _ _ _ _ _ _ _ _ _ _ _ _ ?_
 refine Ol j ?_
 intro d c
 refine ⟨_,_,_,_,_,_,_,_,rfl,B4 _,Oo gl i c hp hq.neg hm ?_⟩
 grind
end
structure Gl (h:aL):Prop where
 tz:Gtz h
 p10:Gp h
def Gl.mono{h h':aL}(g:Gl h)(l:h.le h'):Gl h':=⟨g.tz.mono l,g.p10.mono l⟩
section
variable {h h':aL} {K:VP} {A B:Option aJ} {n c n' c':Nat} {s s':Bool} {x y z:Int} {m:Nat} {p q:Rat} {a b w:QV} {l:List UInt8}
def Om(gl:Gtz h)(i:RQ h a p)(j:RQ h b q)(hp:Sz m p)(hq:Sz m q)(hm:m<=6400000000)(hK:∀ w h',h.le h'->RQ h' w (p*q)->K w.v h'):aF prog 79 #[a.v,b.v] h K:=by
 have W:=p.den_nz
 have S:=q.den_nz
 refine A9e _ _ _ _ _ _ _ _ _ _ _ _ _ _ _ _ ?_
 refine ⟨fun L hp=>L=[.bool (decide (p.num=0\/q.num=0))]/\hp=h,F3 i.num ⟨_,rfl,B6 (fun e=>?_) (fun e=>?_)⟩,?_⟩
 ·grind
 ·exact F3 j.num ⟨_,rfl,by simp [e],rfl⟩
 rintro n t ⟨O,rfl⟩
 obtain rfl:n=decide (p.num=0\/q.num=0):=gz0
 refine B6 (fun e=>?_) (fun e=>?_)
 ·have:p*q=0:=by
   rw [cY,cY] at e
   grind
  rw [this] at hK
  exact hK ⟨false,none,0,0,false,none,0,0⟩ _ (B4 _) RQ.zero
 ·refine ⟨fun L hp=>L=[.bool (decide (p.den=1/\q.den=1))]/\hp=t,J9 i ⟨_,rfl,B6 (fun e=>?_) (fun e=>?_)⟩,?_⟩
  ·exact J9 j ⟨_,rfl,by simp [e],rfl⟩
  ·grind
  rintro l H ⟨O,rfl⟩
  obtain rfl:l=decide (p.den=1/\q.den=1):=gz0
  refine B6 (fun e=>?_) (fun e=>?_)
  ·refine J3 i.num j.num hp.num hq.num o ?_
   intro B A1 C c1 N f V
   refine ⟨_,_,_,_,rfl,hK ⟨B,A1,C,c1,false,none,0,0⟩ _ f ?_⟩
   have:=RQ.whole V
   rw [Rat.intCast_mul,<- Pa e.1,<- Pa e.2] at this
   exact this
  ·have r:=A2q p q
   refine Ay j ?_
   intro B A1 C c1 N f R
   refine ⟨_,_,_,_,rfl,f,Nc (gl.mono f) (i.num.mono f) R hp.num hq.den hm o ?_⟩
   intro s2 A2 n2 c2 s3 A3 n3 c3 h2 D z u
   have c:=B0 f D
   refine ⟨_,_,_,_,_,_,_,_,rfl,D,Ay (i.mono c) ?_⟩
   intro s4 A4 n4 c4 h4 d y
   refine ⟨_,_,_,_,rfl,d,Nc (gl.mono (B0 c d)) (j.num.mono (B0 c d)) y hq.num hp.den hm o ?_⟩
   intro s5 A5 n5 c5 s6 A6 n6 c6 h5 g A x
   have X:aT p.num (q.den:Int)=aS p.num.natAbs q.den:=rfl
   have Q:aT q.num (p.den:Int)=aS q.num.natAbs p.den:=rfl
   rw [X] at z u
   rw [Q] at A x
   rw [<- bF] at u x
   refine ⟨_,_,_,_,_,_,_,_,rfl,g,J3 (z.mono (B0 d g)) A hp.num.tdiv hq.num.tdiv o ?_⟩
   intro s7 A7 n7 c7 h7 k M
   have F:ZB m ((p.den/aS q.num.natAbs p.den:Nat):Int):=hp.den.le (by exact aU _ _)
   have T:ZB m ((q.den/aS p.num.natAbs q.den:Nat):Int):=hq.den.le (by exact aU _ _)
   refine ⟨_,_,_,_,rfl,k,J3 (x.mono k) (u.mono (B0 d (B0 g k))) F T o ?_⟩
   intro s8 A8 n8 c8 h8 s G
   refine ⟨_,_,_,_,rfl,s,O9 (q:=p*q) (M.mono s) G r.1 o ?_⟩
   intro w E
   exact ⟨_,_,_,_,_,_,_,_,rfl,B4 _,hK _ _ (B0 c (B0 d (B0 g (B0 k s)))) E⟩
def Qe(i:RQ h w q)(hK:∀ w h',h.le h'->RQ h' w q⁻¹->K w.v h'):aF prog 62 #[w.v] h K:=by
 refine (fnk func62 (os:=[(5,[0,3,4,1,2,5,6,7]),(6,[0,2,3,1,4,5])]) (own:=[1,2])) ?_
 refine Ak i.num ⟨_,rfl,D5 (fun e=>?_) (fun e=>?_)⟩
 ·have:q⁻¹=0:=by simp_all
  rw [this] at hK
  exact hK ⟨false,none,0,0,false,none,0,0⟩ _ (B4 _) RQ.zero
 ·have g:q.num≠0:=fun r=>e gz0
  refine D5 (fun f=>?_) (fun f=>?_)
  ·have j:q.num<0:=Int.sign_neg_iff.1 o
   refine Ay i ?_
   intro p A1 l c1 n a c
   refine ⟨_,_,_,_,rfl,a,P8 c ?_⟩
   intro t m
   refine ⟨_,_,_,_,rfl,B4 _,P8 (i.num.mono a) ?_⟩
   intro s k
   refine ⟨_,_,_,_,rfl,B4 _,O9 (q:=q⁻¹) m k ?_ ?_ ?_⟩
   ·rw [Rat.num_inv,f];omega
   ·rw [Rat.den_inv,iN g];omega
   ·intro w d
    exact ⟨_,_,_,_,_,_,_,_,rfl,B4 _,hK _ _ a d⟩
  ·have b:0<q.num:=by
    grind
   refine Ay i ?_
   intro p A1 l c1 n a c
   refine ⟨_,_,_,_,rfl,a,O9 (q:=q⁻¹) c (i.num.mono a) ?_ ?_ ?_⟩
   ·rw [Rat.num_inv,aM b,Int.one_mul]
   ·rw [Rat.den_inv,iN g];omega
   ·intro w d
    exact ⟨_,_,_,_,_,_,_,_,rfl,B4 _,hK _ _ a d⟩
def Zo(gl:Gtz h)(i:RQ h a p)(j:RQ h b q)(hp:Sz m p)(hq:Sz m q)(hm1:1<=m)(hm:m<=6400000000)(hK:∀ w h',h.le h'->RQ h' w (p/q)->K w.v h'):aF prog 67 #[a.v,b.v] h K:=by
 refine A9f _ _ _ _ _ _ _ _ _ _ _ _ _ _ _ _ ?_
 refine Qe j ?_
 intro g l c e
 refine ⟨_,_,_,_,_,_,_,_,rfl,c,Om (gl.mono c) (i.mono c) e hp (hq.inv hm1) hm ?_⟩
 intro n k d f
 exact ⟨_,_,_,_,_,_,_,_,rfl,d,hK _ _ (B0 c d) f⟩
def Jo(i:RQ h w q)(hq:Sz m q)(hm:m+1<=6400000000)(hK:∀ s A n c h',h.le h'->ZI h' s A n c q.floor->K (.agg #[.bool s,.slice A n c]) h'):aF prog 68 #[w.v] h K:=by
 have d:=q.den_nz
 refine (fnk func68 (own:=[1,2])) ?_
 rw [Rat.floor_def] at hK
 refine J9 i ⟨_,rfl,B6 (fun e=>?_) (fun e=>?_)⟩
 ·rw [e] at hK
  exact hK _ _ _ _ _ (B4 _) (by simpa using i.num)
 ·have a:=i.den
  rw [iN e] at a
  refine Nt i.num a hq.num hq.den hm o ?_
  intro k A1 g c1 j f b
  exact ⟨_,_,_,_,rfl,hK _ _ _ _ _ f b⟩
def Zp(i:RQ h w q)(hq:Sz m q)(hm:m+1<=6400000000)(hK:∀ s A n c h',h.le h'->ZI h' s A n c q.ceil->K (.agg #[.bool s,.slice A n c]) h'):aF prog 119 #[w.v] h K:=by
 refine (fnk func119 (own:=[1,2])) ?_
 refine Ol i ?_
 intro f b
 refine ⟨_,_,_,_,_,_,_,_,rfl,Jo b hq.neg hm ?_⟩
 intro j A2 l c2 k d e
 refine ⟨_,_,_,_,rfl,P8 e ?_⟩
 intro g a
 rw [<- dD] at a
 exact ⟨_,_,_,_,rfl,hK _ _ _ _ _ d a⟩
def A5x(p q:Rat):Int:=Bf (p.num*q.den) (q.num*p.den)
def A3n:A5x p q<0↔p<q:=by rw [aX];unfold A5x Bf;omega
def A92:0<A5x p q↔q<p:=by rw [aX];unfold A5x Bf;omega
def A3o:A5x p q<=0↔p<=q:=by rw [<- Rat.not_lt,<- A92];omega
def Qg(i:RQ h a p)(j:RQ h b q)(hp:Sz m p)(hq:Sz m q)(hm:2*m<=1152000000000000)(hK:K (I (A5x p q)) h):aF prog 71 #[a.v,b.v] h K:=by
 have y:=p.den_nz
 have u:=q.den_nz
 refine FCall.pure ((fnk func71 (cs:=[(2,[19],[],[.bool false])]) (os:=[(1,[0,1,2,3,4,5,6,7,8,9,11,10,12,13,14]),(3,[0,1,2,5,6,7,3,4,8,9,10,11])]) (own:=[2,3])) ?_)
 refine ⟨fun L hp=>L=[.bool (decide ((p.den=1/\q.den=1)\/p.num.sign≠q.num.sign))]/\hp=h,J9 i ⟨_,rfl,B4 _,B6 (fun e=>J9 j ⟨_,rfl,B4 _,B6 (fun g=>?_) (fun g=>?_)⟩) (fun e=>?_)⟩,?_⟩
 ·exact ⟨by simp [e,g],rfl⟩
 ·refine Bz i ⟨_,rfl,B4 _,Bz j ⟨_,rfl,B4 _,?_,rfl⟩⟩
  simp [g,bne]
  rw [cM];simp
 ·refine Bz i ⟨_,rfl,B4 _,Bz j ⟨_,rfl,B4 _,?_,rfl⟩⟩
  simp [e,bne]
  rw [cM];simp
 rintro l s ⟨t,rfl⟩
 obtain rfl:l=decide ((p.den=1/\q.den=1)\/p.num.sign≠q.num.sign):=by simpa using t
 refine B6 (fun e=>?_) (fun e=>?_)
 ·refine Gd i.num j.num hp.num hq.num o ⟨_,rfl,B4 _,?_⟩
  have:Bf p.num q.num=A5x p q:=by
   unfold A5x
   rcases e with e|e
   ·rw [e.1,e.2];simp
   ·exact (A7l o o e).symm
  rw [this];exact hK
 ·refine Ay j ?_
  intro M A1 Q c1 G c n
  refine ⟨_,_,_,_,rfl,c,J3 (i.num.mono c) n hp.num hq.den o ?_⟩
  intro D A2 E c2 A f r
  refine ⟨_,_,_,_,rfl,f,Ay (i.mono (B0 c f)) ?_⟩
  intro O A3 B H N d w
  refine ⟨_,_,_,_,rfl,d,J3 (j.num.mono (B0 c (B0 f d))) w hq.num hp.den o ?_⟩
  intro z A4 C R F k x
  refine ⟨_,_,_,_,rfl,k,Gd (m:=m+m) (r.mono (B0 d k)) x (hp.num.mul hq.den) (hq.num.mul hp.den) o ⟨_,rfl,B4 _,?_⟩⟩
  exact ⟨B0 c (B0 f (B0 d k)),hK⟩
def Jb{t:List UInt8}{k:Nat}(h:∀ c∈t,F7 c)(hk:t.length<=k):ZB (4*k) (I0 t:Int):=by
 exact aQ (X8 h) (aH dc o)
def Form.lens{neg:Bool}{a b:List UInt8}(f:Form l neg a b):a.length<=l.length/\b.length<=l.length:=by
 have:=congrArg List.length f.eq
 grind
def On(gl:Gtz h)(hl:l.length<=140737488351232)(hK1:∀ q,l=H1 q->∀ w h',h.le h'->RQ h' w q->K (.tuple #[w.v,.bool true]) h')(hK0:¬ IsNum l->∀ (w:QV) h',h.le h'->RQ h' w 0->K (.tuple #[w.v,.bool false]) h'):aF prog 120 #[.string (bs l)] h K:=by
 refine (fnk func120 (cs:=[(7,[],[(6,4)],[.bool false,.slice none 0 0,.bool false,.slice none 0 0])]) (own:=[2,4,6])) ?_
 refine Ik o ?_ ?_
 ·intro neg a b f
  refine ⟨_,_,_,_,rfl,Br.not ?_⟩
  have G:=f.lens
  refine Em f.da o ?_
  intro A1 Q c1 F s i1
  refine ⟨_,_,_,_,rfl,?_⟩
  refine ⟨fun L X=>∃ i:Bool,L=[.bool i,.slice A1 Q c1,.bool false,.slice none 0 0]/\X=F/\ZI F i A1 Q c1 (Ka neg a),Br.of (fun e=>?_) (fun e=>?_),?_⟩
  ·refine P8 i1 ?_
   intro i t
   exact ⟨_,_,_,_,rfl,i,rfl,rfl,by unfold Ka;grind⟩
  ·exact ⟨false,rfl,rfl,by unfold Ka;grind⟩
  rintro C p n d x2 V aa ac T ⟨i,H,rfl,t⟩
  simp only [List.cons.injEq,Value.slice.injEq,Value.bool.injEq,and_true] at H
  obtain ⟨rfl,⟨rfl,rfl,rfl⟩,rfl,rfl,rfl,rfl⟩:=H
  have j:(Ka neg a).natAbs=I0 a:=by unfold Ka;omega
  rw [R9]
  refine B6 (fun u=>?_) (fun u=>?_)
  ·subst u
   obtain ⟨q,g⟩:=f.isNum.2 (by unfold Gc;simp)
   obtain ⟨E,z⟩:=f.of_txt g
   refine hK1 q g ⟨C,p,n,d,false,none,0,0⟩ _ s ⟨gz0,?_⟩
   rw [z,show Gc []=1 from rfl,iP rfl];exact ZI.zero
  ·refine Em f.db o ?_
   intro A4 R c4 h4 m M
   have B:ZB (4*l.length) (Ka neg a):=(Jb f.da (k:=l.length) o).le o
   refine ⟨_,_,_,_,rfl,W8 (gl.mono (B0 s m)) (t.mono m) M B (Jb f.db (k:=l.length) o) o ?_⟩
   intro A5 n5 c5 h5 r S
   refine ⟨_,_,_,_,rfl,M0 S ⟨_,rfl,?_⟩⟩
   have c:Gc b=I0 b:=by unfold Gc;grind
   have y:aT (Ka neg a) (I0 b:Int)=aS (I0 a) (Gc b):=by
    rw [c];show aS (Ka neg a).natAbs (I0 b)=_;rw [j]
   rw [y]
   refine Br.not (B6 (fun O=>?_) (fun O=>?_))
   ·obtain ⟨q,g⟩:=f.isNum.2 o
    obtain ⟨E,z⟩:=f.of_txt g
    have x:Gc b≠1:=by
     intro W
     have N:=Hs f.db u (.inl f.hb)
     rw [<- c,W] at N
     apply f.b1
     rw [<- N];simp [K7,T2,H9,dch]
    refine hK1 q g ⟨C,p,n,d,false,A4,R,c4⟩ _ (B0 s (B0 m r)) ⟨by rw [E];exact t.mono (B0 m r),?_⟩
    rw [z,iN x,c];exact M.mono r
   ·refine hK0 ?_ ⟨false,none,0,0,false,none,0,0⟩ _ (B0 s (B0 m r)) RQ.zero
    intro A
    exact O (by rw [f.isNum.1 A];rfl)
 ·intro hf neg a b
  refine ⟨_,_,_,_,rfl,Br.not ?_⟩
  refine hK0 ?_ ⟨false,none,0,0,false,none,0,0⟩ _ (B4 _) RQ.zero
  intro A
  obtain ⟨D,a',b',f⟩:=A.form
  grind
def J2(gl:Gtz h)(hl:l.length<=140737488351232)(hK:∀ w h',h.le h'->RQ h' w (rv l)->K w.v h'):aF prog 60 #[.string (bs l)] h K:=by
 refine (fnk func60 (own:=[2,3])) ?_
 refine On gl hl ?_ ?_
 ·intro q e w c b a
  exact ⟨_,_,_,_,_,_,_,_,_,rfl,hK w c b (by rw [e,D6];exact a)⟩
 ·intro d w c b a
  exact ⟨_,_,_,_,_,_,_,_,_,rfl,hK w c b (by rw [Xx d];exact a)⟩
def P6(gp:Gp h)(i:RQ h w q)(hq:Sz m q)(hm:m<=40000000)(hK:K (.string (bs (H1 q))) h):aF prog 64 #[w.v] h K:=by
 refine FCall.pure ((fnk func64 (own:=[1])) ?_)
 refine J9 i ⟨_,rfl,B6 (fun e=>?_) (fun e=>?_)⟩
 ·rw [Pq e] at hK
  refine Vf i.num (fun f j=>?_) (fun f=>?_)
  ·refine ⟨_,_,rfl,Br.of (fun _=>(fnk func128) ?_) (fun e=>by cases e)⟩
   exact Fd gp f j ⟨_,rfl,_,rfl,B4 _,hK⟩
  ·refine ⟨_,_,rfl,Br.of (fun e=>by cases e) (fun _=>?_)⟩
   exact Dd gp i.num hq.num o ⟨_,rfl,B4 _,hK⟩
 ·rw [Sc e] at hK
  have c:=i.den
  rw [iN e] at c
  refine Df (l:=[]) (eT:=5) gp (Priv.nil _ _ _ _) i.num hq.num o o ?_
  intro A1 D c1 B y f g
  refine ⟨_,_,_,rfl,?_⟩
  have s:(Ej q.num).length<=50000000:=by
   unfold Ej
   have:=X9 hq.num
   grind
  have r:=g.len
  refine Cc (ch:=47) rfl g.priv o ?_
  intro A2 E c2 x u j k
  have b:=g.trans k
  have d:=b.len
  rw [aK,cO] at d
  refine Df (gp.mono b.le) k.priv (c.mono b.le) hq.den o o ?_
  intro A3 t z C F A p
  refine ⟨_,_,_,rfl,?_⟩
  have a:=b.trans p
  have n:=a.len
  refine Ek Ao.und X4 P0 a.priv.slV gz0 ⟨_,rfl,?_⟩
  refine ⟨B0 a.le a.priv.le,?_⟩
  assumption
end
structure Tx (m:Nat) (l:List UInt8):Prop where
 len:l.length<=140737488351232
 sz:Sz m (rv l)
def A4i{m:Nat}{z:Int}(h:ZB m z):(Ej z).length<=m+2:=by
 have:=X9 h
 unfold Ej;grind
def Gj{m:Nat}{q:Rat}(h:Sz m q):(H1 q).length<=2*m+4:=by
 have a:=A4i h.num
 have b:=X9 (n:=q.den) (m:=m) (by have:=h.den;assumption)
 unfold H1
 grind
def Tx.of{m:Nat}{q:Rat}(h:Sz m q)(hm:m<=40000000):Tx m (H1 q):=⟨by have:=Gj h;omega,by rw [D6];exact h⟩
def Cn{x y:Int}(hx:x.natAbs<1000000000)(hy:y.natAbs<1000000000):(x*y).natAbs<1000000000000000000:=by
 rw [Int.natAbs_mul]
 exact Nat.mul_lt_mul'' hx hy
def Sb(q:Rat):∃ c r,H1 q=c::r/\(c=45↔q<0):=by
 have f:=Dl q
 have a:H1 q≠[]:=by
  intro e
  have:=f.eq
  rw [e] at this
  have d:=f.ne
  have:=congrArg List.length this
  simp only [aK,List.length_nil] at this
  exact d (aN o)
 obtain ⟨c,r,e⟩:=aZ a
 refine ⟨c,r,e,?_⟩
 have b:=f.head
 rw [e,dA,cM,decide_eq_true_iff,beq_iff_eq,aV] at b
 rw [<- b,aX];simp
def Xq{q:Rat}(h:q<0):H1 q=45::H1 (-q):=by
 have a:q.num<0:=by have:=(aX q 0).1 h;simp_all
 unfold H1
 rw [Rat.neg_num,Rat.neg_den,Kj a,Gk (i:= -q.num) o,Int.natAbs_neg];simp
def B43:rv [48]=0:=by
 rfl
def A4h:H1 0=[48]:=by rfl
def Kn{m:Nat}{q:Rat}(h:Sz m q):ZB m q.floor:=by
 rw [Rat.floor_def]
 exact h.num.le (Int.natAbs_ediv_le_natAbs _ _)
section
variable {h:aL} {K:VP} {m:Nat} {a b:List UInt8}
def V4(gl:Gl h)(hl:a.length<=140737488351232)(hK1:IsNum a->K (.bool true) h)(hK0:¬ IsNum a->K (.bool false) h):aF prog 57 #[.string (bs a)] h K:=by
 refine FCall.pure ((fnk func57 (os:=[(7,[0,1,3,4,2,5,6,7,8])]) (own:=[3,5])) ?_)
 refine Aa ?_ ?_
 ·intro q e _ _
  exact ⟨_,_,_,rfl,Br.of (fun _=>⟨B4 _,hK1 ⟨q,e⟩⟩) (fun e=>by cases e)⟩
 ·refine ⟨_,_,_,rfl,Br.of (fun e=>by cases e) (fun _=>?_)⟩
  refine Ik o ?_ ?_
  ·intro neg x y f
   refine ⟨_,_,_,_,rfl,Br.of (fun e=>by cases e) (fun _=>?_)⟩
   have j:=f.lens
   rw [R9]
   refine B6 (fun e=>?_) (fun e=>?_)
   ·subst e
    exact ⟨B4 _,hK1 (f.isNum.2 (by unfold Gc;simp))⟩
   ·refine Em f.da o ?_
    intro A1 D c1 z d r
    refine ⟨_,_,_,_,rfl,d,Em f.db o ?_⟩
    intro A2 E c2 s b m
    refine ⟨_,_,_,_,rfl,b,W8 (gl.tz.mono (B0 d b)) (r.mono b) m (Jb f.da (k:=a.length) o) (Jb f.db (k:=a.length) o) o ?_⟩
    intro A3 u B C l p
    refine ⟨_,_,_,_,rfl,l,M0 p ⟨_,rfl,B4 _,B0 d (B0 b l),?_⟩⟩
    rw [cI]
    have g:Gc y=I0 y:=by unfold Gc;grind
    by_cases n:aS (I0 x) (I0 y)=1
    ·rw [decide_eq_true o]
     exact hK1 (f.isNum.2 gz0)
    ·rw [decide_eq_false o]
     exact hK0 (fun c=>n (by rw [<- g];exact f.isNum.1 c))
  ·intro A neg x y
   refine ⟨_,_,_,_,rfl,Br.of (fun _=>⟨B4 _,hK0 ?_⟩) (fun e=>by cases e)⟩
   intro c
   obtain ⟨i,w,t,f⟩:=c.form
   grind
def A7n{q:Rat}(hq:q≠0)(hneg:¬ q<0):q.num.sign=1:=by
 have a:¬ q.num<0:=fun e=>hneg (by rw [aX];simp_all)
 have b:q.num≠0:=fun e=>hq (Rat.num_eq_zero.1 e)
 grind
def V6(gl:Gl h)(hl:a.length<=140737488351232)(hK:K (I (rv a).num.sign) h):aF prog 146 #[.string (bs a)] h K:=by
 refine (fnk func146) ?_
 have f:((bs a).toList==({ data:=#[48] }:ByteArray).toList)=decide (a=[48]):=Fg a [48]
 rw [f]
 refine B6 (fun e=>?_) (fun e=>?_)
 ·subst e;rw [B43] at hK;exact hK
 ·refine V4 gl hl ?_ ?_
  ·rintro ⟨q,rfl⟩
   rw [D6] at hK
   have b:q≠0:=by rintro rfl;exact e A4h
   obtain ⟨c,r,j,i⟩:=Sb q
   refine ⟨_,rfl,Br.not ?_⟩
   refine ⟨c,⟨o,by rw [Nd,j];rfl⟩,D5 (fun g=>?_) (fun g=>?_)⟩
   ·have d:c=45:=by apply UInt8.toNat_inj.1;show c.toNat=45;omega
    have:=(aX q 0).1 (i.1 d)
    rw [bC (by simpa using this)] at hK
    exact hK
   ·have d:¬ q<0:=fun k=>g (by rw [i.2 k];rfl)
    rw [A7n b d] at hK
    exact hK
  ·intro l
   rw [Xx l] at hK
   exact ⟨_,rfl,Br.not hK⟩
def Ku(gl:Gl h)(hl:a.length<=140737488351232)(hK:K (.string (bs (H1 (-rv a)))) h):aF prog 223 #[.string (bs a)] h K:=by
 refine (fnk func223) ?_
 have d:((bs a).toList==({ data:=#[48] }:ByteArray).toList)=decide (a=[48]):=Fg a [48]
 rw [d]
 refine B6 (fun e=>?_) (fun e=>?_)
 ·subst e;assumption
 ·refine V4 gl hl ?_ ?_
  ·rintro ⟨q,rfl⟩
   rw [D6] at hK
   have k:q≠0:=by rintro rfl;exact e A4h
   obtain ⟨c,r,i,l⟩:=Sb q
   refine ⟨_,rfl,Br.not ?_⟩
   refine ⟨c,⟨o,by rw [Nd,i];rfl⟩,D5 (fun f=>?_) (fun f=>?_)⟩
   ·have g:c=45:=by apply UInt8.toNat_inj.1;grind
    have b:=Xq (l.1 g)
    rw [b,G1]
    refine ⟨⟨o,gz0⟩,?_⟩
    rw [K0,show ((1:Int)).toNat=1 from rfl,aI (by simp),List.drop_succ_cons,bB]
    exact hK
   ·have g:¬ q<0:=fun n=>f (by simp_all)
    have j: -q<0:=by
     grind
    rw [Xq j,Rat.neg_neg] at hK
    refine ⟨?_,?_⟩
    ·show (((bs [45]).size+(bs (H1 q)).size:Nat):Int)<=_
     rw [G1,G1];grind
    assumption
  ·intro m
   rw [Xx m,Rat.neg_zero,A4h] at hK
   exact ⟨_,rfl,Br.not hK⟩
def Gn(gl:Gl h)(ta:Tx m a)(tb:Tx m b)(hm:2*m<=1152000000000000)(hK:K (I (A5x (rv a) (rv b))) h):aF prog 18 #[.string (bs a),.string (bs b)] h K:=by
 refine FCall.pure ((fnk func18 (own:=[5,6])) ?_)
 refine S7 ?_ ?_
 ·intro p q j r g c n k
  rw [j,r,D6,D6] at hK
  refine ⟨_,_,_,_,_,rfl,Br.of (fun _=>(fnk func70) ?_) (fun e=>by cases e)⟩
  have t:=Cn g (show ((q.den:Nat):Int).natAbs<1000000000 by simpa using k)
  have u:=Cn n (show ((p.den:Nat):Int).natAbs<1000000000 by simpa using c)
  rw [B7 o o,B7 o o]
  exact A3q ⟨_,rfl,_,rfl,B4 _,hK⟩
 ·refine ⟨_,_,_,_,_,rfl,Br.of (fun e=>by cases e) (fun _=>?_)⟩
  refine J2 gl.tz ta.len ?_
  intro s g d i
  refine ⟨_,_,_,_,_,_,_,_,rfl,J2 (gl.tz.mono d) tb.len ?_⟩
  intro w c f l
  refine ⟨_,_,_,_,_,_,_,_,rfl,Qg (i.mono f) l ta.sz tb.sz o ⟨_,rfl,B0 d f,hK⟩⟩
def Sj(gl:Gl h)(ta:Tx m a)(tb:Tx m b)(hm:2*m+1<=40000000)(hK:K (.string (bs (H1 (rv a+rv b)))) h):aF prog 19 #[.string (bs a),.string (bs b)] h K:=by
 refine FCall.pure ((fnk func19 (own:=[5,6])) ?_)
 refine S7 ?_ ?_
 ·intro p q u l g j i A
  rw [u,l,D6,D6,Bl] at hK
  refine ⟨_,_,_,_,_,rfl,Br.of (fun _=>?_) (fun e=>by cases e)⟩
  have x:=Cn g (show ((q.den:Nat):Int).natAbs<1000000000 from o)
  have B:=Cn i (show ((p.den:Nat):Int).natAbs<1000000000 from o)
  have z:=Cn (show ((p.den:Nat):Int).natAbs<1000000000 from o) (show ((q.den:Nat):Int).natAbs<1000000000 from o)
  rw [B7 (n:=p.num*q.den) o o,B7 (n:=q.num*p.den) o o,B7 (n:=(p.den:Int)*q.den) o o,B7 o o]
  exact O7 gl.p10 (cL (dE p) (dE q)) o o ⟨_,rfl,B4 _,hK⟩
 ·refine ⟨_,_,_,_,_,rfl,Br.of (fun e=>by cases e) (fun _=>?_)⟩
  refine J2 gl.tz ta.len ?_
  intro w g d t
  refine ⟨_,_,_,_,_,_,_,_,rfl,J2 (gl.tz.mono d) tb.len ?_⟩
  intro C j f k
  refine ⟨_,_,_,_,_,_,_,_,rfl,Oo (gl.tz.mono (B0 d f)) (t.mono f) k ta.sz tb.sz o ?_⟩
  intro y i r s
  have c:=B0 d (B0 f r)
  exact ⟨_,_,_,_,_,_,_,_,rfl,P6 (gl.p10.mono c) s (ta.sz.add tb.sz) o ⟨_,rfl,c,hK⟩⟩
def Kt(gl:Gl h)(ta:Tx m a)(tb:Tx m b)(hm:2*m+1<=40000000)(hK:K (.string (bs (H1 (rv a-rv b)))) h):aF prog 20 #[.string (bs a),.string (bs b)] h K:=by
 refine FCall.pure ((fnk func20 (own:=[5,6])) ?_)
 refine S7 ?_ ?_
 ·intro p q w l g j i B
  have t:p-q=bY (p.num*q.den-q.num*p.den) (p.den*q.den):=by
   rw [Rat.sub_eq_add_neg,Bl,Rat.neg_num,Rat.neg_den,Int.neg_mul,<- Int.sub_eq_add_neg]
  rw [w,l,D6,D6,t] at hK
  refine ⟨_,_,_,_,_,rfl,Br.of (fun _=>?_) (fun e=>by cases e)⟩
  have y:=Cn g (show ((q.den:Nat):Int).natAbs<1000000000 from o)
  have C:=Cn i (show ((p.den:Nat):Int).natAbs<1000000000 from o)
  have A:=Cn (show ((p.den:Nat):Int).natAbs<1000000000 from o) (show ((q.den:Nat):Int).natAbs<1000000000 from o)
  rw [B7 (n:=p.num*q.den) o o,B7 (n:=q.num*p.den) o o,B7 (n:=(p.den:Int)*q.den) o o,B7 o o]
  exact O7 gl.p10 (cL (dE p) (dE q)) o o ⟨_,rfl,B4 _,hK⟩
 ·refine ⟨_,_,_,_,_,rfl,Br.of (fun e=>by cases e) (fun _=>?_)⟩
  refine J2 gl.tz ta.len ?_
  intro x g d u
  refine ⟨_,_,_,_,_,_,_,_,rfl,J2 (gl.tz.mono d) tb.len ?_⟩
  intro D j f k
  refine ⟨_,_,_,_,_,_,_,_,rfl,Zm (gl.tz.mono (B0 d f)) (u.mono f) k ta.sz tb.sz o ?_⟩
  intro z i r s
  have c:=B0 d (B0 f r)
  exact ⟨_,_,_,_,_,_,_,_,rfl,P6 (gl.p10.mono c) s (ta.sz.sub tb.sz) o ⟨_,rfl,c,hK⟩⟩
def A18(gl:Gl h)(ta:Tx m a)(tb:Tx m b)(hm:2*m<=40000000)(hK:K (.string (bs (H1 (rv a*rv b)))) h):aF prog 29 #[.string (bs a),.string (bs b)] h K:=by
 refine FCall.pure ((fnk func29 (own:=[5,6])) ?_)
 refine S7 ?_ ?_
 ·intro p q k t g l i y
  rw [k,t,D6,D6,Eo] at hK
  refine ⟨_,_,_,_,_,rfl,Br.of (fun _=>?_) (fun e=>by cases e)⟩
  have x:=Cn g i
  have B:=Cn (show ((p.den:Nat):Int).natAbs<1000000000 from o) (show ((q.den:Nat):Int).natAbs<1000000000 from o)
  rw [B7 (n:=p.num*q.num) o o,B7 (n:=(p.den:Int)*q.den) o o]
  exact O7 gl.p10 (cL (dE p) (dE q)) o o ⟨_,rfl,B4 _,hK⟩
 ·refine ⟨_,_,_,_,_,rfl,Br.of (fun e=>by cases e) (fun _=>?_)⟩
  refine J2 gl.tz ta.len ?_
  intro w g d j
  refine ⟨_,_,_,_,_,_,_,_,rfl,J2 (gl.tz.mono d) tb.len ?_⟩
  intro A l f s
  refine ⟨_,_,_,_,_,_,_,_,rfl,Om (gl.tz.mono (B0 d f)) (j.mono f) s ta.sz tb.sz o ?_⟩
  intro z i u r
  have c:=B0 d (B0 f u)
  exact ⟨_,_,_,_,_,_,_,_,rfl,P6 (gl.p10.mono c) r (ta.sz.mul tb.sz) o ⟨_,rfl,c,hK⟩⟩
def A1b(gl:Gl h)(ta:Tx m a)(tb:Tx m b)(hm1:1<=m)(hm:2*m<=40000000)(hK1:rv b≠0->K (.tuple #[.string (bs (H1 (rv a/rv b))),.bool true]) h)(hK0:rv b=0->K (.tuple #[.string (bs []),.bool false]) h):aF prog 16 #[.string (bs a),.string (bs b)] h K:=by
 refine FCall.pure ((fnk func16 (cs:=[(3,[22],[],[.bool false])]) (os:=[(7,[0,2,1,3,4,5,6])]) (own:=[6,7,9])) ?_)
 have c:∀ i,i=h->aF prog 60 #[.string (bs b)] i (fun S w=>∃ (t350:Bool) (t351A:Option aJ) (t351n:Nat) (t351c:Nat) (t352:Bool) (t353A:Option aJ) (t353n:Nat) (t353c:Nat),S= .agg #[.bool t350,.slice t351A t351n t351c,.bool t352,.slice t353A t353n t353c]/\aF prog 61 #[.agg #[.bool t350,.slice t351A t351n t351c,.bool t352,.slice t353A t353n t353c]] w (fun G k=>∃ (t37:Bool),G= .bool t37/\Br t37 (h.le k/\K (.tuple #[.string ({ data:=#[] }:ByteArray),.bool false]) h)
  (aF prog 60 #[.string (bs a)] k (fun N g=>∃ (t390:Bool) (t391A:Option aJ) (t391n:Nat) (t391c:Nat) (t392:Bool) (t393A:Option aJ) (t393n:Nat) (t393c:Nat),N= .agg #[.bool t390,.slice t391A t391n t391c,.bool t392,.slice t393A t393n t393c]/\Heap.le k g/\aF prog 67 #[.agg #[.bool t390,.slice t391A t391n t391c,.bool t392,.slice t393A t393n t393c],.agg #[.bool t350,.slice t351A t351n t351c,.bool t352,.slice t353A t353n t353c]] g (fun Q f=>∃ (t410:Bool) (t411A:Option aJ) (t411n:Nat) (t411c:Nat) (t412:Bool) (t413A:Option aJ) (t413n:Nat) (t413c:Nat),Q= .agg #[.bool t410,.slice t411A t411n t411c,.bool t412,.slice t413A t413n t413c]/\Heap.le g f/\aF prog 64 #[.agg #[.bool t410,.slice t411A t411n t411c,.bool t412,.slice t413A t413n t413c]] f (fun M s=>∃ (t42:ByteArray),M= .string t42/\Heap.le f s/\(h.le s/\K (.tuple #[.string t42,.bool true]) h))))))):=by
  rintro i rfl
  refine J2 gl.tz tb.len ?_
  intro V B t F
  refine ⟨_,_,_,_,_,_,_,_,rfl,Sv F ⟨_,rfl,B6 (fun e=>⟨t,hK0 e⟩) (fun e=>?_)⟩⟩
  refine J2 (gl.tz.mono t) ta.len ?_
  intro w2 z u H
  refine ⟨_,_,_,_,_,_,_,_,rfl,u,Zo (gl.tz.mono (B0 t u)) H (F.mono u) ta.sz tb.sz hm1 o ?_⟩
  intro X E D R
  have r:=B0 t (B0 u D)
  exact ⟨_,_,_,_,_,_,_,_,rfl,D,P6 (gl.p10.mono r) R (ta.sz.div tb.sz hm1) o ⟨_,rfl,B4 _,r,hK1 e⟩⟩
 refine S7 ?_ ?_
 ·intro p q T C B z E O
  refine ⟨_,_,_,_,_,rfl,fun L i=>L=[.bool (decide (q.num≠0))]/\i=h,Br.of (fun _=>⟨?_,rfl⟩) (fun e=>by cases e),?_⟩
  ·by_cases l:q.num=0<;>simp [l,bne]
  rintro j d ⟨x,rfl⟩
  obtain rfl:j=decide (q.num≠0):=by simpa using x
  refine B6 (fun l=>?_) (fun l=>c d rfl)
  have y:rv b≠0:=by rw [C,D6];exact fun e=>l (Rat.num_eq_zero.2 e)
  have A:=hK1 y
  rw [T,C,D6,D6,Pc] at A
  have W:=Cn B (show ((q.den:Nat):Int).natAbs<1000000000 by simpa using O)
  have b3:=Cn (show ((p.den:Nat):Int).natAbs<1000000000 by simpa using z) E
  rw [B7 (n:=p.num*q.den) o o,B7 (n:=(p.den:Int)*q.num) o o]
  exact O7 gl.p10 (cL (dE p) l) o o ⟨_,rfl,B4 _,A⟩
 ·refine ⟨_,_,_,_,_,rfl,fun L i=>L=[.bool false]/\i=h,Br.of (fun e=>by cases e) (fun _=>⟨rfl,rfl⟩),?_⟩
  rintro j d ⟨x,rfl⟩
  obtain rfl:j=false:=by simpa using x
  exact Br.of (fun e=>by cases e) (fun _=>c d rfl)
def Vq(gl:Gl h)(ta:Tx m a)(hm:m+1<=40000000)(hK:K (.string (bs (Ej (rv a).floor))) h):aF prog 17 #[.string (bs a)] h K:=by
 refine FCall.pure ((fnk func17) ?_)
 refine J2 gl.tz ta.len ?_
 intro f j b d
 refine ⟨_,_,_,_,_,_,_,_,rfl,Jo d ta.sz o ?_⟩
 intro g A2 k c2 i c e
 exact ⟨_,_,_,_,rfl,Dd (m:=m) (gl.p10.mono (B0 b c)) e (Kn ta.sz) o ⟨_,rfl,B0 b c,hK⟩⟩
def Zi(gl:Gl h)(ta:Tx m a)(hm:m+1<=40000000)(hK:K (.string (bs (Ej (rv a).ceil))) h):aF prog 59 #[.string (bs a)] h K:=by
 refine FCall.pure ((fnk func59) ?_)
 refine J2 gl.tz ta.len ?_
 intro f j b d
 refine ⟨_,_,_,_,_,_,_,_,rfl,Zp d ta.sz o ?_⟩
 intro g A2 k c2 i c e
 refine ⟨_,_,_,_,rfl,Dd (m:=m) (gl.p10.mono (B0 b c)) e ?_ o ⟨_,rfl,B0 b c,hK⟩⟩
 rw [dD]
 exact (Kn ta.sz.neg).neg
end
def B41(h:aL)(r:bV)(h':aL):Prop:=r= .bool true/\h.le h'
def B2g{x:List UInt8}{k:Nat}(hl:x.length<=k)(hk:1<=k):Sz (4*k) (rv x):=by
 by_cases d:IsNum x
 ·obtain ⟨neg,a,b,f⟩:=d.form
  obtain ⟨i,g⟩:=f.rv_num d
  have e:=f.lens
  have c:(Ka neg a).natAbs=I0 a:=by unfold Ka;split<;>simp
  refine ⟨?_,?_⟩
  ·rw [i];exact (Jb f.da (k:=k) o).le (by rw [c,cU];exact aR _)
  ·rw [g]
   unfold Gc
   split
   ·exact ZB.one o
   ·exact Jb f.db o
 ·rw [Xx d];exact Sz.zero o
end Go.Proofs.YtdphgbjaijlckaaGreatDoor
namespace Go.Proofs.YtdphgbjaijlckaaGreatDoor
set_option maxRecDepth 20000
open Go Go.RowKit
def memOf(W:World):aL:=fun b=>W.heap[b]?
def frame_of{P:cT}{f:FuncId}{args:Array bV}{W:World}(x:aF P f args (memOf W) (B41 (memOf W))):Calls P f args W fun e w'=>e= .returned (.bool true)/\Below W.heap.size W w':=by
 refine (x W (fun b o e=>e)).mono ?_
 rintro e W' ⟨r,l,i,⟨j,c⟩,a⟩
 subst j
 refine ⟨i,a.os,a.tape,a.output,a.size,fun k g=>?_⟩
 have d:memOf W k=some W.heap[k]:=Array.getElem?_eq_getElem g
 have:=a.sim k _ (c k _ d)
 rw [this];exact d.symm
def Ep{W:World}{a:aJ}{v:bV}(e:W.cell? a=some v):(memOf W).cell? a=some v:=by
 unfold World.cell? at e
 unfold Heap.cell? memOf
 exact e
def Yq{P:cT}{W:World}{x:String × DataW Unit}{rest:List (String × DataW Unit)}(h:laidMet P (x::rest) W):laidMet P rest W:=by
 obtain ⟨n,d⟩:=x
 obtain ⟨k,⟨g,t,r,c,p,q,s,l,u,m,i,rfl⟩,e,f⟩:=h
 exact ⟨q,i,(List.nodup_append.1 e).2.1,fun b a j=>f b a (List.mem_append_right _ j)⟩
def B2d:List Int:=[0,1,28,2,29,14,24,3,30,22,20,15,25,17,4,8,31,27,13,23,21,19,16,7,26,12,18,6,11,5,10,9]
def A4p:List Int:=[0,1,56,2,57,49,28,3,61,58,42,50,38,29,17,4,62,47,59,36,45,43,51,22,53,39,33,30,24,18,12,5,63,55,48,27,60,41,37,16,46,35,44,21,52,32,23,11,54,26,40,15,34,20,31,10,25,14,19,9,13,8,7,6]
def A7h:List Int:=[1,10,100,1000,10000,100000,1000000,10000000,100000000,1000000000,10000000000,100000000000,1000000000000,10000000000000,100000000000000,1000000000000000,10000000000000000,100000000000000000,1000000000000000000,10000000000000000000]
def A6x:prog.globalNamed "math/bits.deBruijn64tab" = some 1:=by kernel_rfl
def A6y:prog.globalNamed "internal/strconv.uint64pow10" = some 0:=by kernel_rfl
def tabs_gl{W:World}(h:laidMet prog [("math/bits.deBruijn32tab",Rows.laid_math_bits_deBruijn32tab),("math/bits.deBruijn64tab",Rows.laid_math_bits_deBruijn64tab),("internal/strconv.uint64pow10",Rows.laid_internal_strconv_uint64pow10)] W):Gl (memOf W):=by
 have i:=Yq h
 have j:=Yq i
 have e:Lib.TabIs prog W "math/bits.deBruijn64tab" .u8 A4p:=Lib.tabIs_of_head (rest:=[("internal/strconv.uint64pow10",Rows.laid_internal_strconv_uint64pow10)]) A6x (by kernel_rfl) underlying308 underlying5 (by kernel_rfl) (by kernel_rfl) i
 have g:Lib.TabIs prog W "internal/strconv.uint64pow10" .u64 A7h:=Lib.tabIs_of_head (rest:=[]) A6y (by kernel_rfl) underlying298 underlying230 (by kernel_rfl) (by kernel_rfl) j
 have d:∀ k,k<64->Vn k<A4p.length/\A4p.getD (Vn k) 0=(k:Int):=by decide +kernel
 have f:∀ k,k<20->A7h.getD k 0=((10^k:Nat):Int):=by decide +kernel
 refine ⟨fun k c=>?_,fun k c=>?_⟩
 ·obtain ⟨a,b⟩:=d k c
  have:=Ep (e.cell A6x (Vn k) a)
  rw [D8,aY,bX,this,b]
 ·have:=Ep (g.cell A6y k (by show k<20;exact c))
  rw [D8,aY,bX,this,f k c]
def A2x(zs:List Int)(k:IntKind):Obj->Obj
 | .cells _ t frozen=>.cells (zs.map (aO k)).toArray t frozen
 | o=>o
def layTabs(a:Array Obj):Array Obj:=((a.modify 4 (A2x B2d .u8)).modify 1 (A2x A4p .u8)).modify 0 (A2x A7h .u64)
