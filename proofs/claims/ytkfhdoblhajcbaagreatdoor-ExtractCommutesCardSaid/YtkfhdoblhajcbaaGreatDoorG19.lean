/- A part. -/
import Derived.Test.YtkfhdoblhajcbaaGreatDoorG18
import Derived.Test.YtkfhdoblhajcbaaGreatDoorRows
import Derived.Lib.LaidTab
open Go.Proofs.Tryz
set_option linter.all false
open _root_.Array renaming replicate->bG
open _root_.Go.Builtin renaming zeroCells->aU,append_->bF
open _root_.ByteArray renaming size->cJ
open Int renaming toNat_natCast->aC,gcd->aR,ofNat_tmod->aY,ofNat_tdiv->aZ,tmod->cC,natCast_mul->cG,tdiv->cM,mul_le_mul_of_nonneg_right->cO,mul_ne_zero->cT,tdiv_eq_ediv_of_dvd->cX,gcd_natCast_natCast->cY,sign_eq_one_of_pos->cZ,pow_succ->dB
open List renaming replicate->aD,getElem?_cons_zero->aE,getElem?_cons_succ->aF,take_of_length_le->aG,length_append->aJ,eq_nil_of_length_eq_zero->aL,exists_cons_of_ne_nil->aW,drop_zero->aX,getElem?_eq_getElem->bD,take_succ_eq_append_getElem->bJ,takeWhile_append_dropWhile->bK,length_take->bL,mem_of_mem_take->bM,drop_eq_getElem_cons->bW,append_assoc->bY,getElem_mem->bZ,drop_of_length_le->cD,take_append_drop->cH,length_singleton->cI,length_drop->cN,map_append->cQ,head?_cons->cR,getLast?_singleton->cW
open Nat renaming pow_le_pow_right->aI,lt_of_lt_of_le->aP,gcd->aQ,div_le_self->aS,mul_one->aV,sub_zero->bC,le_refl->bH,le_trans->bI,zero_add->bU,gcd_dvd_right->bX,min_eq_left->cF,pow_le_pow_left->cK,le_of_dvd->cV
open Option.some renaming injEq->aT
open Rat renaming divInt->bV,num_eq_zero->cP,add->cU
open _root_.Go.Value renaming int->aN
open _root_.Go renaming Addr->aK,TypeId->aO,Value->bN,Program->cL
open _root_.Go.Proofs.YtkfhdoblhajcbaaGreatDoor renaming FCall->aH,Heap->aM,Priv->bO
namespace Go.Proofs.YtkfhdoblhajcbaaGreatDoor
set_option maxRecDepth 20000
open Go
section
variable {h g:aM} {K:VP} {A B:Option aK} {s s':Bool} {an ac bn bc m:Nat} {x y:Int}
def Eg(hs:s=decide (x<0)):(s=true/\x= -(x.natAbs:Int))\/(s=false/\x=(x.natAbs:Int)):=by
 grind
def B2f(a b:Nat):(a:Int).tdiv b=((a/b:Nat):Int)/\(-(a:Int)).tdiv (-(b:Int))=((a/b:Nat):Int)/\(-(a:Int)).tdiv b= -((a/b:Nat):Int)/\(a:Int).tdiv (-(b:Int))= -((a/b:Nat):Int):=by
 simp_all
def A4y(a b:Nat):(a:Int).tmod b=((a%b:Nat):Int)/\(-(a:Int)).tmod (-(b:Int))= -((a%b:Nat):Int)/\(-(a:Int)).tmod b= -((a%b:Nat):Int)/\(a:Int).tmod (-(b:Int))=((a%b:Nat):Int):=by
 refine ⟨(aY a b).symm,?_,?_,?_⟩
 ·rw [Int.neg_tmod,Int.tmod_neg,aY]
 ·rw [Int.neg_tmod,aY]
 ·rw [Int.tmod_neg,aY]
def Zu(i:ZI h s A an ac x)(j:ZI h s' B bn bc y)(hx:ZB m x)(hy:ZB m y)(hm:m<=6400000000)(hy0:y≠0)(hK:∀ s1 A1 n1 c1 s2 A2 n2 c2 h',h.le h'->ZI h' s1 A1 n1 c1 (x.tdiv y)->ZI h' s2 A2 n2 c2 (x.tmod y)->K (.tuple #[.agg #[.bool s1,.slice A1 n1 c1],.agg #[.bool s2,.slice A2 n2 c2]]) h'):aH prog 254 #[.agg #[.bool s,.slice A an ac],.agg #[.bool s',.slice B bn bc]] h K:=by
 have p:=i.len hx hm
 have r:=j.len hy hm
 have u:=j.zeroIff
 have a:=Eg i.sgn
 have b:=Eg j.sgn
 refine (fnk func254 (os:=[(4,[0,1,2,3,4,5,7,8,9,6,10,11,12])]) (own:=[2,3,4,5])) ?_
 refine D5 (fun e=>o) (fun _=>?_)
 refine U5 i.mag j.mag i.cap j.cap o o o ?_
 intro A1 q c1 A2 k c2 l f c d M1 M2
 refine ⟨_,_,_,_,_,_,rfl,?_⟩
 refine O1 (neg:= !(s==s')) M1 c ?_
 intro s1 g
 refine ⟨_,_,_,_,rfl,B7 _,?_⟩
 refine O1 (neg:=s) M2 d ?_
 intro s2 n
 refine ⟨_,_,_,_,rfl,B7 _,hK _ _ _ _ _ _ _ _ _ f ?_ ?_⟩
 ·have e:(if (!(s==s'))=true then -((x.natAbs/y.natAbs:Nat):Int) else ((x.natAbs/y.natAbs:Nat):Int))=x.tdiv y:=by
   have t:=B2f x.natAbs y.natAbs
   rcases a with ⟨rfl,hx'⟩|⟨rfl,hx'⟩<;>rcases b with ⟨rfl,hy'⟩|⟨rfl,hy'⟩<;>rw [<- hx',<- hy'] at t
   ·exact t.2.1.symm
   ·exact t.2.2.1.symm
   ·exact t.2.2.2.symm
   grind
  grind
 ·have e:(if s=true then -((x.natAbs%y.natAbs:Nat):Int) else ((x.natAbs%y.natAbs:Nat):Int))=x.tmod y:=by
   have t:=A4y x.natAbs y.natAbs
   rcases a with ⟨rfl,hx'⟩|⟨rfl,hx'⟩<;>rcases b with ⟨rfl,hy'⟩|⟨rfl,hy'⟩<;>rw [<- hx',<- hy'] at t
   ·exact t.2.1.symm
   ·exact t.2.2.1.symm
   ·exact t.2.2.2.symm
   grind
  grind
def F6(i:ZI h s A an ac x)(hK:K (.bool (decide (x=0))) h):aH prog 201 #[.agg #[.bool s,.slice A an ac]] h K:=by
 have a:=i.zeroIff
 refine (fnk func201 (own:=[1])) ?_
 have:((an:Int)==0)=decide (x=0):=by
  grind
 grind
def S2(i:ZI h s A an ac x)(hK:K (.bool (decide (x=1))) h):aH prog 143 #[.agg #[.bool s,.slice A an ac]] h K:=by
 have d:=Eg i.sgn
 have p:=i.zeroIff
 have M:=i.mag
 refine (fnk func143 (own:=[1])) ?_
 rcases d with ⟨rfl,g⟩|⟨rfl,g⟩
 ·refine Br.of (fun e=>by cases e) (fun _=>?_)
  rw [show decide (x=1)=false from gz0] at hK;exact hK
 ·refine Br.of (fun _=>?_) (fun e=>by cases e)
  obtain ⟨c,a,f,n,m,b⟩:=M
  refine D5 (fun e=>?_) (fun e=>?_)
  ·obtain ⟨w,rfl⟩:∃ w,c=[w]:=by
    rcases c with _|⟨w,_|⟨k,r⟩⟩
    ·grind
    ·grind
    grind
   refine f.load a o o ?_
   rw [Z1] at b
   grind
  ·have:¬ x=1:=by
    rintro rfl
    have l:=i.mag.len_le (j:=1) dc dc
    omega
   grind
def S1(i:ZI h s A an ac x)(j:ZI h s' B bn bc y)(hx:ZB m x)(hy:ZB m y)(hm:m<=6400000000)(hy0:y≠0)(hK:∀ s1 A1 n1 c1 h',h.le h'->ZI h' s1 A1 n1 c1 (x.tdiv y)->K (.agg #[.bool s1,.slice A1 n1 c1]) h'):aH prog 203 #[.agg #[.bool s,.slice A an ac],.agg #[.bool s',.slice B bn bc]] h K:=by
 refine (fnk func203 (own:=[2,3,4,5,6])) ?_
 refine S2 j ⟨_,rfl,C0 (fun e=>?_) (fun e=>?_)⟩
 ·subst e
  exact hK _ _ _ _ _ (B7 _) gz0
 ·refine Zu i j hx hy hm hy0 ?_
  grind
def A2t(i:ZI h s A an ac x)(j:ZI h s' B bn bc y)(hx:ZB m x)(hm:m<=6400000000)(hK:K (.bool (decide (x=y))) h):aH prog 252 #[.agg #[.bool s,.slice A an ac],.agg #[.bool s',.slice B bn bc]] h K:=by
 have d:=i.len hx hm
 have c:=i.sgn
 have b:=j.sgn
 refine (fnk func252 (own:=[2,3])) ?_
 refine Br.of (fun e=>?_) (fun e=>?_)
 ·refine J1 i.mag j.mag o ⟨_,rfl,?_⟩
  have:(Ki (x.natAbs:Int) y.natAbs==0)=decide (x=y):=by
   by_cases a:x=y
   ·subst a;unfold Ki;simp
   ·unfold Ki
    grind
  grind
 ·have:¬ x=y:=gz0
  grind
def Dy{n:Int}(h1: -9223372036854775808<=n)(h2:n<=9223372036854775807)(hK:∀ s1 A1 n1 c1 h',h.le h'->ZI h' s1 A1 n1 c1 n->K (.agg #[.bool s1,.slice A1 n1 c1]) h'):aH prog 202 #[I n] h K:=by
 refine (fnk func202 (own:=[2])) ?_
 refine C0 (fun d=>?_) (fun d=>?_)
 ·have e:C8 (0-C8 n)=(n.natAbs:Int):=by rw [F2,F2];omega
  rw [e]
  refine Bo o ?_
  intro A1 c c1 h1 b a M1
  exact ⟨_,_,_,rfl,hK _ _ _ _ _ b ⟨a,M1,gz0⟩⟩
 ·have e:C8 n=(n.natAbs:Int):=by rw [F2];omega
  rw [e]
  refine Bo o ?_
  intro A1 c c1 h1 b a M1
  exact ⟨_,_,_,rfl,hK _ _ _ _ _ b ⟨a,M1,gz0⟩⟩
end
def A6e{P:cL}{t d e:aO}(ht:P.underlying t=some .string)(hd:P.underlying d=some (.slice e))(he:P.underlying e=some (.int .u8)){h:aM}{l:List UInt8}{K:VP}
 (x:∀ A c h',h.le h'->l.length<=c->SlV h' A (yv l)->K (.slice A l.length c) h'):wpH P (convert t d (.string (bs l))) K h:=by
 unfold convert
 simp only [C9,F0 ht,F0 hd,F0 he]
 unfold Conv.stringToBytes
 simp only [C9]
 refine Ih rfl (fun tt=>?_)
 have m:(bs l).size=l.length:=by rfl
 have a:l.length<=(Question.appendCap (bs l).size 0 e).cut tt:=by
  simp only [Question.cut];omega
 generalize (Question.appendCap (bs l).size 0 e).cut tt=cap at *
 intro b q
 generalize hcs:((bs l).data.map (fun b=>aN .u8 b.toNat)++bG (cap-(bs l).size) (aN .u8 0))=cs
 have g:h.le (h.put b (.cells cs e (cs.size,cs.size+1))):=Heap.le_put _ q
 have j:(h.put b (.cells cs e)).freeze { block:=b,off:=cs.size } 1=h.put b (.cells cs e (cs.size,cs.size+1)):=by
  unfold Heap.freeze
  rw [iN dc]
  funext k
  by_cases f:k=b
  ·subst f
   simp only [if_true,C3,Option.map_some]
   rfl
  ·rw [iN f,B9 _ _ f,B9 _ _ f]
 refine ⟨cs,e,_,C3 _ _ _,?_⟩
 refine ⟨⟨_,C3 _ _ _⟩,?_⟩
 show K (.slice (some ⟨b,0,none⟩) (bs l).size cap) ((h.put b (.cells cs e)).freeze { block:=b,off:=cs.size } 1)
 rw [j,m]
 refine x _ _ _ g a (.inr ⟨_,rfl,?_⟩)
 intro i v n
 have r:i<l.length:=by
  have:=(List.getElem?_eq_some_iff.1 n).1
  simpa [yv] using this
 have p:Addr.add ⟨b,0,none⟩ i=⟨b,i,none⟩:=by rw [D4,bU]
 rw [p,D7,<- hcs,Array.getElem?_append_left (by simp_all)]
 rw [<- n]
 simp [yv,bs]
def ZB.tdiv{m:Nat}{x y:Int}(h:ZB m x):ZB m (x.tdiv y):=by
 unfold ZB at *
 rw [Int.natAbs_tdiv]
 exact Nat.lt_of_le_of_lt (aS _ _) h
section
variable {h g:aM} {K:VP} {A B:Option aK} {s s':Bool} {an ac bn bc m:Nat} {x y:Int}
end
def A74{ws:List Int}{k:Nat}(d:Dig b64 ws)(hl:ws.length=k+1)(h:b64^k<=val b64 ws):Norm ws:=by
 intro e
 have:=(Bu (B:=b64) dc d hl).1
 grind
section
variable {h g:aM} {K:VP} {A B:Option aK} {ac bc:Nat}
def B43{Invv:LP}{muv:LN}{d1:ByteArray}{n c:Nat}{chunk base:Int}{us:List Int}{hp hp2:aM}(p:Pw hp2 g A n c us)(hn:n=us.length)(du:Dig b64 us)(nu:Norm us)(hl:n<=100000000)(hch:0<=chunk/\chunk<18446744073709551616)(hba:1<=base/\base<18446744073709551616)
 (hK:∀ A' n' c' us' h' g',g.le g'->Pw h' g' A' n' c' us'->n'=us'.length->n'<=n+1->Dig b64 us'->Norm us'->val b64 us'=chunk+base*val b64 us->Invv [.string ((d1).extract ((C4 ((cC (C4 (((cJ d1:Nat):Int)-(1:Int))) (19:Int))+(1:Int))).toNat) ((d1).size)),.slice A' n' c'] h'/\muv [.string ((d1).extract ((C4 ((cC (C4 (((cJ d1:Nat):Int)-(1:Int))) (19:Int))+(1:Int))).toNat) ((d1).size)),.slice A' n' c'] h'<muv [.string d1,.slice A n c] hp):
 Co prog Invv muv d1 A n c chunk base hp hp2:=by
 have F:=D0 dc du
 refine ⟨fun l q=>∃ (k:Nat) (e:Int) (d:List Int),l=[U e,I k]/\k<=n/\(0<=e/\e<18446744073709551616)/\d.length=us.length/\Dig b64 d/\Pw q g A n c d/\d.drop k=us.drop k/\val b64 (d.take k)+b64^k*e=chunk+base*val b64 (us.take k),fun l _=>n-(iAt l 1).toNat,⟨0,chunk,us,rfl,o,hch,rfl,du,p,rfl,by simp [val]⟩,?_⟩
 rintro e i q ⟨k,E,d,aa,hk,j,s,t,pw,y,z⟩
 obtain ⟨rfl,rfl⟩:e=E/\i=(k:Int):=gz0
 refine C0 (fun X=>?_) (fun X=>?_)
 ·have N:=O6 t k
  have D:=F1 y
  have S:=C7 b64 us k
  have C:d≠[]:=by rintro rfl;simp at s;omega
  obtain ⟨b,O,w,hc⟩:=Ff pw C
  refine w.sl.load o o o ?_
  simp only [aC]
  generalize hx:d.getD k 0=x at *
  refine U3 N o j ⟨_,_,rfl,?_⟩
  obtain ⟨a,Q,_⟩:=SlV.at w.sl (i:=k) (by simp_all)
  refine ⟨a,Q,o,o,w.storeN F8 Q o ?_⟩
  intro h4 R
  have V:=Ml N (show 0<=base/\base<18446744073709551616 from o) j
  have kP:=A1i (x*base+e)
  have W:C4 ((k:Int)+1)=((k+1:Nat):Int):=by rw [C1 o o];omega
  rw [W]
  have G:=R.priv (m:=n) (c:=c) (by simp_all) (by simp_all) (by simp_all)
  rw [aG (by simp_all)] at G
  refine ⟨⟨k+1,_,_,rfl,o,V,by simp_all,t.set (Eo _),G,?_,?_⟩,by simp only [iAt,aE,aF];omega⟩
  ·rw [E5 o];exact E7 y
  ·rw [D3 o,F3,bL,cF o,dB,S,<- D,kP]
   grind
 ·obtain rfl:k=n:=o
  rw [aG (show d.length<=k from o),aG (show us.length<=k from o)] at z
  refine D9 (fun L=>?_) (fun L=>?_)
  ·refine Dl R8 pw rfl rfl o o ?_
   intro A5 c5 h5 g5 T H
   rw [<- List.map_singleton (f:=aN .u64),<- cQ] at H
   refine hK A5 (k+1) c5 (d++[e]) h5 g5 T H (by simp_all) o (t.append (Dig.one j)) ?_ ?_
   ·unfold Norm;simp_all
   ·rw [F3,<- z,s,<- hn]
  ·subst L
   rw [Int.mul_zero,Int.add_zero] at z
   refine hK A k c d q g (B7 _) pw o o t ?_ z
   rcases us with _|⟨u,r⟩
   ·simp_all
   ·refine A74 (k:=r.length) t o ?_
    have M:Mw hp2 A k (val b64 (u::r)):=⟨_,hn,p.slV,du,nu,rfl⟩
    have B:=M.ge dc (by simp_all)
    rw [show k-1=r.length by simp_all] at B
    have:1*val b64 (u::r)<=base*val b64 (u::r):=cO hba.1 F
    omega
end
section
variable {h g:aM} {K:VP} {A B:Option aK} {ac bc:Nat}
def B4m{k:Nat}(h:k<=19):10^k<=10000000000000000000:=bI (aI dc h) dc
def A7y{Invv:LP}{muv:LN}{d1:ByteArray}{n c tn:Nat}{T:Option aK}{l:List UInt8}{hp hp1:aM}(sv:SlV hp1 T (yv l))(ht:tn=l.length)(hd:∀ c∈l,I4 c)(h19:l.length<=19)
 (hK:(0<=C4 ((cC (C4 (((cJ d1:Nat):Int)-(1:Int))) (19:Int))+(1:Int))/\C4 ((cC (C4 (((cJ d1:Nat):Int)-(1:Int))) (19:Int))+(1:Int))<=(((d1).size:Nat):Int))/\Co prog Invv muv d1 A n c (K3 l:Int) ((10^l.length:Nat):Int) hp hp1):
 Jn prog Invv muv d1 A n c T tn hp1 hp:=by
 refine ⟨fun s hp=>hp=hp1/\∃ k:Nat,s=[U (K3 (l.take k)),U ((10^k:Nat):Int),I k]/\k<=l.length,fun s _=>l.length-(iAt s 2).toNat,⟨rfl,0,by rfl,o⟩,?_⟩
 rintro z B i w ⟨rfl,k,e,y⟩
 obtain ⟨rfl,rfl,rfl⟩:=e
 refine C0 (fun t=>?_) (fun t=>?_)
 ·have hkl:k<l.length:=o
  obtain ⟨a,q,g⟩:=SlV.at sv (i:=k) (by rw [He];omega)
  have f:=hd l[k] (bZ hkl)
  have d:=Fx (l:=l.take k) (fun c g=>hd c (bM g))
  rw [bL,cF o] at d
  have p:=B4m (k:=k+1) o
  have b:10^(k+1)=10^k*10:=Nat.pow_succ _ _
  refine ⟨a,q,o,o,((l[k].toNat:Nat):Int),?_,?_⟩
  ·rw [aC,aV,g];simp [yv]
  ·unfold I4 at f
   have j:C8 (wu8 (((l[k].toNat:Nat):Int)-48))=((l[k].toNat-48:Nat):Int):=by
    rw [Vg o o,C6 o o];omega
   have u:C8 (C8 (10*((K3 (l.take k):Nat):Int))+C8 (wu8 (((l[k].toNat:Nat):Int)-48)))=((K3 (l.take (k+1)):Nat):Int):=by
    rw [j,C6 (n:=10*((K3 (l.take k):Nat):Int)) o o,C6 o o,bJ hkl,Hs];omega
   have m:C8 (((10^k:Nat):Int)*10)=((10^(k+1):Nat):Int):=by rw [C6 o o,b];simp
   have r:C4 ((k:Int)+1)=((k+1:Nat):Int):=by rw [C1 o o];omega
   rw [u,m,r]
   exact ⟨⟨rfl,k+1,rfl,o⟩,by simp only [iAt,aE,aF];omega⟩
 grind
def Qh{l:List UInt8}(hd:∀ c∈l,I4 c)(hl:l.length<=100000000)(hK:∀ A n c h',h.le h'->n<=c->Mw h' A n (K3 l:Int)->K (.slice A n c) h'):aH prog 273 #[.string (bs l)] h K:=by
 refine Ub _ ?_
 refine ⟨fun s C=>∃ (e a:List UInt8) (b:List Int) (A:Option aK) (n c:Nat) (g:aM),s=[.string (bs a),.slice A n c]/\l=e++a/\h.le g/\Pw C g A n c b/\n=b.length/\Dig b64 b/\Norm b/\val b64 b=(K3 e:Int)/\n<=e.length,fun s _=>match s with|[.string d,_]=>d.size|_=>0,⟨[],l,[],none,0,0,h,rfl,rfl,B7 h,Priv.nil _ _ _ _,rfl,Dig.nil,Norm.nil,rfl,o⟩,?_⟩
 rintro d1 A1 n1 c1 C ⟨e,a,b,A2,n2,c2,g,V,f,z,p,F,du,E,H,S⟩
 obtain ⟨rfl,rfl,rfl,rfl⟩:=V
 have B:l.length=e.length+a.length:=gz0
 rw [I9]
 refine C0 (fun O=>?_) (fun O=>?_)
 ·obtain ⟨sz,hsz⟩:∃ sz,sz=(a.length-1)%19+1:=⟨_,rfl⟩
  have y:C4 (cC (C4 ((a.length:Int)-1)) 19+1)=(sz:Int):=by
   rw [C1 (n:=(a.length:Int)-1) o o,Int.tmod_eq_emod_of_nonneg o,C1 o o];omega
  rw [y,aC,N5]
  refine ⟨⟨o,o⟩,A6e V1 Ee.und Cc ?_⟩
  intro T tc h2 W aa D
  refine ⟨_,_,_,rfl,?_⟩
  have R:(a.drop 0).take (sz-0)=a.take sz:=by simp
  rw [R] at D ⊢
  have G:(a.take sz).length=sz:=gz0
  obtain ⟨g2,j,M⟩:=p.after W
  refine A7y D rfl (fun c hc=>hd c gz0) o ?_
  rw [I9,y]
  refine ⟨⟨o,o⟩,?_⟩
  have i:=Fx (l:=a.take sz) (fun c hc=>hd c gz0)
  rw [G] at i ⊢
  have ht:=B4m (k:=sz) o
  refine B43 M F du E o o o ?_
  intro A' L N q h' Q m p' u X t w r
  rw [I9,y,aC,N5,aG gz0]
  refine ⟨⟨e++a.take sz,a.drop sz,q,A',L,N,Q,rfl,by simp_all,B0 z (B0 j m),p',u,t,w,?_,gz0⟩,?_⟩
  ·rw [r,H,Fy,G,Int.natCast_add,cG,Int.mul_comm];omega
  ·simp only [I9,cN];omega
 ·have:a=[]:=aL o
  subst this
  rw [List.append_nil] at f
  subst f
  exact hK _ _ _ _ (B0 z p.le) p.2.1 ⟨b,F,p.slV,du,E,H⟩
end
def zb(l:List UInt8):List Int:=l.map fun c=>(c.toNat:Int)
def Hb(l:List UInt8):(zb l).length=l.length:=by simp [zb]
def Zw(a b:List UInt8):zb (a++b)=zb a++zb b:=by simp [zb]
def B83(l:List UInt8):(zb l).map (aN .u8)=yv l:=by simp [zb,yv]
def A6k:∀ v,v<100->J2[2*v+1]? = some (dch (v%10))/\J2[2*v]? = some (dch (v/10)):=by decide +kernel
def A08(a:Nat):cC (a:Int) 100=((a%100:Nat):Int):=(aY a 100).symm
def tm4(a:Nat):cC (a:Int) 10000=((a%10000:Nat):Int):=(aY a 10000).symm
def tm8(a:Nat):cC (a:Int) 100000000=((a%100000000:Nat):Int):=(aY a 100000000).symm
def A34(a:Nat):cM (a:Int) 100=((a/100:Nat):Int):=(aZ a 100).symm
def td4(a:Nat):cM (a:Int) 10000=((a/10000:Nat):Int):=(aZ a 10000).symm
def td8(a:Nat):cM (a:Int) 100000000=((a/100000000:Nat):Int):=(aZ a 100000000).symm
def Gz{a:Nat}(h:a<4294967296):I6 (a:Int)=a:=Q3 o o
def Mc(a:Nat):(a:Int)*2=((2*a:Nat):Int):=o
def A4n(a:Nat):(a:Int)+1=((a+1:Nat):Int):=o
def FBI(g:aM)(b:Nat)(e:aO)(A:Option aK)(pre post:List bN)(N u0 nd u:Nat)(hp:aM):Prop:=
 ∃ (ys:List Int) (t:List UInt8),Win .u8 hp g b e A pre (ys++zb t) post/\ys.length=nd/\nd+t.length=N/\pad N u0=pad nd u++t/\u<10^nd
section
variable {P:cL} {h g:aM} {K:VP} {A:Option aK} {b:Nat} {e:aO} {pre post:List bN}
def Jy(one:P.cellsOf 5=1/\(P.info? 5).isSome=true){N u0 j u:Nat}(f:FBI g b e A pre post N u0 (j+2) u h){E1 E0 I1 I2:Int}(h1:E1=((2*(u%100)+1:Nat):Int))(h0:E0=((2*(u%100):Nat):Int))(hI1:I1=((j+1:Nat):Int))(hI2:I2=(j:Int)){C:aM->Prop}(hC:∀ h',FBI g b e A pre post N u0 j (u/100) h'->C h'):
 ∃ (t:UInt8),(0<=E1/\J2[E1.toNat]? = some t)/\∃ (t0:UInt8),(0<=E0/\J2[E0.toNat]? = some t0)/\∃ a1,A=some a1/\0<=I1/\I1<((N:Nat):Int)/\wpH P (Instr.storeAt 5 (.pointer (some (Addr.add a1 (I1.toNat*1)))) (Y ((t.toNat:Nat):Int))) (fun _ hp1=>∃ a2,A=some a2/\0<=I2/\I2<((N:Nat):Int)/\wpH P (Instr.storeAt 5 (.pointer (some (Addr.add a2 (I2.toNat*1)))) (Y ((t0.toNat:Nat):Int))) (fun _ hp2=>C hp2) hp1) h:=by
 subst h1 h0 hI1 hI2
 obtain ⟨c,t,w,z,F,i,E⟩:=f
 obtain ⟨n,m⟩:=A6k (u%100) o
 have r:∃ a,A=some a:=by
  rcases w.at_ with h0|h0
  ·simp_all
  grind
 obtain ⟨a,d⟩:=r
 have k:(c++zb t).length=N:=by rw [aJ,Hb];omega
 refine ⟨_,⟨o,by exact n⟩,_,⟨o,by exact m⟩,a,d,o,o,?_⟩
 refine w.storeN one d o ?_
 intro B q
 refine ⟨a,d,o,o,?_⟩
 refine q.storeN one d gz0 ?_
 intro p D
 refine hC p ⟨c.take j,[dch (u/10%10),dch (u%10)]++t,?_,gz0,gz0,?_,?_⟩
 ·have y:((c++zb t).set (j+1) ((dch (u%100%10)).toNat:Int)).set j ((dch (u%100/10)).toNat:Int)=c.take j++zb ([dch (u/10%10),dch (u%10)]++t):=by
   have s:c=c.take j++[c[j]'o,c[j+1]'o]:=by
    conv=>lhs;rw [<- cH j c]
    congr 1
    rw [bW o,bW o,cD o]
   have l:(c.take j).length=j:=gz0
   rw [s,show u%100%10=u%10 from o,show u%100/10=u/10%10 from o]
   generalize c[j]'_=y0
   generalize c[j+1]'_=y1
   rw [List.take_append_of_le_length o,aG (show (c.take j).length<=j from o)]
   generalize c.take j=zs at *
   rw [bY,List.set_append_right _ _ o,List.set_append_right _ _ o,l,Zw]
   simp [zb]
  grind
 ·rw [i,B6n];simp
 grind
end
section
variable {h g:aM} {K:VP} {A:Option aK} {b:Nat} {e:aO} {pre post:List bN}
def Ku:prog.cellsOf 5=1/\(prog.info? 5).isSome=true:=A6i
def C0o{N u0 nd x:Nat}(hN:N<=24)(f:FBI g b e A pre post N u0 nd x h)(hn:nd<2)(hK:∀ h',Win .u8 h' g b e A pre (zb (pad N u0)) post->K (.tuple #[]) h'):Gw prog A N K nd x h:=by
 obtain ⟨c,t,w,k,hN,i,u⟩:=f
 refine C0 (fun m=>?_) (fun m=>?_)
 ·obtain rfl:nd=1:=o
  obtain ⟨y,rfl⟩:∃ y,c=[y]:=by
   rcases c with _|⟨y,_|⟨z,r⟩⟩
   ·grind
   ·grind
   grind
  have q:∃ a,A=some a:=by
   rcases w.at_ with n|n
   ·grind
   grind
  obtain ⟨a,j⟩:=q
  refine ⟨a,j,o,o,?_⟩
  refine w.storeN Ku j (by simp) ?_
  intro l p
  refine hK l ?_
  have d:x<10:=o
  have ev:wu8 (I6 (48+(x:Int)))=((dch x).toNat:Int):=by
   rw [Q3 o o,Vg o o,Ev d];omega
  rw [ev] at p
  have s:pad 1 x=[dch x]:=by
   rw [Qx,A9w _ o,show x%10=x from o];rfl
  rw [i,s,Zw]
  assumption
 ·obtain rfl:nd=0:=o
  have:c=[]:=aL k
  subst this
  have d:x=0:=o
  refine hK h ?_
  rw [i,A9w _ d]
  assumption
def C0n{N u0 nd x:Nat}(hN:N<=24)(f:FBI g b e A pre post N u0 nd x h)(hn:nd<4)(hK:∀ h',Win .u8 h' g b e A pre (zb (pad N u0)) post->K (.tuple #[]) h'):Gx prog A N K nd x h:=by
 have u:x<10000:=by
  obtain ⟨_,_,_,_,_,_,n⟩:=f
  exact aP n (bI (aI dc (show nd<=4 from o)) dc)
 refine ⟨fun l d=>∃ nd x:Nat,l=[I nd,U32 x]/\FBI g b e A pre post N u0 nd x d/\nd<2,C0 (fun m=>?_) (fun m=>?_),?_⟩
 ·obtain ⟨j,rfl⟩:∃ j,nd=j+2:=⟨nd-2,o⟩
  refine Jy Ku f ?_ ?_ (by rw [C1 o o];omega) (by rw [C1 o o];omega) ?_
  ·simp (disch:=omega) only [A08,Gz,Mc,A4n]
  ·simp (disch:=omega) only [A08,Gz,Mc]
  ·intro t i
   refine ⟨j,x/100,?_,i,o⟩
   rw [C1 o o,A34,Gz o]
   grind
 ·grind
 ·rintro c r d ⟨q,p,s,k,a⟩
  obtain ⟨rfl,rfl⟩:c=(q:Int)/\r=(p:Int):=gz0
  exact C0o hN k a hK
def Af{u an ac:Nat}{xs:List Int}(w:Win .u8 h g b e A pre xs post)(hn:an=xs.length)(hN:an<=24)(hu:u<10^an)(hu2:u<18446744073709551616)(hK:∀ h',Win .u8 h' g b e A pre (zb (pad an u)) post->K (.tuple #[]) h'):aH prog 288 #[.slice A an ac,U (u:Int)] h K:=by
 refine Qp _ _ _ _ ?_
 refine ⟨fun l d=>∃ a v:Nat,l=[U v,I a]/\FBI g b e A pre post an u a v d/\v<=u,fun l _=>(iAt l 1).toNat,⟨an,u,rfl,⟨xs,[],by simpa [zb] using w,hn.symm,by simp,by simp,hu⟩,bH _⟩,?_⟩
 rintro C i d ⟨a,v,O,f,Q⟩
 obtain ⟨rfl,rfl⟩:C=(v:Int)/\i=(a:Int):=gz0
 have M:a<=an:=by obtain ⟨_,_,_,_,hN,_,_⟩:=f;omega
 refine C0 (fun t=>?_) (fun t=>?_)
 ·obtain ⟨j,rfl⟩:∃ j,a=j+8:=⟨a-8,o⟩
  refine Jy (j:=j+6) Ku f ?_ ?_ (by rw [C1 o o];omega) (by rw [C1 o o];omega) ?_
  ·simp (disch:=omega) only [tm8,tm4,A08,Gz,Mc,A4n];omega
  ·simp (disch:=omega) only [tm8,tm4,A08,Gz,Mc];omega
  intro p H
  refine Jy (j:=j+4) Ku H ?_ ?_ (by rw [C1 o o];omega) (by rw [C1 o o];omega) ?_
  ·simp (disch:=omega) only [tm8,tm4,A34,Gz,Mc,A4n];omega
  ·simp (disch:=omega) only [tm8,tm4,A34,Gz,Mc];omega
  intro F c
  refine Jy (j:=j+2) Ku c ?_ ?_ (by rw [C1 o o];omega) (by rw [C1 o o];omega) ?_
  ·simp (disch:=omega) only [tm8,A08,td4,Gz,Mc,A4n];omega
  ·simp (disch:=omega) only [tm8,A08,td4,Gz,Mc];omega
  intro s n
  refine Jy (j:=j) Ku n ?_ ?_ (by rw [C1 o o];omega) (by rw [C1 o o];omega) ?_
  ·simp (disch:=omega) only [tm8,A34,td4,Gz,Mc,A4n];omega
  ·simp (disch:=omega) only [tm8,A34,td4,Gz,Mc];omega
  intro N D
  have L:C4 (((j+8:Nat):Int)-8)=(j:Int):=by rw [C1 o o];omega
  have z:C8 (cM (v:Int) 100000000)=((v/100/100/100/100:Nat):Int):=by
   rw [td8,C6 o o];omega
  rw [L,z]
  exact ⟨⟨j,_,rfl,D,o⟩,by simp only [iAt,aE,aF];omega⟩
 ·have y:v<100000000:=by
   obtain ⟨_,_,_,_,_,_,hu⟩:=f
   exact aP hu (bI (aI dc (show a<=8 from o)) dc)
  refine ⟨fun l d=>∃ a x:Nat,l=[I a,U32 x]/\FBI g b e A pre post an u a x d/\a<4,C0 (fun p=>?_) (fun p=>?_),?_⟩
  ·obtain ⟨j,rfl⟩:∃ j,a=j+4:=⟨a-4,o⟩
   refine Jy (j:=j+2) Ku f ?_ ?_ (by rw [C1 o o];omega) (by rw [C1 o o];omega) ?_
   ·simp (disch:=omega) only [tm4,A08,Gz,Mc,A4n];omega
   ·simp (disch:=omega) only [tm4,A08,Gz,Mc];omega
   intro F c
   refine Jy (j:=j) Ku c ?_ ?_ (by rw [C1 o o];omega) (by rw [C1 o o];omega) ?_
   ·simp (disch:=omega) only [tm4,A34,Gz,Mc,A4n];omega
   ·simp (disch:=omega) only [tm4,A34,Gz,Mc];omega
   intro s n
   refine ⟨j,v/100/100,?_,n,o⟩
   rw [C1 o o,Gz o,td4,Gz o]
   grind
  ·exact ⟨a,v,by rw [Gz o],f,o⟩
  ·rintro m G B ⟨r,q,E,c,k⟩
   obtain ⟨rfl,rfl⟩:m=(r:Int)/\G=(q:Int):=gz0
   exact C0n hN c k hK
end
def Sy{P:cL}{h:aM}{l:List UInt8}{m:Nat}{ys:List bN}(hy:ys=yv l)(hm:m=l.length){K:Array bN->aM->Prop}(x:K ys.toArray h):wpH P (Builtin.firstCells 1 m (.string (bs l))) K h:=by
 show K _ h
 have e:((bs l).extract 0 l.length).data.map (fun b=>aN .u8 b.toNat)=(yv l).toArray:=by
  apply Array.toList_inj.1
  simp [bs,yv]
 grind
def Tv{P:cL}{t e e' ty:aO}{z:bN}{bytes:Nat}(st:SliceT P t e z 1 bytes){h g:aM}{A:Option aK}{n c:Nat}{xs:List bN}(p:bO h g e' 1 A n c xs)
 {B:Option aK} {m d:Nat} {ys:List bN} (hy:ys.length=m) (hc:SlV h B ys) (h1:∀ v∈ys,Nr v=true) (hb:(2*(n+m)+192)*bytes<=281474976710656) (hm:n+m<=9223372036854775807) {K:VP}
 (x1:n+m<=c->∀ h',bO h' g e' 1 A (n+m) c (xs++ys)->K (.slice A (n+m) c) h') (x2:c<n+m->∀ A' c' h' g',g.le g'->bO h' g' e 1 A' (n+m) c' (xs++ys)->K (.slice A' (n+m) c') h'):
 wpH P (bF #[t,t] ty #[.slice A n c,.slice B m d]) K h:=by
 obtain ⟨i,y,X,L,w⟩:=st.parts
 have S:=p.1
 unfold bF
 simp only [List.getElem?_toArray,aE,aF,C9,F0 st.und,J3 y,H2,Bool.false_eq_true,if_false,Builtin.lenOf,L,Bool.not_false,if_true]
 by_cases f:n+m<=c
 ·simp only [f,if_true,C9]
  refine M0 o hc ?_
  rcases p.2.2 with ⟨F,T⟩|⟨b,O,W,Q,hh,D,G⟩
  ·have R:n=0:=o
   subst R;subst T
   have H:ys=[]:=aL o
   have r:K (.slice A (0+m) c) h:=x1 f h ⟨gz0,o,.inl ⟨F,rfl⟩⟩
   subst H
   cases A with
   | none=>exact r
   | some a=>exact r
  ·subst W
   simp only [C9,D4,bU]
   rw [hh]
   rw [aV] at D G ⊢
   refine G8 ys.toArray.toList n 0 O ?_ (fun v hv=>h1 v o) ?_
   ·grind
   ·refine x1 f _ ⟨gz0,f,.inr ⟨b,_,rfl,Q,rfl,?_,?_⟩⟩
    ·simp only [H9,aJ,bL,cN,D,hy];omega
    ·unfold H9
     grind
 ·have q:c<n+m:=o
  simp only [f,if_false,C9,I7 y,w]
  have M:=Oi q
  have aa:Builtin.nextslicecap (n+m) c*bytes<=281474976710656:=bI (Nat.mul_le_mul_right _ M) hb
  rw [iN (by rintro ⟨h',_⟩;simp only [IntKind.max,IntKind.signed,IntKind.bits] at h';omega)]
  simp only [C9,I7 y,w]
  rw [iN o]
  simp only [H2,C9]
  refine Ih rfl fun tt=>?_
  simp only [Fg,I7 y]
  have u:xs=[]\/∃ a,A=some a/\∀ j v,xs[j]? = some v->h.cell? (a.add j)=some v:=p.slV
  refine M0 p.1 u ?_
  refine M0 o hc ?_
  simp only [N7 y X,Y9]
  intro b k
  have C:∃ l,(Question.appendCap (n+m) c e).cut tt=l/\n+m<=l:=⟨_,rfl,by simp only [Question.cut];omega⟩
  obtain ⟨l,N,E⟩:=C
  rw [N]
  have s:=p.le
  refine x2 q _ l _ h s ⟨gz0,E,.inr ⟨b,xs++ys++(aU z.cells (l-(n+m))).toList,rfl,k,?_,?_,?_⟩⟩
  ·congr 1;simp
  ·have V:(aU z.cells (l-(n+m))).toList.length=l-(n+m):=by simp [aU,st.cells]
   grind
  grind
def A80{P:cL}{t e e' ty t2:aO}{z:bN}{bytes:Nat}(st:SliceT P t e z 1 bytes)(hu:P.underlying t2=some .string){h g:aM}{A:Option aK}{n c:Nat}{xs:List bN}(p:bO h g e' 1 A n c xs)
 {m:Nat} {l:List UInt8} {ys:List bN} (hly:ys=yv l) (hm0:m=l.length) (hy:ys.length=m) (h1:∀ v∈ys,Nr v=true) (hb:(2*(n+m)+192)*bytes<=281474976710656) (hm:n+m<=9223372036854775807) {K:VP}
 (x1:n+m<=c->∀ h',bO h' g e' 1 A (n+m) c (xs++ys)->K (.slice A (n+m) c) h') (x2:c<n+m->∀ A' c' h' g',g.le g'->bO h' g' e 1 A' (n+m) c' (xs++ys)->K (.slice A' (n+m) c') h'):
 wpH P (bF #[t,t2] ty #[.slice A n c,.string (bs l)]) K h:=by
 obtain ⟨i,y,W,H,w⟩:=st.parts
 have R:=p.1
 unfold bF
 simp only [List.getElem?_toArray,aE,aF,C9,F0 st.und,F0 hu,J3 y,H2,Bool.false_eq_true,if_false,Builtin.lenOf,H,Bool.not_false,if_true,I9,<- hm0]
 by_cases d:n+m<=c
 ·simp only [d,if_true,C9]
  refine Sy hly hm0 ?_
  rcases p.2.2 with ⟨E,S⟩|⟨b,N,V,O,X,C,F⟩
  ·have Q:n=0:=o
   subst Q;subst S
   have G:ys=[]:=aL o
   have r:K (.slice A (0+m) c) h:=x1 d h ⟨gz0,o,.inl ⟨E,rfl⟩⟩
   subst G
   cases A with
   | none=>exact r
   | some a=>exact r
  ·subst V
   simp only [C9,D4,bU]
   rw [X]
   rw [aV] at C F ⊢
   refine G8 ys.toArray.toList n 0 N ?_ (fun v hv=>h1 v o) ?_
   ·grind
   ·refine x1 d _ ⟨gz0,d,.inr ⟨b,_,rfl,O,rfl,?_,?_⟩⟩
    ·simp only [H9,aJ,bL,cN,C,hy];omega
    ·unfold H9
     grind
 ·have q:c<n+m:=o
  simp only [d,if_false,C9,I7 y,w]
  have L:=Oi q
  have aa:Builtin.nextslicecap (n+m) c*bytes<=281474976710656:=bI (Nat.mul_le_mul_right _ L) hb
  rw [iN (by rintro ⟨h',_⟩;simp only [IntKind.max,IntKind.signed,IntKind.bits] at h';omega)]
  simp only [C9,I7 y,w]
  rw [iN o]
  simp only [H2,C9]
  refine Ih rfl fun tt=>?_
  simp only [Fg,I7 y]
  have u:xs=[]\/∃ a,A=some a/\∀ j v,xs[j]? = some v->h.cell? (a.add j)=some v:=p.slV
  refine M0 p.1 u ?_
  refine Sy hly hm0 ?_
  simp only [N7 y W,Y9]
  intro b f
  have B:∃ k,(Question.appendCap (n+m) c e).cut tt=k/\n+m<=k:=⟨_,rfl,by simp only [Question.cut];omega⟩
  obtain ⟨k,M,D⟩:=B
  rw [M]
  have s:=p.le
  refine x2 q _ k _ h s ⟨gz0,D,.inr ⟨b,xs++ys++(aU z.cells (k-(n+m))).toList,rfl,f,?_,?_,?_⟩⟩
  ·congr 1;simp
  ·have T:(aU z.cells (k-(n+m))).toList.length=k-(n+m):=by simp [aU,st.cells]
   grind
  grind
def Xx(l:List UInt8):∀ v∈yv l,Nr v=true:=by
 intro v a
 simp only [yv,List.mem_map] at a
 obtain ⟨c,_,rfl⟩:=a
 rfl
def Dd{P:cL}{t:aO}{z v:bN}(hz:(P.info? t).map (fun i=>i.zero)=some (some z)){K:VP}{h:aM}(x:∀ b,h b=none->K (.pointer (some ⟨b,0,none⟩)) (h.put b (.cells z.cells t))):wpH P (Instr.alloc t true v) K h:=by
 cases hi:P.info? t with
 | none=>rw [hi] at hz;cases hz
 | some i=>
  rw [hi] at hz
  simp only [Option.map_some,aT] at hz
  unfold Instr.alloc
  simp only [C9,N7 hi hz]
  exact x
def A68:(prog.info? 365).map (fun i=>i.zero)=some (some (.agg (bG 24 (.int .u8 0)))):=by kernel_rfl
def Gp(h:aM):Prop:=∀ k,k<20->h.cell? (Addr.add ⟨3,0,none⟩ (k*1))=some (U ((10^k:Nat):Int))
def Gp.mono{h h':aM}(g:Gp h)(l:h.le h'):Gp h':=fun k a=>C2 l (g k a)
section
variable {h g:aM} {K:VP}
def Vm{i:Nat}(hi:i<100)(hK:K (.string (bs (Q8 i))) h):aH prog 286 #[I i] h K:=by
 refine B1u _ ?_
 have key:∀ i:Nat,i<100->(i<10->Yh.extract i (i+1)=bs (Q8 i))/\(¬ i<10->J2.extract (2*i) (2*i+2)=bs (Q8 i)):=by
  intro i hi
  revert i
  decide +kernel
 obtain ⟨b,c⟩:=key i hi
 refine C0 (fun d=>?_) (fun d=>?_)
 ·have a:C4 ((i:Int)+1)=((i+1:Nat):Int):=by rw [C1 o o];omega
  rw [a,aC,aC,b o]
  exact ⟨⟨o,by show _<=((36:Nat):Int);omega⟩,⟨o,o⟩,hK⟩
 ·have a:C4 ((i:Int)*2)=((2*i:Nat):Int):=by rw [C1 o o];omega
  have e:C4 (((2*i:Nat):Int)+2)=((2*i+2:Nat):Int):=by rw [C1 o o];omega
  rw [a,e,aC,aC,c o]
  exact ⟨⟨o,by show _<=((200:Nat):Int);omega⟩,⟨o,o⟩,hK⟩
def Dm{d:Nat}(gp:Gp h)(h0:d≠0)(hd:d<18446744073709551616)(hK:K (I ((dd d).length:Int)) h):aH prog 287 #[U (d:Int)] h K:=by
 refine (fnk func287) ?_
 have e:S0 d<=64:=Hv hd
 obtain ⟨_,_,c⟩:=B50 (S0 d) o
 refine A5o hd ⟨_,rfl,(fnk func307) ?_⟩
 have b:Int.fdiv (C4 ((S0 d:Int)*78913)) (2^(min ((18:Int)).toNat 64))=((ndg (S0 d):Nat):Int):=by
  rw [show (2:Int)^(min ((18:Int)).toNat 64)=262144 from dc,Int.fdiv_eq_ediv_of_nonneg _ dc,C1 o o]
  rfl
 rw [b]
 refine ⟨_,rfl,⟨o,o⟩,_,by rw [aC];exact gp _ o,(fnk func308) ?_⟩
 rw [C08 h0 hd] at hK
 refine C0 (fun a=>⟨_,rfl,?_⟩) (fun a=>⟨_,rfl,?_⟩)
 ·rw [iP o] at hK
  rw [C1 o o]
  exact hK
 ·rw [iN o] at hK
  rw [C1 o o]
  exact hK
def Cn{e':aO}{A:Option aK}{n c i:Nat}{l:List UInt8}(gp:Gp h)(p:bO h g e' 1 A n c (yv l))(hi:i<18446744073709551616)(hn:n<=1000000000000)
 (hK:∀ A' c' e2 h' g',g.le g'->bO h' g' e2 1 A' (n+(Q8 i).length) c' (yv (l++Q8 i))->(n+(Q8 i).length<=c->A'=A/\c'=c/\e2=e')->(e'=5->e2=5)->K (.slice A' (n+(Q8 i).length:Nat) c') h'):aH prog 290 #[.slice A n c,U (i:Int),I 10] h K:=by
 refine (fnk func290 (wr:=[288])) ?_
 refine D5 (fun _=>?_) (fun e=>absurd rfl e)
 have w:(Q8 i).length<=20:=(Nb dc).2 oo
 refine C0 (fun H=>?_) (fun H=>?_)
 ·rw [C1 oo oo]
  refine Vm oo ⟨_,rfl,?_⟩
  refine A80 Ee V1 p (l:=Q8 i) rfl rfl (He _) (Xx _) oo oo ?_ ?_
  ·intro t h' a
   rw [<- V9] at a
   exact ⟨_,_,_,rfl,hK _ _ _ _ _ (B7 _) a (fun _=>⟨rfl,rfl,rfl⟩) id⟩
  ·intro t A' c' h' g' D a
   rw [<- V9] at a
   grind
 ·refine Dd A68 ?_
  intro b d
  have L:(Value.agg (bG 24 (.int .u8 0))).cells=((aD 24 (0:Int)).map (aN .u8)).toArray:=by rfl
  rw [L]
  have F:Win .u8 (h.put b (.cells ((aD 24 (0:Int)).map (aN .u8)).toArray 365)) h b 365 (some ⟨b,0,none⟩) [] (aD 24 (0:Int)) []:=⟨d,by simp,.inr rfl⟩
  generalize (h.put b (.cells ((aD 24 (0:Int)).map (aN .u8)).toArray 365))=h1' at *
  refine ⟨_,rfl,Dm (gp.mono F.le) oo hi ⟨_,rfl,?_⟩⟩
  have f:Q8 i=dd i:=Db oo
  rw [f] at w hK
  refine ⟨⟨oo,oo⟩,?_⟩
  rw [aC,bC]
  have B:=F.sub (l:=0) (m:=(dd i).length) (c:=24) oo gz0 (by simp)
  have u:((aD 24 (0:Int)).drop 0).take ((dd i).length-0)=aD (dd i).length 0:=by
   grind
  rw [u] at B
  have j:i<10^(dd i).length:=T1.1 (bH _)
  refine Af B (by simp) oo j hi ?_
  intro C z
  refine ⟨rfl,⟨oo,oo⟩,?_⟩
  have y:pad (dd i).length i=dd i:=by simp [pad]
  rw [y] at z
  have M:SlV C (T9 (some ⟨b,0,none⟩) 24 0 1) (yv (dd i)):=by
   have:=z.sl
   unfold SlI at this
   rw [B83] at this
   exact this
  have s:=z.eq
  obtain ⟨o,ho⟩:∃ o,C=h.put b o:=⟨_,s⟩
  subst ho
  have G:=p.put d o
  have r:g.le (g.put b o):=by
   intro k N E
   have q:k≠b:=by
    rintro rfl
    rw [p.le k N E] at d;cases d
   rw [B9 _ _ q];exact E
  refine Tv Ee G (He _) M (Xx _) oo oo ?_ ?_
  ·intro t h' a
   rw [<- V9] at a
   grind
  ·intro t A' c' h' g' D a
   rw [<- V9] at a
   exact ⟨_,_,_,rfl,hK _ _ _ _ _ (B0 r D) a (fun e=>oo) (fun _=>rfl)⟩
end
structure Ext (g:aM) (e':aO) (A:Option aK) (n c:Nat) (l t:List UInt8) (A':Option aK) (n' c':Nat) (e2:aO) (g' h':aM):Prop where
 le:g.le g'
 priv:bO h' g' e2 1 A' n' c' (yv (l++t))
 len:n'=n+t.length
 fit:n+t.length<=c->A'=A/\c'=c/\e2=e'
 tag:e'=5->e2=5
def Ext.trans{g g1 g2 h1 h2:aM}{e' e1 e2:aO}{A A1 A2:Option aK}{n c n1 c1 n2 c2:Nat}{l t s:List UInt8}(x:Ext g e' A n c l t A1 n1 c1 e1 g1 h1)(y:Ext g1 e1 A1 n1 c1 (l++t) s A2 n2 c2 e2 g2 h2):Ext g e' A n c l (t++s) A2 n2 c2 e2 g2 h2:=by
 refine ⟨B0 x.le y.le,?_,?_,?_,fun e=>y.tag (x.tag e)⟩
 ·have:=y.priv;grind
 ·rw [y.len,x.len,aJ];omega
 ·intro a
  rw [aJ] at a
  obtain ⟨rfl,rfl,rfl⟩:=x.fit o
  have b:=x.len
  exact y.fit o
section
variable {h g:aM} {K:VP} {A:Option aK} {n c:Nat} {e':aO} {l:List UInt8}
def Gn{i:Nat}(gp:Gp h)(p:bO h g e' 1 A n c (yv l))(hi:i<18446744073709551616)(hn:n<=1000000000000)
 (hK:∀ A' n' c' e2 g' h',Ext g e' A n c l (Q8 i) A' n' c' e2 g' h'->K (.slice A' n' c') h'):aH prog 292 #[.slice A n c,U (i:Int),I 10] h K:=by
 refine (fnk func292) ?_
 refine Cn gp p hi hn ?_
 intro A' c' e2 h' g' b d a e
 exact ⟨_,_,_,rfl,hK _ _ _ _ _ _ ⟨b,d,rfl,a,e⟩⟩
def Fp{ch:UInt8}{v:Int}(hv:v=(ch.toNat:Int))(p:bO h g e' 1 A n c (yv l))(hn:n<=1000000000000){KK:Option aK->Nat->Nat->aM->Prop}
 (x:∀ A' n' c' e2 g' h',Ext g e' A n c l [ch] A' n' c' e2 g' h'->KK A' n' c' h'):
 wpH prog (Instr.buildSlice 206 1 #[(0,Y v)]) (fun v1 hp1=>∃ (A1:Option aK) (n1 c1:Nat),v1= .slice A1 n1 c1/\wpH prog (bF #[206,206] 206 #[.slice A n c,.slice A1 n1 c1]) (fun v2 hp2=>∃ (A2:Option aK) (n2 c2:Nat),v2= .slice A2 n2 c2/\KK A2 n2 c2 hp2) hp1) h:=by
 subst hv
 refine Q7 Ee rfl ?_
 intro b a
 refine ⟨_,_,_,rfl,?_⟩
 have s:=p.put a (.cells #[Y (ch.toNat:Int)] 5)
 have d:g.le (g.put b (.cells #[Y (ch.toNat:Int)] 5)):=by
  intro k w q
  have i:k≠b:=by
   rintro rfl
   rw [p.le k w q] at a;cases a
  rw [B9 _ _ i];exact q
 have t:SlV (h.put b (.cells #[Y (ch.toNat:Int)] 5)) (some ⟨b,0,none⟩) (yv [ch]):=by
  refine .inr ⟨_,rfl,fun j u z=>?_⟩
  rw [D4,D7]
  match j with
  | 0=>assumption
  | j+1=>assumption
 refine Tv Ee s (m:=1) (ys:=yv [ch]) rfl t (Xx _) o o ?_ ?_
 ·intro r h' f
  rw [<- V9] at f
  exact ⟨_,_,_,rfl,x _ _ _ _ _ _ ⟨d,f,rfl,fun _=>⟨rfl,rfl,rfl⟩,id⟩⟩
 ·intro r A' c' h' g' y f
  rw [<- V9] at f
  exact ⟨_,_,_,rfl,x _ _ _ _ _ _ ⟨B0 d y,f,rfl,fun e=>gz0,fun _=>rfl⟩⟩
def Qs{i:Int}(h:i<0):Ny i=[45]++Q8 i.natAbs:=by unfold Ny;grind
def Kv{i:Int}(h:¬ i<0):Ny i=Q8 i.natAbs:=by unfold Ny;grind
def Jm{i:Int}(gp:Gp g)(p:bO h g e' 1 A n c (yv l))(h1: -9223372036854775808<=i)(h2:i<9223372036854775808)(hn:n<=100000000000)
 (hK:∀ A' n' c' e2 g' h',Ext g e' A n c l (Ny i) A' n' c' e2 g' h'->K (.slice A' n' c') h'):aH prog 216 #[.slice A n c,I i,I 10] h K:=by
 refine (fnk func216) ?_
 refine (fnk func262) ?_
 refine C0 (fun k=>?_) (fun k=>?_)
 ·rw [Qs k] at hK
  refine Fp (ch:=45) rfl p o ?_
  intro A1 u c1 t s r a
  have e:C8 (0-C8 i)=((i.natAbs:Nat):Int):=by rw [F2,F2];omega
  rw [e]
  refine Cn (gp.mono (B0 a.le a.priv.le)) a.priv o (by have:=a.len;grind) ?_
  intro A2 c2 e2 m q d f b j
  exact ⟨_,_,_,rfl,_,_,_,rfl,hK _ _ _ _ _ _ (a.trans ⟨d,f,rfl,b,j⟩)⟩
 ·rw [Kv k] at hK
  have e:C8 i=((i.natAbs:Nat):Int):=by rw [F2];omega
  rw [e]
  refine Cn (gp.mono p.le) p o o ?_
  intro A2 c2 e2 m q d f b j
  exact ⟨_,_,_,rfl,_,_,_,rfl,hK _ _ _ _ _ _ ⟨d,f,rfl,b,j⟩⟩
def Zy{b:Nat}{e:aO}{B:Option aK}{pre post:List bN}{s:List UInt8}(w:Win .u8 h g b e B pre (zb s) post):SlV h B (yv s):=by
 have:=w.sl
 unfold SlI at this
 rw [B83] at this
 exact this
def Do{i:Int}(gp:Gp h)(h1: -9223372036854775808<=i)(h2:i<9223372036854775808)(hK:K (.string (bs (Ny i))) h):aH prog 212 #[I i,I 10] h K:=by
 refine FCall.pure ((fnk func212) ?_)
 refine (fnk func260 (cs:=[(3,[17],[],[.bool false])]) (wr:=[288])) ?_
 refine D5 (fun _=>?_) (fun e=>absurd rfl e)
 refine ⟨fun L j=>L=[.bool (decide (0<=i/\i<100))]/\j=h,C0 (fun n=>⟨by simp [n],rfl⟩) (fun n=>⟨by simp [n],rfl⟩),?_⟩
 rintro t j ⟨O,rfl⟩
 obtain rfl:t=decide (0<=i/\i<100):=gz0
 refine C0 (fun n=>?_) (fun n=>?_)
 ·obtain ⟨k,rfl⟩:∃ k:Nat,i=k:=⟨i.toNat,o⟩
  refine Vm o ⟨_,rfl,⟨_,rfl,B7 _,?_⟩⟩
  assumption
 ·refine Dd A68 ?_
  intro b G
  have H:(Value.agg (bG 24 (.int .u8 0))).cells=((aD 24 (0:Int)).map (aN .u8)).toArray:=by rfl
  rw [H]
  have r:Win .u8 (j.put b (.cells ((aD 24 (0:Int)).map (aN .u8)).toArray 365)) j b 365 (some ⟨b,0,none⟩) [] (aD 24 (0:Int)) []:=⟨G,by simp,.inr rfl⟩
  generalize (j.put b (.cells ((aD 24 (0:Int)).map (aN .u8)).toArray 365))=hp1 at *
  refine ⟨_,rfl,?_⟩
  obtain ⟨u,hu⟩:∃ u:Nat,u=i.natAbs:=⟨_,rfl⟩
  have a:u≠0:=o
  have A:Q8 u=dd u:=Db a
  have N:(dd u).length<=20:=T1.2 o
  have C:C4 (1+(((dd u).length:Nat):Int))=((1+(dd u).length:Nat):Int):=by rw [C1 o o];omega
  have s:=r.sub (l:=1) (m:=1+(dd u).length) (c:=24) o gz0 (by simp)
  have z:((aD 24 (0:Int)).drop 1).take (1+(dd u).length-1)=aD (dd u).length 0:=by
   grind
  rw [z] at s
  have f:u<10^(dd u).length:=T1.1 (bH _)
  have q:pad (dd u).length u=dd u:=by simp [pad]
  have g:1+(dd u).length-1=(dd u).length:=o
  refine C0 (fun p=>?_) (fun p=>?_)
  ·rw [Qs p,<- hu,A] at hK
   have e:C8 (0-C8 i)=(u:Int):=by rw [F2,F2];omega
   rw [e]
   refine Dm (gp.mono r.le) a o ⟨_,rfl,?_⟩
   dsimp only;rw [C,aC]
   refine ⟨⟨o,o⟩,⟨o,o⟩,?_⟩
   rw [show ((1:Int)).toNat=1 from rfl,g]
   refine Af s (by simp) o f o ?_
   intro y d
   rw [q] at d
   refine ⟨rfl,C0 (fun _=>?_) (fun w=>absurd p w)⟩
   have F:=r.whole (l:=1) (m:=1+(dd u).length) o gz0 (by rw [Hb];omega) d
   refine ⟨⟨o,o⟩,?_⟩
   rw [show ((0:Int)).toNat=0 from rfl]
   refine F.storeN Ku rfl (by simp) ?_
   intro M B
   refine ⟨⟨o,o⟩,?_⟩
   have D:=B.sub (l:=0) (m:=1+(dd u).length) (c:=24) o (by simp [Hb];omega) (by simp [Hb];omega)
   have E:((((aD 24 (0:Int)).take 1++zb (dd u)++(aD 24 (0:Int)).drop (1+(dd u).length)).set 0 45).drop 0).take (1+(dd u).length-0)=zb ([45]++dd u):=by
    rw [aX,List.take_replicate,show min 1 24=1 from rfl,show aD 1 (0:Int)=[0] from rfl,bY,List.singleton_append,List.set_cons_zero,bC,Nat.add_comm 1,List.take_succ_cons,List.take_left' (Hb _)]
    rfl
   rw [E] at D
   refine Il Ee.und Cc V1 (Zy D) gz0 ⟨_,rfl,_,rfl,?_,hK⟩
   exact B.le
  ·rw [Kv p,<- hu,A] at hK
   have e:C8 i=(u:Int):=by rw [F2];omega
   rw [e]
   refine Dm (gp.mono r.le) a o ⟨_,rfl,?_⟩
   dsimp only;rw [C,aC]
   refine ⟨⟨o,o⟩,⟨o,o⟩,?_⟩
   rw [show ((1:Int)).toNat=1 from rfl,g]
   refine Af s (by simp) o f o ?_
   intro y d
   rw [q] at d
   refine ⟨rfl,C0 (fun w=>absurd w p) (fun _=>?_)⟩
   refine ⟨⟨o,o⟩,⟨o,o⟩,?_⟩
   exact Il Ee.und Cc V1 (Zy d) rfl ⟨_,rfl,_,rfl,d.le,hK⟩
def Uy{s q:List UInt8}(hK:K (.tuple #[.string (bs (if q <+: s then s.drop q.length else s)),.bool (decide (q <+: s))]) h):aH prog 186 #[.string (bs s),.string (bs q)] h K:=by
 refine (fnk func186) ?_
 refine (fnk func231) ?_
 have b:aH prog 269 #[.string (bs s),.string (bs q)] h (fun r b=>r= .bool (decide (q <+: s))/\b=h):=by
  refine (fnk func269) ?_
  simp only [I9]
  refine C0 (fun a=>?_) (fun a=>?_)
  ·refine ⟨⟨o,o⟩,?_,trivial⟩
   rw [aC,N5,Jl]
   congr 1
   rw [decide_eq_decide,aX,bC,List.prefix_iff_eq_take]
   exact eq_comm
  grind
 refine b.mono ?_
 rintro r c ⟨rfl,rfl⟩
 refine ⟨_,rfl,Br.not (C0 (fun a=>?_) (fun a=>?_))⟩
 ·rw [iP a,decide_eq_true a] at hK
  have:=a.length_le
  simp only [I9]
  refine ⟨⟨o,o⟩,_,_,rfl,?_⟩
  rw [aC,N5,aG gz0]
  exact hK
 grind
end
abbrev cB:Int:=10000000000000000000
section
variable {h g:aM} {K:VP} {A B:Option aK} {ac bc:Nat}
def C11{Invv:LP}{muv:LN}{WA CA:Option aK}{wn wc cn cc:Nat}{us:List Int}{hp1 g1:aM}(p:Pw hp1 g1 WA wn wc us)(hne:us≠[])(hwn:wn=us.length)(du:Dig b64 us)(hl:wn<=100000000)
 (hK:∀ (ws:List Int) (m:Nat) (r:Int) (hp2:aM),Pw hp2 g1 WA m wc (ws.take m)->m=(ws.take m).length->m<=wn->Norm (ws.take m)->Dig b64 (ws.take m)->val b64 us=val b64 (ws.take m)*cB+r->(0<=r/\r<cB)->
  wpH prog (Instr.buildSlice 217 1 #[(0,U r)]) (fun v hp6=>∃ (t44A:Option aK) (t44n:Nat) (t44c:Nat),v= .slice t44A t44n t44c/\wpH prog (bF #[217,217] 217 #[.slice CA cn cc,.slice t44A t44n t44c]) (fun v1 hp7=>∃ (t45A:Option aK) (t45n:Nat) (t45c:Nat),v1= .slice t45A t45n t45c/\Invv [.slice WA m wc,.slice t45A t45n t45c] hp7/\muv [.slice WA m wc,.slice t45A t45n t45c] hp7<muv [.slice WA wn wc,.slice CA cn cc] hp1) hp6) hp2):
 Id prog Invv muv WA wn wc CA cn cc hp1:=by
 obtain ⟨b,g,F,S⟩:=Ff p hne
 refine ⟨fun s E=>∃ (k:Nat) (r:Int) (ws:List Int),s=[U r,I ((k:Int)-1)]/\k<=wn/\(0<=r/\r<cB)/\ws.length=us.length/\Dig b64 ws/\Win .u64 E g1 b 195 WA [] ws g/\ws.take k=us.take k/\val b64 (us.drop k)=val b64 (ws.drop k)*cB+r,fun s _=>(iAt s 1+1).toNat,⟨wn,0,us,by rw [C1 o o],o,dc,rfl,du,F,rfl,by rw [cD o];rfl⟩,?_⟩
 rintro c i hp2 ⟨k,r,ws,R,O,n,B,l,w,d,M⟩
 obtain ⟨rfl,rfl⟩:c=r/\i=(k:Int)-1:=gz0
 refine C0 (fun D=>?_) (fun D=>?_)
 ·obtain ⟨j,rfl⟩:∃ j,k=j+1:=⟨k-1,o⟩
  have e:((j+1:Nat):Int)-1=(j:Int):=o
  rw [e]
  have L:=O6 l j
  refine w.sl.load o o o ?_
  rw [aC]
  refine Ra (y:=10000000000000000000) n L dc ⟨_,_,rfl,?_⟩
  have G:us.getD j 0=ws.getD j 0:=by
   have H:(ws.take (j+1)).getD j 0=(us.take (j+1)).getD j 0:=by rw [d]
   grind
  generalize hx:ws.getD j 0=x at *
  have A:0<=c/\c<10000000000000000000:=n
  have C:0<=(c*18446744073709551616+x)/10000000000000000000/\(c*18446744073709551616+x)/10000000000000000000<18446744073709551616:=o
  obtain ⟨a,t,_⟩:=SlV.at w.sl (i:=j) gz0
  refine ⟨a,t,o,o,w.storeN F8 t o ?_⟩
  intro Q u
  rw [C1 o o]
  refine ⟨⟨j,_,_,rfl,o,gz0,gz0,l.set C,u,?_,?_⟩,by simp only [iAt,aE,aF];omega⟩
  ·rw [List.take_set_of_le o]
   have H:=congrArg (List.take j) d
   grind
  ·rw [Y6 o,Kt b64 o,M,G]
   simp only [val]
   grind
 ·obtain rfl:k=0:=o
  rw [show wn=ws.length from o] at hK ⊢
  refine Dz w.sl o o ?_
  intro m q N z
  refine ⟨_,_,_,rfl,?_⟩
  have f:ws≠[]:=gz0
  exact hK ws m c hp2 (w.priv f o q) gz0 q N (l.take m) gz0 n
end
def nv:List Nat->Nat
 | []=>0
 | c::r=>c+10^19*nv r
def B06(ns:List Nat)(c:Nat):((nv (ns++[c]):Nat):Int)=(nv ns:Int)+cB^ns.length*(c:Int):=by
 induction ns with
 | nil=>simp [nv]
 | cons d r ih=>
  have e:((10^19:Nat):Int)=cB:=dc
  simp only [List.cons_append,nv,List.length_cons,dB,Int.natCast_add,cG,ih,e]
  grind
def C2n{ns:List Nat}(h:∀ c∈ns,c<10^19):nv ns<10^(19*ns.length):=by
 induction ns with
 | nil=>simp [nv]
 | cons d r ih=>
  have a:=h d (by simp)
  simp only [nv,List.length_cons]
  grind
def C2m{ns:List Nat}(hne:ns≠[])(h:ns.getLast? ≠ some 0):nv ns≠0:=by
 induction ns with
 | nil=>grind
 | cons d r ih=>
  cases r with
  | nil=>simp at h;assumption
  | cons e s=>
   have:=ih (by simp) (by assumption)
   simp only [nv] at this ⊢
   omega
def B3c{c:Nat}:aD (19-(Q8 c).length) 48++Q8 c=pad 19 c:=by
 unfold Q8 pad
 split
 ·rename_i h;subst h;rw [K9];rfl
 ·rfl
def A9x{c w:Nat}(h:c≠0):aD (w-(Q8 c).length) 48++Q8 c=pad w c:=by
 unfold Q8 pad;grind
def A70{w n k:Nat}(h:n<10^k):(pad w n).length<=w+k:=by
 unfold pad
 have:=T1.2 h
 grind
def A87(W:Nat)(ns:List Nat)(k:Nat):List UInt8:=if k<ns.length then pad (W-19*k) (nv (ns.drop k)) else []
def B2b{W:Nat}{ns:List Nat}(h:∀ c∈ns,c<10^19)(k:Nat):(A87 W ns k).length<=W+19*ns.length:=by
 unfold A87
 split
 ·have:=A70 (w:=W-19*k) (C2n (ns:=ns.drop k) fun c a=>h c (List.mem_of_mem_drop a))
  grind
 ·simp
def A8m{W:Nat}{ns:List Nat}(hb:∀ c∈ns,c<10^19)(ht:ns.getLast? ≠ some 0){j:Nat}(hj:j<ns.length):A87 W ns j=A87 W ns (j+1)++(aD ((if j+1=ns.length then max (Q8 ns[j]).length (W-19*j) else 19)-(Q8 ns[j]).length) 48++Q8 ns[j]):=by
 have e:ns.drop j=ns[j]::ns.drop (j+1):=bW hj
 unfold A87
 rw [iP hj,e]
 by_cases h:j+1=ns.length
 ·rw [iN o,iP h,List.nil_append,cD o]
  have a:ns[j]≠0:=by
   grind
  rw [show max (Q8 ns[j]).length (W-19*j)-(Q8 ns[j]).length=(W-19*j)-(Q8 ns[j]).length from o,A9x a]
  simp [nv]
 ·rw [iP o,iN h,B3c]
  have d:nv (ns.drop (j+1))≠0:=by
   apply C2m
   ·intro b;have:=congrArg List.length b;grind
   grind
  have:=A13 (w:=W-19*j) (h:=nv (ns.drop (j+1))) (l:=ns[j]) (k:=19) (hb _ (bZ hj)) (.inl d)
  rw [Nat.sub_sub] at this
  rw [show 19*(j+1)=19*j+19 from o,<- this]
  congr 1
  simp only [nv];omega
def Priv.clear{h g:aM}{e:aO}{A:Option aK}{n c:Nat}{xs:List bN}(p:bO h g e 1 A n c xs):bO h g e 1 A 0 c []:=by
 obtain ⟨a,b,d⟩:=p
 refine ⟨by simp,o,?_⟩
 grind
def nz(ns:List Nat):List Int:=ns.map fun (x:Nat)=>(x:Int)
def Bx(g:aM)(eT:aO)(A:Option aK)(n c:Nat)(l:List UInt8)(p:aK)(CA:Option aK)(ns:List Nat)(bl t:List UInt8)(tA:Option aK)(tn tc:Nat)(hp:aM):Prop:=
 ∃ e2 gA gB,Ext g eT A n c l t tA tn tc e2 gA hp/\bO gA gB 388 1 (some p) bl.length 20 (yv bl)/\g.le gB/\SlI .u64 gB CA (nz ns)
section
variable {h g:aM} {K:VP} {A CA:Option aK} {n c:Nat} {eT:aO} {l:List UInt8} {p:aK} {ns:List Nat}
def A4r{bl t s:List UInt8}{tA tA':Option aK}{tn tc tn' tc':Nat}{e2 e3:aO}{gA gB g' hp hp':aM}(x:Ext g eT A n c l t tA tn tc e2 gA hp)(q:bO gA gB 388 1 (some p) bl.length 20 (yv bl))(lg:g.le gB)(sc:SlI .u64 gB CA (nz ns))(y:Ext gA e2 tA tn tc (l++t) s tA' tn' tc' e3 g' hp'):Bx g eT A n c l p CA ns bl (t++s) tA' tn' tc' hp':=by
 obtain ⟨a,b,d⟩:=q.after y.le
 exact ⟨e3,g',a,x.trans y,d,B0 lg b,sc.mono b⟩
def B49{Invv2:LP}{muv2:LN}{tA:Option aK}{tn tc q:Nat}{first:Bool}{i1 size:Int}{bl t:List UInt8}{hp9 hp11:aM}(x:Bx g eT A n c l p CA ns bl t tA tn tc hp11)(hq:C4 (size-((bl.length:Nat):Int))=(q:Int))(hb:n+t.length+q+bl.length<=100000000000)
 (hK:∀ tA' tn' tc' hp',Bx g eT A n c l p CA ns bl (t++(aD q 48++bl)) tA' tn' tc' hp'->Invv2 [.slice tA' tn' tc',.bool false,I (C4 (i1-1))] hp'/\muv2 [.slice tA' tn' tc',.bool false,I (C4 (i1-1))] hp'<muv2 [.slice tA tn tc,.bool first,I i1] hp9):
 Gu prog Invv2 muv2 tA tn tc first i1 (some p) bl.length 20 size hp9 hp11:=by
 refine ⟨fun s j=>∃ (k:Nat) (tA:Option aK) (tn tc:Nat),s=[.slice tA tn tc,I k]/\k<=q/\Bx g eT A n c l p CA ns bl (t++aD k 48) tA tn tc j,fun s _=>q-(iAt s 1).toNat,⟨0,tA,tn,tc,rfl,o,gz0⟩,?_⟩
 rintro B C G L u ⟨k,N,M,F,H,Q,S,T,R,ex,d,i,m⟩
 obtain ⟨⟨rfl,rfl,rfl⟩,rfl⟩:=H
 have a:=ex.len
 rw [aJ,List.length_replicate] at a
 refine C0 (fun z=>?_) (fun z=>?_)
 ·refine Fp (ch:=48) rfl ex.priv o ?_
  intro A' O w V D r y
  rw [C1 o o]
  refine ⟨⟨k+1,_,_,_,rfl,o,?_⟩,by simp only [iAt,aE,aF];omega⟩
  have:=A4r ex d i m y
  rwa [bY,<- List.replicate_succ'] at this
 ·obtain rfl:k=q:=o
  refine ⟨fun s j=>∃ (tA:Option aK) (tn tc:Nat),s=[.slice tA tn tc]/\Bx g eT A n c l p CA ns bl (t++(aD k 48++bl)) tA tn tc j,?_,?_⟩
  ·refine Tv Ee ex.priv (He bl) (SlV.mono ex.priv.le d.slV) (Xx _) o o ?_ ?_
   ·intro E r b
    rw [<- V9] at b
    refine ⟨_,_,_,rfl,_,_,_,rfl,?_⟩
    have:=A4r ex d i m (s:=bl) ⟨B7 _,b,rfl,fun _=>⟨rfl,rfl,rfl⟩,id⟩
    grind
   ·intro E A' w r D f b
    rw [<- V9] at b
    refine ⟨_,_,_,rfl,_,_,_,rfl,?_⟩
    have:=A4r ex d i m (s:=bl) ⟨f,b,rfl,fun e=>o,fun _=>rfl⟩
    grind
  grind
def B47{W tn tc:Nat}{tA:Option aK}{t:List UInt8}{e2:aO}{gA hp9:aM}(x:Ext g eT A n c l t tA tn tc e2 gA hp9)(hW:W<=10000000000)(hb:tn<=10000000000)(hK:∀ A' n' c' e3 g' h',Ext g eT A n c l (t++aD W 48) A' n' c' e3 g' h'->K (.slice A' n' c') h'):Gt prog (W:Int) K tA tn tc hp9:=by
 refine ⟨fun s b=>∃ (k:Nat) (tA:Option aK) (tn' tc:Nat) (e3:aO) (g':aM),s=[.slice tA tn' tc,I k]/\k<=W/\tn'=tn+k/\Ext g eT A n c l (t++aD k 48) tA tn' tc e3 g' b,fun s _=>W-(iAt s 1).toNat,⟨0,tA,tn,tc,e2,gA,rfl,o,rfl,gz0⟩,?_⟩
 rintro r u p f a ⟨k,w,e,i,e3,g',z,B,j,ex⟩
 obtain ⟨⟨rfl,rfl,rfl⟩,rfl⟩:=z
 refine C0 (fun q=>?_) (fun q=>?_)
 ·refine Fp (ch:=48) rfl ex.priv o ?_
  intro A' n' c' m d h' y
  rw [C1 o o]
  refine ⟨⟨k+1,_,_,_,m,d,rfl,o,?_,?_⟩,by simp only [iAt,aE,aF];omega⟩
  ·have:=y.len;grind
  ·have:=ex.trans y
   rwa [bY,<- List.replicate_succ'] at this
 grind
def B48{W cn:Nat}{tA:Option aK}{tn tc:Nat}{hp8:aM}{b:Nat}(gp:Gp g)(hp:p=⟨b,0,none⟩)(x:Bx g eT A n c l p CA ns [] [] tA tn tc hp8)(hcn:cn=ns.length)(hb:∀ c∈ns,c<10^19)(ht:ns.getLast? ≠ some 0)(hW:W<=1000000000)(hn:n<=1000000000)(hnl:ns.length<=1000000000)
 (hK:∀ A' n' c' e3 g' h',Ext g eT A n c l (pad W (nv ns)) A' n' c' e3 g' h'->K (.slice A' n' c') h'):Gv prog tA tn tc (W:Int) K CA cn p hp8:=by
 subst hcn
 have f:T9 (some p) 20 0 1=some p:=by rfl
 refine ⟨fun s hp=>∃ (k:Nat) (tA:Option aK) (tn tc:Nat) (E:List UInt8),s=[.slice tA tn tc,.bool (decide (k=ns.length)),I ((k:Int)-1)]/\k<=ns.length/\Bx g eT A n c l p CA ns E (A87 W ns k) tA tn tc hp,fun s _=>(iAt s 2+1).toNat,⟨ns.length,tA,tn,tc,[],by rw [C1 o o];simp,bH _,by unfold A87;grind⟩,?_⟩
 rintro t u B first i1 af ⟨k,ag,ae,aa,E,hs,hk,G,gA,gB,ex,z,m,N⟩
 obtain ⟨⟨rfl,rfl,rfl⟩,rfl,rfl⟩:=hs
 have F:=ex.len
 have S:=B2b (W:=W) hb k
 refine C0 (fun X=>?_) (fun X=>?_)
 ·obtain ⟨j,rfl⟩:∃ j,k=j+1:=⟨k-1,o⟩
  have e:((j+1:Nat):Int)-1=(j:Int):=o
  rw [e]
  have D:j<ns.length:=o
  refine ⟨⟨o,o⟩,?_⟩
  refine (N.mono (B0 z.le ex.priv.le)).load (by simp [nz]) o o ?_
  have hz:(nz ns).getD (j:Int).toNat 0=((ns[j]:Nat):Int):=by
   simp [nz,List.getD,D]
  rw [hz,f,show ((0:Int)).toNat-0=0 from rfl,show 20-0=20 from rfl]
  have a:=hb ns[j] (bZ D)
  have ad:(Q8 ns[j]).length<=20:=(Nb dc).2 (aP a dc)
  refine ex.priv.call ?_
  refine Gn (l:=[]) (gp.mono (B0 m z.le)) z.clear (aP a dc) o ?_
  intro A' n' c' e3 g' Q y h' T
  obtain ⟨rfl,rfl,rfl⟩:=y.fit o
  have L:=y.len
  rw [bU] at L
  subst L
  refine ⟨_,_,_,rfl,?_⟩
  have x2:Bx g eT A n c l p CA ns (Q8 ns[j]) (A87 W ns (j+1)) t u B h':=
   ⟨G,Q,g',⟨B0 m (B0 y.le y.priv.le),T,ex.len,ex.fit,ex.tag⟩,by simpa using y.priv,B0 m y.le,N.mono y.le⟩
  refine ⟨fun s hp=>s=[I (((if j+1=ns.length then max (Q8 ns[j]).length (W-19*j) else 19):Nat):Int)]/\hp=h',C0 (fun i=>⟨?_,rfl⟩) (fun i=>⟨gz0,rfl⟩),?_⟩
  ·rw [iP i,C1 (n:=19*(j:Int)) o o,C1 o o]
   grind
  ·rintro d H ⟨ac,rfl⟩
   obtain rfl:d=(((if j+1=ns.length then max (Q8 ns[j]).length (W-19*j) else 19):Nat):Int):=gz0
   have O:(Q8 ns[j]).length<=19:=(Nb dc).2 a
   generalize hsz:(if j+1=ns.length then max (Q8 ns[j]).length (W-19*j) else 19)=sz at *
   have M:(Q8 ns[j]).length<=sz/\sz<=W+20:=by
    grind
   refine B49 (q:=sz-(Q8 ns[j]).length) x2 (by rw [C1 o o];omega) o ?_
   intro w C r V R
   rw [C1 o o]
   refine ⟨⟨j,w,C,r,Q8 ns[j],?_,o,?_⟩,by simp only [iAt,aE,aF];omega⟩
   ·rw [show decide (j=ns.length)=false from gz0]
   ·rw [A8m hb ht D,hsz];exact R
 ·obtain rfl:k=0:=o
  refine C0 (fun i=>?_) (fun i=>?_)
  ·refine B47 ex o o ?_
   intro A' n' c' e3 g' h' y
   refine hK _ _ _ e3 g' _ ?_
   have:A87 W [] 0++aD W 48=pad W (nv []):=by simp [A87,nv,pad,K9]
   grind
  ·refine hK _ _ _ G gA _ ?_
   ·have:A87 W ns 0=pad W (nv ns):=by unfold A87;grind
    grind
end
def B4d:(prog.info? 388).map (fun i=>i.zero)=some (some (.agg (bG 20 (.int .u8 0)))):=by kernel_rfl
def B6p(ns:List Nat)(c:Nat):nz (ns++[c])=nz ns++[(c:Int)]:=by simp [nz]
section
variable {h g:aM} {K:VP} {A XA:Option aK} {n c:Nat} {eT:aO} {l:List UInt8}
def Fa{xn xc v W:Nat}(gp:Gp g)(p:bO h g eT 1 A n c (yv l))(M:Mw g XA xn (v:Int))(hx:xn<=10000000)(hW:W<=1000000000)(hn:n<=1000000000)
 (hK:∀ A' n' c' e3 g' h',Ext g eT A n c l (pad W v) A' n' c' e3 g' h'->K (.slice A' n' c') h'):aH prog 311 #[.slice A n c,.slice XA xn xc,I (W:Int)] h K:=by
 obtain ⟨xs,E,sx,dx,nx,N⟩:=M
 refine Qo _ _ _ _ _ _ _ ?_
 refine p.call ?_
 refine Ew sx E oo ?_
 intro WA R h0 g0 l0 pw h1 S
 obtain ⟨z,X,am⟩:=S.swap pw
 refine ⟨_,_,_,rfl,?_⟩
 have an:(v:Int)<2^(64*xn):=by
  have:=L9 (B:=b64) dc dx
  rw [N,<- E,Jw] at this;exact this
 refine ⟨fun s hp=>∃ (a:List Int) (ns:List Nat) (WA CA:Option aK) (wn R cn cc:Nat) (z g2 g3:aM),s=[.slice WA wn R,.slice CA cn cc]/\Pw hp z WA wn R a/\Pw z g2 CA cn cc (nz ns)/\bO g2 g3 eT 1 A n c (yv l)/\g.le g3/\wn=a.length/\cn=ns.length/\wn<=xn/\Dig b64 a/\Norm a/\(∀ c∈ns,c<10^19)/\(v:Int)=val b64 a*cB^ns.length+(nv ns:Int)/\(a=[]->ns.getLast? ≠ some 0),fun s hp=>match s with|[.slice A n _,_]=>B0e b64 hp A n|_=>0,⟨xs,[],WA,none,xs.length,R,0,0,z,z,g0,rfl,X,Priv.nil _ _ _ _,am,l0,rfl,rfl,oo,dx,nx,by simp,by simp [nv,N],by simp⟩,?_⟩
 rintro WA1 L af CA1 ai ax O ⟨a,ns,WA2,CA2,aw,au,ay,aq,z,g2,g3,hs,pw,pc,S,lg,F,V,ar,du,nu,hb,hv,u⟩
 obtain ⟨⟨rfl,rfl,rfl⟩,rfl,rfl,rfl⟩:=hs
 have ap:=D0 (B:=b64) dc du
 have Mu:Mw O WA1 L (val b64 a):=⟨a,F,pw.slV,du,nu,rfl⟩
 refine C0 (fun h2=>?_) (fun h2=>?_)
 ·have T:a≠[]:=gz0
  have G:0<val b64 a:=by
   have:=Mu.len_zero dc
   omega
  have t:ns.length<=64*xn:=by
   by_cases hc:ns.length<=64*xn
   ·exact hc
   ·exfalso
    have h3:(2:Int)^(64*xn)<=2^ns.length:=D8 dc oo
    have h4:(2:Int)^ns.length<=cB^ns.length:=by
     have:∀ k:Nat,(2:Int)^k<=cB^k:=by
      intro k
      induction k with
      | zero=>simp
      | succ k ih=>
       grind
     grind
    have h5:1*cB^ns.length<=val b64 a*cB^ns.length:=cO G (Int.le_of_lt (Int.pow_pos dc))
    omega
  refine C11 pw T F du oo ?_
  intro ws m r av al hm ao nw dw j hr
  obtain ⟨q,aa,ag⟩:=al.swap pc
  refine Dl R8 aa rfl rfl oo oo ?_
  intro CA' aj h' g' ae i
  obtain ⟨w,l2,d⟩:=ag.after ae
  obtain ⟨g4,Q,ad⟩:=i.swap d
  obtain ⟨g5,l5,ac⟩:=S.after l2
  obtain ⟨c0,e⟩:∃ c0:Nat,r=(c0:Int):=⟨r.toNat,oo⟩
  refine ⟨⟨ws.take m,ns++[c0],WA1,CA',m,af,ai+1,aj,g4,w,g5,rfl,Q,?_,ac,B0 lg l5,hm,gz0,oo,dw,nw,?_,?_,?_⟩,?_⟩
  ·have h9:=ad
   rw [<- List.map_singleton (f:=aN .u64),<- cQ,e,<- B6p] at h9
   exact h9
  ·grind
  ·rw [B06,hv,j,aJ,cI,dB,e];grind
  ·intro he
   rw [List.getLast?_append]
   simp only [cW,Option.some_or,ne_eq,aT]
   intro e0
   rw [he] at j
   simp [val] at j
   omega
  ·show B0e b64 h' WA1 m<B0e b64 O WA1 L
   have Mw2:Mw h' WA1 m (val b64 (ws.take m)):=⟨ws.take m,hm,Q.slV,dw,nw,rfl⟩
   rw [Be Mw2,Be Mu]
   grind
 ·have C:a=[]:=aL oo
  subst C
  obtain ⟨w,ah,i⟩:=pc.swap S
  obtain ⟨q,D,d⟩:=pw.swap ah
  have ak:v=nv ns:=by
   simp [val] at hv;omega
  have t:ns.length<=1000000000:=by
   by_cases e:ns=[]
   ·grind
   ·have h7:=u rfl
    obtain ⟨ms,c0,rfl⟩:∃ ms c0,ns=ms++[c0]:=⟨ns.dropLast,ns.getLast e,(List.dropLast_concat_getLast e).symm⟩
    rw [List.getLast?_append] at h7
    simp only [cW,Option.some_or,ne_eq,aT] at h7
    have h8:=B06 ms c0
    by_cases hc:ms.length<=64*xn
    ·grind
    ·exfalso
     have h3:(2:Int)^(64*xn)<=2^ms.length:=D8 dc oo
     have h4:(2:Int)^ms.length<=cB^ms.length:=by
      have:∀ k:Nat,(2:Int)^k<=cB^k:=by
       intro k
       induction k with
       | zero=>simp
       | succ k ih=>
        grind
      grind
     have h5:cB^ms.length*1<=cB^ms.length*(c0:Int):=Int.mul_le_mul_of_nonneg_left oo (Int.le_of_lt (Int.pow_pos dc))
     omega
  refine Dd B4d ?_
  intro b y
  refine ⟨_,rfl,?_⟩
  have H:q b=none:=by
   cases hx1:q b with
   | none=>rfl
   | some o=>rw [D.le b o hx1] at y;cases y
  refine B48 (ns:=ns) gp rfl ⟨eT,_,q,⟨?_,?_,by simp,fun _=>⟨rfl,rfl,rfl⟩,id⟩,⟨by simp [yv],by simp,.inr ⟨b,aD 20 (aN .u8 0),rfl,H,rfl,by simp,by simp [yv]⟩⟩,?_,?_⟩ V hb (u rfl) hW hn t (by rw [<- ak];exact hK)
  ·exact B0 lg (B0 i.le (B0 d.le (Heap.le_put _ H)))
  ·rw [List.append_nil];exact D.put y _
  ·exact B0 lg (B0 i.le d.le)
  ·exact (show SlI .u64 w CA1 (nz ns) from i.slV).mono d.le
end
def Km(i:Nat):Nat:=10^(19*2^i)
def A8p(i:Nat):Km i=(10^19)^(2^i):=Nat.pow_mul _ _ _
def B2e(i:Nat):0<Km i:=Nat.pow_pos dc
def A0b(i:Nat):Km (i+1)=Km i*Km i:=by
 unfold Km
 rw [<- Nat.pow_add]
 grind
def B5l(i:Nat):(Km i:Int)<b64^(2^i):=by
 have h:(10^19)^(2^i)<(18446744073709551616:Nat)^(2^i):=Nat.pow_lt_pow_left dc (Nat.pos_iff_ne_zero.1 (Nat.pow_pos dc))
 rw [<- A8p] at h
 grind
def B5m(i:Nat):(2:Int)^(63*2^i)<=(Km i:Int):=by
 have h:(2^63)^(2^i)<=(10^19)^(2^i):=cK dc _
 rw [<- A8p,<- Nat.pow_mul] at h
 grind
def B8a{k m:Nat}(h:(2:Int)^k<2^m):k<m:=by
 by_cases a:k<m
 ·exact a
 ·have:=D8 (B:=2) dc (show m<=k from o)
  omega
abbrev slT(s:Option aK × Nat × Nat):bN:=.slice s.1 s.2.1 s.2.2
def Pws(h:aM)(PA:Option aK)(k:Nat):Prop:=∃ ss:List (Option aK × Nat × Nat),ss.length=k/\SlV h PA (ss.map slT)/\∀ i s,ss[i]? = some s->s.2.1<=s.2.2/\Mw h s.1 s.2.1 (Km i:Int)
def Pws.mono{h h':aM}(l:h.le h'){PA:Option aK}{k:Nat}(p:Pws h PA k):Pws h' PA k:=by
 obtain ⟨d,b,c,a⟩:=p
 exact ⟨d,b,c.mono l,fun i s e=>⟨(a i s e).1,(a i s e).2.mono l⟩⟩
def Pws.take{h:aM}{PA:Option aK}{k j:Nat}(p:Pws h PA k)(hj:j<=k):Pws h PA j:=by
 obtain ⟨a,d,b,f⟩:=p
 refine ⟨a.take j,gz0,?_,fun i s e=>?_⟩
 ·have:=SlV.cut (c:=(a.map slT).length) b (Nat.zero_le j) gz0 (bH _)
  rw [H1,aX,bC,<- List.map_take] at this
  exact this
 grind
def Pws.at{h:aM}{PA:Option aK}{k i:Nat}(p:Pws h PA k)(hi:i<k):∃ (a:aK) (A:Option aK) (n c:Nat),PA=some a/\h.cell? (a.add i)=some (.slice A n c)/\n<=c/\Mw h A n (Km i:Int):=by
 obtain ⟨e,f,b,g⟩:=p
 obtain ⟨a,d,j⟩:=b.at (i:=i) gz0
 grind
def Mw.tenP_le{h:aM}{A:Option aK}{n i:Nat}(m:Mw h A n (Km i:Int)):n<=2^i:=m.len_le dc (B5l i)
def Mw.tenP_ge{h:aM}{A:Option aK}{n i:Nat}(m:Mw h A n (Km i:Int)):2^i<2*n:=by
 have a:=m.lt dc
 rw [Jw] at a
 have b:=B8a (Int.lt_of_le_of_lt (B5m i) a)
 omega
def Ext.weak{g g0 g' h':aM}{eT e2:aO}{A A':Option aK}{n c n' c':Nat}{l t:List UInt8}(l0:g0.le g)(x:Ext g eT A n c l t A' n' c' e2 g' h'):Ext g0 eT A n c l t A' n' c' e2 g' h':=⟨B0 l0 x.le,x.priv,x.len,x.fit,x.tag⟩
def C05(w n:Nat):w<=(pad w n).length:=by simp [pad];omega
def B5u{j:Nat}(hj:j<=30):C4 (19*2^(min j 64))=((19*2^j:Nat):Int):=by
 rw [cF o]
 have b:2^j<=2^30:=aI dc hj
 have a:(19*2^j:Int)=((19*2^j:Nat):Int):=by rfl
 rw [a,C1 o o]
def Yz{l:List UInt8}(hd:∀ c∈l,I4 c):(K3 l:Int)<b64^l.length:=by
 have a:=Fx hd
 have b:10^l.length<=(18446744073709551616:Nat)^l.length:=cK dc _
 grind
def Qk:∀ (k:Nat) {h g:aM} {K:VP} {A XA PA:Option aK} {n c xn xc pc v W:Nat} {eT:aO} {l:List UInt8},Gp g->bO h g eT 1 A n c (yv l)->Mw g XA xn (v:Int)->xn<=xc->xn<=10000000->Pws g PA k->k<=pc->k<=26->(W=0\/W=19*2^k)->n+(pad W v).length<=1000000000->
 (∀ A' n' c' e3 g' h',Ext g eT A n c l (pad W v) A' n' c' e3 g' h'->K (.slice A' n' c') h')->aH prog 293 #[.slice A n c,.slice XA xn xc,I (W:Int),.slice PA k pc] h K:=by
 intro k
 induction k with
 | zero=>
  intro h g K A XA PA n c xn xc pc v W eT l d p M y F u E hk hW O D
  refine (fnk func293) ?_
  refine C0 (fun _=>?_) (fun e=>absurd dc e)
  refine Fa d p M F o o ?_
  grind
 | succ j ih=>
  intro h g K A XA PA n c xn xc pc v W eT l d p M y F u E hk hW O D
  have S:=C05 W v
  have e1:C4 (((j+1:Nat):Int)-1)=(j:Int):=by rw [C1 o o];omega
  refine (fnk func293) ?_
  simp only [e1,aC,bC,H1,B5u (show j<=30 from o)]
  refine C0 (fun e=>absurd e o) (fun _=>C0 (fun _=>?_) (fun _=>?_))
  ·refine Fa d p M F o o ?_
   grind
  ·obtain ⟨a,PA',pn,ad,ha,hc,s,Mp⟩:=u.at (i:=j) o
   refine ⟨a,ha,o,o,_,_,_,by rw [aV];exact C2 p.le hc,?_⟩
   have ah:=Mp.tenP_le
   have X:2^j<=2^26:=aI dc o
   have C:=B2e j
   refine p.call ?_
   refine U5 M Mp y s o o o ?_
   intro A1 m1 c1 A2 m2 c2 g1 b T Q M1 M2 h1 N
   refine ⟨_,_,_,_,_,_,rfl,?_⟩
   rw [<- Int.natCast_ediv] at M1
   rw [<- Int.natCast_emod] at M2
   have hv:=Nat.div_add_mod v (Km j)
   have f:=Nat.mod_lt v C
   have ac:=aS v (Km j)
   generalize v/Km j=q at *
   generalize v%Km j=r at *
   have hz:=M1.len_zero dc
   have G:=M.lt dc
   have af:m1<=xn:=M1.len_le dc o
   have ae:m2<=xn:=M2.len_le dc (by
    omega)
   have B:v=q*10^(19*2^j)+r:=by rw [<- hv,Nat.mul_comm];rfl
   refine C0 (fun e=>absurd e o) (fun _=>?_)
   refine D5 (fun V=>D5 (fun eW=>?_) (fun eW=>?_)) (fun V=>?_)
   ·obtain rfl:W=0:=o
    obtain rfl:q=0:=o
    obtain rfl:v=r:=o
    refine ⟨⟨o,o⟩,?_⟩
    refine ih (W:=0) (d.mono b) N M2 Q o ((u.mono b).take o) o o (.inl rfl) O ?_
    intro A4 n4 c4 R L h4 z
    exact ⟨_,_,_,rfl,D _ _ _ _ _ _ (z.weak b)⟩
   all_goals
    have hw:q≠0\/19*2^j<=W:=o
    have t:=A13 (w:=W) (h:=q) (l:=r) (k:=19*2^j) f hw
    rw [<- B] at t
    have aa:(pad (19*2^j) r).length=19*2^j:=Vv f
    have ai:(pad W v).length=(pad (W-19*2^j) q).length+19*2^j:=gz0
    refine ⟨⟨o,o⟩,?_⟩
    have e3:(if (0:Int)>C4 ((W:Int)-((19*2^j:Nat):Int)) then (0:Int) else C4 ((W:Int)-((19*2^j:Nat):Int)))=((W-19*2^j:Nat):Int):=by
     rw [C1 o o]
     omega
    rw [e3]
    refine ih (d.mono b) N M1 T o ((u.mono b).take o) o o o o ?_
    intro A3 n3 c3 e3 g3 h3 m
    have ag:=m.len
    have H:=B0 b m.le
    refine ⟨_,_,_,rfl,⟨o,o⟩,?_⟩
    refine ih (d.mono H) m.priv (M2.mono m.le) Q o ((u.mono H).take o) o o (.inr rfl) o ?_
    intro A4 n4 c4 R L h4 z
    refine ⟨_,_,_,rfl,D _ _ _ R L _ ?_⟩
    rw [t]
    exact (m.trans z).weak b
def Hk:∀ (k:Nat) {h:aM} {K:VP} {PA:Option aK} {pc:Nat} {l:List UInt8},(∀ c∈l,I4 c)->l.length<=100000000->Pws h PA k->k<=pc->k<=30->(∀ A n c h',h.le h'->n<=c->Mw h' A n (K3 l:Int)->K (.slice A n c) h')->aH prog 233 #[.string (bs l),.slice PA k pc] h K:=by
 intro k
 induction k using Nat.strongRecOn with
 | _ k ih=>
  intro h K PA pc l p W z X hk R
  refine (fnk func233 [(2,[5],[],[I 0])] (os:=[(7,[0,1,2,3,4,5,7,8,9,10,6,11,12])])) ?_
  rw [I9]
  have b:aH prog 273 #[.string (bs l)] h (fun r q=>∃ (A:Option aK) (n c:Nat),r= .slice A n c/\K (.slice A n c) q):=by
   refine Qh p W ?_
   grind
  refine ⟨fun s q=>q=h/\∃ j:Nat,s=[I ((j:Int)-1)]/\j<=k,fun s _=>(iAt s 0+1).toNat,⟨rfl,k,by rw [C1 o o],bH _⟩,?_⟩
  rintro last q ⟨rfl,j,hs,hj⟩
  obtain rfl:last=(j:Int)-1:=gz0
  refine C0 (fun M=>?_) (fun M=>C0 (fun _=>b) (fun e=>absurd (show (j:Int)-1<0 from o) e))
  obtain ⟨i,rfl⟩:∃ i,j=i+1:=⟨j-1,o⟩
  have L:((i+1:Nat):Int)-1=(i:Int):=o
  simp only [L,aC,bC,H1,B5u (show i<=30 from o)]
  refine C0 (fun e=>absurd e o) (fun _=>C0 (fun E=>?_) (fun E=>?_))
  ·refine ⟨⟨trivial,i,by rw [C1 o o],o⟩,?_⟩
   simp only [iAt,aE]
   rw [C1 o o]
   omega
  refine C0 (fun e=>absurd e o) (fun _=>C0 (fun _=>b) (fun D=>C0 (fun e=>absurd e o) (fun _=>?_)))
  have T:C4 ((l.length:Int)-((19*2^i:Nat):Int))=((l.length-19*2^i:Nat):Int):=by rw [C1 o o];omega
  simp only [T,aC,N5,aX,bC]
  obtain ⟨a,PA',pn,S,ha,m,g,Mp⟩:=z.at (i:=i) o
  refine ⟨⟨o,o⟩,⟨o,o⟩,a,ha,o,o,_,_,_,by rw [aV];exact m,?_⟩
  have ac:=Mp.tenP_le
  have f:∀ c∈l.take (l.length-19*2^i),I4 c:=fun c m=>p c (bM m)
  have d:∀ c∈l.drop (l.length-19*2^i),I4 c:=fun c m=>p c (List.mem_of_mem_drop m)
  have ad:(l.take (l.length-19*2^i)).length=l.length-19*2^i:=gz0
  have u:(l.drop (l.length-19*2^i)).length=19*2^i:=gz0
  have F:K3 l=K3 (l.take (l.length-19*2^i))*Km i+K3 (l.drop (l.length-19*2^i)):=by
   have:=Fy (l.take (l.length-19*2^i)) (l.drop (l.length-19*2^i))
   rw [cH,u] at this
   exact this
  have N:=Yz p
  have C:=Yz f
  have y:=Yz d
  refine ih i o f o (z.take o) o o ?_
  intro A1 n1 c1 E t H M1
  refine ⟨_,_,_,rfl,t,?_⟩
  have O:=M1.len_le dc C
  refine I0 M1 (Mp.mono t) H g o o ?_
  intro A2 n2 c2 h2 B k2 M2
  refine ⟨_,_,_,rfl,B,⟨o,o⟩,⟨o,o⟩,?_⟩
  have aa:=M2.len_le dc (Int.lt_of_le_of_lt (Int.ofNat_le.2 o) N)
  rw [aG o]
  refine ih i o d o ((z.mono (B0 t B)).take o) o o ?_
  intro A3 n3 c3 h3 w Q M3
  refine ⟨_,_,_,rfl,w,?_⟩
  have V:=M3.len_le dc y
  refine T6 (M2.mono w) M3 k2 Q o o ?_
  intro A4 n4 c4 h4 G k4 M4
  refine ⟨_,_,_,rfl,G,R _ _ _ _ (B0 t (B0 B (B0 w G))) k4 ?_⟩
  grind
section
variable {h g:aM} {K:VP} {A XA:Option aK} {n c:Nat} {eT:aO} {l:List UInt8}
def A0c{hs:aM}{ss:List (Option aK × Nat × Nat)}{s:Option aK × Nat × Nat}(h3:∀ i s,ss[i]? = some s->s.2.1<=s.2.2/\Mw hs s.1 s.2.1 (Km i:Int))(h4:s.2.1<=s.2.2/\Mw hs s.1 s.2.1 (Km ss.length:Int)):∀ i t,(ss++[s])[i]? = some t->t.2.1<=t.2.2/\Mw hs t.1 t.2.1 (Km i:Int):=by
 grind
def Xf{hs:aM}{b:Nat}{e:aO}: ∀ i (t:Option aK × Nat × Nat),[((some ⟨b,0,none⟩:Option aK),1,1)][i]? = some t->t.2.1<=t.2.2/\Mw (hs.put b (.cells #[U 10000000000000000000] e)) t.1 t.2.1 (Km i:Int):=by
 intro i t a
 rcases i with _|i
 ·simp at a
  subst a
  refine ⟨bH _,[10000000000000000000],rfl,SlI.new _ _ _ _ _,?_,?_,?_⟩
  ·intro x c;grind
  ·unfold Norm;simp
  rfl
 grind
def Sc(hd:∀ c∈l,I4 c)(hl:l.length<=100000000)(hK:∀ A n c h',h.le h'->n<=c->Mw h' A n (K3 l:Int)->K (.slice A n c) h'):aH prog 188 #[.string (bs l)] h K:=by
 refine (fnk func188 [(4,[3],[],[.slice none 0 0])]) ?_
 rw [I9]
 refine C0 (fun h5=>?_) (fun _=>?_)
 ·refine Q7 R8 rfl ?_
  intro q w
  refine ⟨_,_,_,rfl,?_⟩
  refine Dl A50 (Priv.nil _ _ _ none) rfl rfl o o ?_
  intro A1 c1 h1 Q m O
  refine ⟨fun s t=>∃ (d:List (Option aK × Nat × Nat)) (PA:Option aK) (k u:Nat) (g:aM),s=[.slice PA k u]/\bO t g 217 1 PA k u (d.map slT)/\d.length=k/\0<k/\h.le g/\(∀ i s,d[i]? = some s->s.2.1<=s.2.2/\Mw g s.1 s.2.1 (Km i:Int))/\2^(k-1)<=l.length,fun s _=>match s with|[.slice _ n _]=>l.length-n|_=>0,⟨[(some ⟨q,0,none⟩,1,1)],A1,1,c1,Q,rfl,O,rfl,o,B0 (Heap.le_put _ w) m,fun i s e=>⟨(Xf (hs:=h) (b:=q) (e:=195) i s e).1,(Xf (hs:=h) (b:=q) (e:=195) i s e).2.mono m⟩,o⟩,?_⟩
  rintro PA k u t ⟨d,PA',k',L,g,hs,p,B,N,z,j,hkl⟩
  obtain ⟨rfl,rfl,rfl⟩:=hs
  have F:k-1<27:=by
   by_cases f:k-1<27
   ·exact f
   ·have:2^27<=2^(k-1):=aI dc o
    omega
  rw [aC,B5u (show k<=30 from o)]
  have T:C4 ((k:Int)-1)=((k-1:Nat):Int):=by rw [C1 o o];omega
  have y:Pws t PA k:=⟨d,B,p.slV,fun i s e=>⟨(j i s e).1,(j i s e).2.mono p.le⟩⟩
  refine C0 (fun e=>absurd e o) (fun _=>C0 (fun R=>?_) (fun R=>?_))
  ·obtain ⟨a,V,f⟩:=p.slV.at (i:=k-1) gz0
   rw [List.getElem_map] at f
   obtain ⟨C,M⟩:=j (k-1) (d[k-1]'o) (bD o)
   generalize d[k-1]'o=s at *
   dsimp only;rw [T]
   refine ⟨a,V,o,o,_,_,_,by rw [aC,aV];exact f,?_⟩
   have D:=M.tenP_le
   refine p.call ?_
   refine I0 M M C C o o ?_
   intro A2 G c2 g2 E S M2 h2 H
   refine ⟨_,_,_,rfl,?_⟩
   refine Dl A50 H rfl rfl o o ?_
   intro A3 c3 h3 X r p3
   refine ⟨⟨d++[(A2,G,c2)],A3,k+1,c3,X,rfl,?_,gz0,o,B0 z (B0 E r),?_,?_⟩,?_⟩
   ·grind
   ·refine A0c (fun i s e=>⟨(j i s e).1,(j i s e).2.mono (B0 E r)⟩) ⟨S,?_⟩
    rw [B,show Km k=Km (k-1)*Km (k-1) by rw [<- A0b];grind,cG]
    exact M2.mono r
   ·grind
   grind
  ·refine Hk k hd hl y p.2.1 o ?_
   intro A n c h' W f M
   exact ⟨_,_,_,rfl,hK _ _ _ _ (B0 z (B0 p.le W)) f M⟩
 ·refine Hk 0 hd hl ⟨[],rfl,SlV.nil,by simp⟩ o o ?_
  grind
def Io(hd:∀ c∈l,I4 c)(hl:l.length<=100000000)(hK:∀ A n c h',h.le h'->ZI h' false A n c (K3 l:Int)->K (.agg #[.bool false,.slice A n c]) h'):aH prog 141 #[.string (bs l)] h K:=by
 refine (fnk func141 (own:=[2])) ?_
 refine Sc hd hl ?_
 intro A n c h' b a M
 refine ⟨_,_,_,rfl,hK _ _ _ _ b ⟨a,?_,?_⟩⟩
 ·assumption
 rfl
end
def Priv.le_put'{h g:aM}{e:aO}{s:Nat}{A:Option aK}{n c:Nat}{xs:List bN}(p:bO h g e s A n c xs){b:Nat}(hb:h b=none)(o:Obj):g.le (g.put b o):=by
 intro k f d
 have a:k≠b:=by
  rintro rfl
  rw [p.le k f d] at hb;cases hb
 rw [B9 _ _ a];exact d
def A8f{n:Int}(h0:9223372036854775808<=n)(h1:n<18446744073709551616):C4 n=n-18446744073709551616:=by
 unfold C4 IntKind.wrap
 simp only [IntKind.signed,IntKind.bits]
 grind
section
variable {h g:aM} {K:VP} {A XA:Option aK} {n c:Nat} {eT:aO} {l:List UInt8}
def C0w{v xn:Nat}(hv:(v:Int)<b64^xn):(dd v).length<=20*xn:=by
 refine T1.2 ?_
 rw [Nat.pow_mul]
 have a:((v:Nat):Int)<((18446744073709551616^xn:Nat):Int):=by assumption
 exact aP (Int.ofNat_lt.1 a) (cK dc _)
def Gq{xn xc v:Nat}(gp:Gp g)(p:bO h g eT 1 A n c (yv l))(M:Mw g XA xn (v:Int))(hxc:xn<=xc)(hx:xn<=10000000)(hn:n<=200000000)
 (hK:∀ A' n' c' e3 g' h',Ext g eT A n c l (Q8 v) A' n' c' e3 g' h'->K (.slice A' n' c') h'):aH prog 266 #[.slice A n c,.slice XA xn xc] h K:=by
 have h0:=M.len_zero dc
 refine (fnk func266 [(6,[5],[],[.slice none 0 0])]) ?_
 refine D5 (fun e=>?_) (fun e=>?_)
 ·obtain rfl:v=0:=o
  refine Fp (ch:=48) rfl p o ?_
  assumption
 ·have R:v≠0:=o
  refine D5 (fun X=>?_) (fun X=>?_)
  ·obtain ⟨xs,N,sx,dx,nx,G⟩:=M
   obtain ⟨w,rfl⟩:∃ w,xs=[w]:=by
    rcases xs with _|⟨w,_|⟨w',r⟩⟩
    ·grind
    ·grind
    grind
   rw [Z1] at G
   subst G
   refine (SlI.mono p.le sx).load N o o ?_
   have t:=dx v (by simp)
   refine Gn (gp.mono p.le) p gz0 o ?_
   grind
  ·have al:=C0w (M.lt dc)
   have af:(pad 0 v).length<=200000000:=by rw [A5h];omega
   refine Q7 R8 rfl ?_
   intro B H
   refine ⟨_,_,_,rfl,?_⟩
   have p1:=p.put H (.cells #[U 10000000000000000000] 195)
   have l1:=p.le_put' H (.cells #[U 10000000000000000000] 195)
   have w1:=fun i s e=>Xf (hs:=g) (b:=B) (e:=195) i s e
   generalize h.put B (Obj.cells #[U 10000000000000000000] 195)=h1 at *
   generalize g.put B (Obj.cells #[U 10000000000000000000] 195)=g1 at *
   refine Q7 A50 rfl ?_
   intro b2 S
   refine ⟨_,_,_,rfl,?_⟩
   have split:∀ {y:aM} {m:List (Option aK × Nat × Nat)} {PA:Option aK} {k u:Nat} {f d:aM},bO y f 217 1 PA k u (m.map slT)->bO f d eT 1 A n c (yv l)->m.length=k->g.le d->(∀ i s,m[i]? = some s->s.2.1<=s.2.2/\Mw d s.1 s.2.1 (Km i:Int))->k<=26->
    aH prog 293 #[.slice A n c,.slice XA xn xc,I (0:Int),.slice PA k u] y (fun r aa=>∃ (A1:Option aK) (n1 c1:Nat),r= .slice A1 n1 c1/\K (.slice A1 n1 c1) aa):=by
    intro y m PA k u f d z C E D t j
    obtain ⟨g3,O,q⟩:=z.swap C
    have F:=B0 D q.le
    refine Qk k (W:=0) (gp.mono F) O (M.mono F) hxc hx ⟨m,E,q.slV,fun i s e=>⟨(t i s e).1,(t i s e).2.mono q.le⟩⟩ q.2.1 j (.inl rfl) o ?_
    intro A' n' c' e2 g' h' x
    refine ⟨_,_,_,rfl,hK _ _ _ e2 g' _ ?_⟩
    rw [A5h,<- Db R] at x
    exact x.weak F
   refine ⟨fun s y=>∃ (m:List (Option aK × Nat × Nat)) (PA:Option aK) (k u:Nat) (f d:aM),s=[.slice PA k u]/\bO y f 217 1 PA k u (m.map slT)/\bO f d eT 1 A n c (yv l)/\m.length=k/\0<k/\g.le d/\(∀ i s,m[i]? = some s->s.2.1<=s.2.2/\Mw d s.1 s.2.1 (Km i:Int))/\2^(k-1)<=2*xn,fun s _=>match s with|[.slice _ n _]=>xn-n|_=>0,⟨[(some ⟨B,0,none⟩,1,1)],_,1,1,h1,g1,rfl,⟨by simp,by simp,.inr ⟨b2,[.slice (some ⟨B,0,none⟩) 1 1],rfl,S,rfl,by simp,by simp⟩⟩,p1,rfl,o,l1,w1,o⟩,?_⟩
   rintro PA k u y ⟨m,PA',k',ah,f,d,hs,z,C,E,ai,D,t,ak⟩
   obtain ⟨rfl,rfl,rfl⟩:=hs
   have j:k<=26:=by
    by_cases L:k<=26
    ·exact L
    ·have h1:2^26<=2^(k-1):=aI dc o
     omega
   refine C0 (fun aj=>?_) (fun _=>split z C E D t j)
   have X:C4 ((k:Int)-1)=((k-1:Nat):Int):=by rw [C1 o o];omega
   obtain ⟨a,ha,L⟩:=z.slV.at (i:=k-1) gz0
   rw [List.getElem_map] at L
   obtain ⟨h4,Mk⟩:=t (k-1) (m[k-1]'o) (bD o)
   generalize m[k-1]'o=s at *
   simp only [X,aC,aV]
   refine ⟨a,ha,o,o,_,_,_,L,?_⟩
   have ae:=Mk.tenP_ge
   have am:=Mk.tenP_le
   have e2:C4 (2*(s.2.1:Int))=2*(s.2.1:Int):=C1 o o
   refine C0 (fun h5=>?_) (fun _=>split z C E D t j)
   refine ⟨a,ha,o,o,_,_,_,L,?_⟩
   refine z.call (C.call ?_)
   refine I0 Mk Mk h4 h4 o o ?_
   intro A2 m2 c2 g2 l2 k2 M2 ad ac ag T
   refine ⟨_,_,_,rfl,?_⟩
   refine Dl A50 T rfl rfl o o ?_
   intro A3 c3 h3 g3 F p3
   obtain ⟨g4,Q,V⟩:=ac.after F
   have hm:2^k=2*2^(k-1):=by
    obtain ⟨i,rfl⟩:∃ i,k=i+1:=⟨k-1,o⟩
    grind
   refine ⟨⟨m++[(A2,m2,c2)],A3,k+1,c3,g3,g4,rfl,?_,V,gz0,o,B0 D (B0 l2 Q),?_,?_⟩,?_⟩
   ·rw [cQ];exact p3
   ·refine A0c (fun i s e=>⟨(t i s e).1,(t i s e).2.mono (B0 l2 Q)⟩) ⟨k2,?_⟩
    rw [E,show Km k=Km (k-1)*Km (k-1) by rw [<- A0b];grind,cG]
    exact M2.mono Q
   ·grind
   omega
def B25{z:Int}{s:Bool}{xn xc m:Nat}(i:ZI h s XA xn xc z)(hz:ZB m z)(hm:m<=100000000):xn<=10000000:=by
 obtain ⟨k,hk⟩:∃ k,k=10000000:=⟨_,rfl⟩
 rw [<- hk]
 refine i.mag.len_le dc ?_
 rw [Jw]
 have a:(z.natAbs:Int)<2^m:=by
  have:((z.natAbs:Nat):Int)<((2^m:Nat):Int):=Int.ofNat_lt.2 hz
  assumption
 have b:=D8 (B:=2) dc (show m<=64*k from o)
 omega
def Hc{s:Bool}{xn xc:Nat}{z:Int}(gp:Gp g)(p:bO h g eT 1 A n c (yv l))(i:ZI g s XA xn xc z){m:Nat}(hz:ZB m z)(hm:m<=100000000)(hn:n<=100000000)
 (hK:∀ A' n' c' e3 g' h',Ext g eT A n c l (Ny z) A' n' c' e3 g' h'->K (.slice A' n' c') h'):aH prog 222 #[.agg #[.bool s,.slice XA xn xc],.slice A n c] h K:=by
 have d:=B25 i hz hm
 refine (fnk func222 (own:=[2])) ?_
 refine Br.of (fun e=>?_) (fun e=>?_)
 ·have a:z<0:=by have:=i.sgn;grind
  rw [Qs a] at hK
  refine Fp (ch:=45) rfl p o ?_
  intro A1 u c1 t r f b
  have:=b.len
  refine Gq (gp.mono b.le) b.priv (i.mag.mono b.le) i.cap d gz0 ?_
  intro A2 y c2 w q k j
  exact ⟨_,_,_,rfl,hK _ _ _ _ _ _ (b.trans j)⟩
 ·have a:¬ z<0:=by have:=i.sgn;grind
  rw [Kv a] at hK
  refine Gq gp p i.mag i.cap d o ?_
  grind
def Zt{s:Bool}{xn xc:Nat}{z:Int}(gp:Gp h)(i:ZI h s XA xn xc z){m:Nat}(hz:ZB m z)(hm:m<=100000000)(hK:K (.string (bs (Ny z))) h):aH prog 221 #[.agg #[.bool s,.slice XA xn xc]] h K:=by
 refine FCall.pure ((fnk func221 (own:=[1])) ?_)
 refine Hc (l:=[]) (eT:=5) gp (Priv.nil _ _ _ _) i hz hm o ?_
 intro A' a c e d b x
 refine ⟨_,_,_,rfl,?_⟩
 have f:=x.len
 refine Il Ee.und Cc V1 x.priv.slV gz0 ⟨_,rfl,?_⟩
 exact ⟨B0 x.le x.priv.le,hK⟩
def A2s{s:Bool}{xn xc:Nat}{z:Int}(i:ZI h s XA xn xc z)(hK1: -9223372036854775808<=z->z<9223372036854775808->K (.tuple #[I z,.bool true]) h)(hK0:¬ (-9223372036854775808<=z/\z<9223372036854775808)->K (.tuple #[I 0,.bool false]) h):aH prog 220 #[.agg #[.bool s,.slice XA xn xc]] h K:=by
 have A:=i.zeroIff
 have l:=Eg i.sgn
 refine (fnk func220 (own:=[1])) ?_
 refine D5 (fun e=>?_) (fun e=>?_)
 ·grind
 ·obtain ⟨g,a,m,y,u,b⟩:=i.mag
  refine m.load a o o ?_
  rw [show ((0:Int)).toNat=0 from rfl]
  refine C0 (fun k=>?_) (fun k=>?_)
  ·refine hK0 ?_
   have j:=i.mag.ge dc o
   have t:b64^1<=b64^(xn-1):=D8 dc o
   grind
  ·obtain ⟨w,rfl⟩:∃ w,g=[w]:=by
    rcases g with _|⟨w,_|⟨q,r⟩⟩
    ·grind
    ·grind
    grind
   rw [Z1] at b
   have p:[w].getD 0 0=w:=rfl
   rcases l with ⟨rfl,n⟩|⟨rfl,n⟩
   ·refine Br.of (fun _=>?_) (fun f=>by cases f)
    refine C0 (fun c=>?_) (fun c=>?_)
    ·have:C4 (C8 (0-w))=z:=by rw [F2,A8f o o];omega
     grind
    ·refine Br.of (fun d=>by cases d) (fun _=>?_)
     grind
   ·refine Br.of (fun f=>by cases f) (fun _=>?_)
    refine Br.of (fun _=>?_) (fun d=>by cases d)
    refine C0 (fun c=>?_) (fun c=>?_)
    ·have:C4 w=z:=by rw [C1 o o];omega
     grind
    grind
end
def B5r(q:Rat)(f:Int):(q-f).num=q.num-f*q.den/\(q-f).den=q.den:=by
 have b:aQ (q.num-f*q.den).natAbs q.den=1:=by
  have a:aR (q.num-f*q.den) q.den=aR q.num q.den:=Int.gcd_sub_mul_right_left _ _ _
  have c:aR q.num q.den=1:=by
   have:=q.reduced
   assumption
  rw [c] at a
  assumption
 have e:q-f=⟨q.num-f*q.den,q.den,q.den_nz,b⟩:=by
  rw [Rat.sub_def',Rat.mk_eq_mkRat];simp
 grind
def B0f(a b:Rat):(a*b).num=a.num.tdiv (aQ a.num.natAbs b.den:Nat)*b.num.tdiv (aQ b.num.natAbs a.den:Nat)/\(a*b).den=a.den/(aQ b.num.natAbs a.den)*(b.den/(aQ a.num.natAbs b.den)):=by
 show (Rat.mul a b).num=_/\(Rat.mul a b).den=_
 delta Rat.mul
 simp only [Int.divExact_eq_tdiv,Nat.divExact_eq_div,and_self]
def Wq(a b:Rat)(h:a.den.gcd b.den=1):(a+b).num=a.num*b.den+b.num*a.den/\(a+b).den=a.den*b.den:=by
 show (cU a b).num=_/\(cU a b).den=_
 delta cU
 grind
def Wp(a b:Rat)(h:a.den.gcd b.den≠1){g r:Nat}{z:Int}(hg:g=a.den.gcd b.den)(hz:z=a.num*(b.den/g:Nat)+b.num*(a.den/g:Nat))(hr:r=z.natAbs.gcd g):(a+b).num=z.tdiv r/\(a+b).den=a.den/g*(b.den/r):=by
 subst hg hz
 have c:r∣b.den:=by rw [hr];exact Nat.dvd_trans (bX ..) (bX ..)
 show (cU a b).num=_/\(cU a b).den=_
 delta cU
 simp only [h,dif_neg,not_false_eq_true]
 rw [Rat.maybeNormalize_eq]
 subst hr
 refine ⟨?_,Nat.mul_div_assoc _ c⟩
 simp only [Int.divExact_eq_tdiv]
def Nj(a:Rat)(z:Int):(a+z).num=z*a.den+a.num/\(a+z).den=a.den:=by
 have:=B5r a (-z)
 have e:a - -(z:Rat)=a+z:=gz0
 grind
def Wf{q:Rat}(h:q.den=1):q=(q.num:Rat):=by
 apply Rat.ext
 ·simp
 assumption
abbrev dgt(c:UInt8):Bool:=decide (I4 c)
def Ky(l:List UInt8):∀ c∈l.takeWhile dgt,I4 c:=by
 induction l with
 | nil=>simp
 | cons d r ih=>
  intro c b
  by_cases a:I4 d
  ·simp [a] at b
   grind
  simp_all
def B3a(l:List UInt8):Bool:=decide ([45] <+: l)
def Ja(l:List UInt8):List UInt8:=if [45] <+: l then l.drop 1 else l
def A5c(l:List UInt8):l=(if B3a l then [45] else [])++Ja l:=by
 unfold B3a Ja
 by_cases h:[45] <+: l
 ·obtain ⟨t,rfl⟩:=h;simp
 grind
def A9r(l:List UInt8):B3a l=(l.head? == some 45):=by
 unfold B3a
 cases l with
 | nil=>simp
 | cons c r=>
  grind
def Form.parts{l:List UInt8}{neg:Bool}{a b:List UInt8}(f:Form l neg a b):neg=B3a l/\a=(Ja l).takeWhile dgt/\(if b=[] then [] else 47::b)=(Ja l).dropWhile dgt:=by
 have j:neg=B3a l:=by rw [A9r];exact f.head
 have e:=A5c l
 have i:=e.symm.trans f.eq
 have g:∀ c,(if b=[] then [] else 47::b:List UInt8).head? = some c->¬ I4 c:=by
  intro c d
  split at d
  ·grind
  ·simp at d;subst d;decide
 have:=Fm f.da g
 grind
section
variable {h g:aM} {K:VP} {l:List UInt8}
def Jj(hl:l.length<=1000000000)(hK:K (.tuple #[.string (bs (l.takeWhile dgt)),.string (bs (l.dropWhile dgt))]) h):aH prog 187 #[.string (bs l)] h K:=by
 refine (fnk func187 [(2,[4],[],[I 0])] (cs:=[(4,[4],[],[I 0])])) ?_
 simp only [I9]
 refine ⟨fun L d=>L=[I (((l.takeWhile dgt).length:Nat):Int)]/\d=h,?_,?_⟩
 ·refine ⟨fun L d=>∃ k:Nat,L=[I k]/\d=h/\k<=l.length/\(∀ c∈l.take k,I4 c),fun L _=>l.length-(iAt L 0).toNat,⟨0,rfl,rfl,o,by simp⟩,?_⟩
  rintro n d ⟨k,w,rfl,z,f⟩
  obtain rfl:n=(k:Int):=gz0
  have a:(∀ c,(l.drop k).head? = some c->¬ I4 c)->[I (k:Int)]=[I (((l.takeWhile dgt).length:Nat):Int)]/\d=d:=by
   intro u
   have:=Fm f u
   simp_all
  refine C0 (fun s=>?_) (fun s=>?_)
  ·have hkl:k<l.length:=o
   have b:(bs l)[(k:Int).toNat]? = some l[k]:=by rw [aC,Wm,bD hkl]
   have m:(l.drop k).head? = some l[k]:=by simp_all
   refine ⟨l[k],⟨o,b⟩,C0 (fun i=>?_) (fun i=>?_)⟩
   ·refine ⟨l[k],⟨o,b⟩,C0 (fun q=>?_) (fun q=>?_)⟩
    ·rw [C1 o o]
     refine ⟨⟨k+1,rfl,rfl,o,?_⟩,by simp only [iAt,aE];omega⟩
     rw [bJ hkl]
     intro c e
     rcases List.mem_append.1 e with j|j
     ·grind
     ·rw [List.mem_singleton.1 j];exact ⟨o,o⟩
    ·exact a (fun c e=>by rw [m] at e;cases e;intro f;exact q (by have:=f.2;omega))
   ·exact a (fun c e=>by rw [m] at e;cases e;intro f;exact i (by have:=f.1;omega))
  grind
 ·rintro n d ⟨w,rfl⟩
  obtain rfl:n=(((l.takeWhile dgt).length:Nat):Int):=gz0
  have r:(l.takeWhile dgt).length<=l.length:=(List.takeWhile_sublist _).length_le
  have g:l.take (l.takeWhile dgt).length=l.takeWhile dgt:=by
   conv=>lhs;rw [<- bK (p:=dgt) (l:=l)]
   rw [bK,List.prefix_iff_eq_take.1 (List.takeWhile_prefix _)]
   grind
  have y:l.drop (l.takeWhile dgt).length=l.dropWhile dgt:=by
   have t:l.takeWhile dgt++l.drop (l.takeWhile dgt).length=l.takeWhile dgt++l.dropWhile dgt:=by
    rw [bK]
    conv=>lhs;lhs;rw [<- g]
    exact cH _ _
   exact List.append_cancel_left t
  refine ⟨⟨o,o⟩,⟨o,o⟩,?_⟩
  rw [aC,N5,N5,aX,bC,g,y,aG gz0]
  exact hK
def Ag(a:List UInt8):((bs a).toList==({ data:=#[] }:ByteArray).toList)=decide (a=[]):=Jl a []
def Ob(hl:l.length<=1000000000)(hK1:∀ neg a b,Form l neg a b->K (.tuple #[.agg #[.bool neg,.string (bs a),.string (bs b)],.bool true]) h)(hK0:(∀ neg a b,¬ Form l neg a b)->∀ neg a b,K (.tuple #[.agg #[.bool neg,.string (bs a),.string (bs b)],.bool false]) h):aH prog 140 #[.string (bs l)] h K:=by
 refine (fnk func140 (cs:=[(8,[31],[],[.bool false])]) (own:=[2,4])) ?_
 refine Uy (q:=[45]) ⟨_,_,rfl,?_⟩
 have aa:(Ja l).length<=l.length:=by unfold Ja;grind
 show aH prog 187 #[.string (bs (Ja l))] h _
 refine Jj o ⟨_,_,rfl,?_⟩
 show Br _ _ _
 have y:Ja l=(Ja l).takeWhile dgt++(Ja l).dropWhile dgt:=List.takeWhile_append_dropWhile.symm
 have A:∀ c∈(Ja l).takeWhile dgt,I4 c:=Ky _
 have j:∀ neg a b,Form l neg a b->neg=B3a l/\a=(Ja l).takeWhile dgt/\(if b=[] then [] else 47::b)=(Ja l).dropWhile dgt:=fun neg a b f=>f.parts
 have G:=A5c l
 show Br _ _ _
 have B:decide ([45] <+: l)=B3a l:=rfl
 rw [B]
 generalize B3a l=neg at *
 generalize (Ja l).takeWhile dgt=a at *
 generalize (Ja l).dropWhile dgt=r at *
 generalize Ja l=t at *
 subst y
 have N:((bs a).toList==({ data:=#[48] }:ByteArray).toList)=decide (a=[48]):=Jl a [48]
 rw [N,Ag,Ag]
 refine C0 (fun S=>?_) (fun S=>?_)
 ·subst S
  refine Br.not (Br.of (fun hn=>?_) (fun hn=>?_))
  ·refine hK0 ?_ _ _ []
   intro C p g f
   obtain ⟨rfl,rfl,_⟩:=j _ _ _ f
   rcases f.ha with d|d
   ·grind
   grind
  ·subst hn
   by_cases hr:r=[]
   ·subst hr
    refine hK1 false [48] [] ⟨by assumption,o,by simp,by simp,.inr ⟨rfl,rfl,rfl⟩,by simp,by simp⟩
   ·rw [decide_eq_false hr]
    refine hK0 ?_ _ _ []
    intro C p g f
    obtain ⟨rfl,rfl,w⟩:=j _ _ _ f
    rcases f.ha with d|d
    ·grind
    grind
 ·refine ⟨fun L W=>L=[.bool (decide (a=[]\/a.head? = some 48))]/\W=h,?_,?_⟩
  ·refine C0 (fun d=>⟨by simp [d],rfl⟩) (fun d=>?_)
   obtain ⟨c,i,rfl⟩:=aW d
   refine ⟨c,⟨o,by rfl⟩,?_,rfl⟩
   congr 2
   rw [Bool.eq_iff_iff,beq_iff_eq,decide_eq_true_iff]
   simp only [reduceCtorEq,false_or,cR,aT]
   constructor
   ·intro e;apply UInt8.toNat_inj.1;grind
   ·rintro rfl;rfl
  rintro H W ⟨hL,rfl⟩
  obtain rfl:H=decide (a=[]\/a.head? = some 48):=gz0
  refine C0 (fun d=>?_) (fun d=>?_)
  ·refine hK0 ?_ _ _ []
   intro C p g f
   obtain ⟨rfl,rfl,_⟩:=j _ _ _ f
   rcases d with d|d
   ·exact f.ne d
   ·rcases f.ha with w|w
    ·grind
    grind
  ·have k:a≠[]:=fun e=>d (.inl e)
   have u:a.head? ≠ some 48:=fun e=>d (.inr e)
   refine C0 (fun w=>?_) (fun w=>?_)
   ·exact hK1 neg a [] ⟨gz0,A,by simp,k,.inl u,by simp,by simp⟩
   ·obtain ⟨c,i,rfl⟩:=aW w
    refine ⟨c,⟨o,by rfl⟩,D9 (fun R=>?_) (fun R=>?_)⟩
    ·refine hK0 ?_ _ _ []
     intro C p g f
     obtain ⟨rfl,rfl,m⟩:=j _ _ _ f
     by_cases E:g=[]
     ·grind
     ·rw [iN E] at m
      simp at m
      exact R (by rw [<- m.1];rfl)
    ·have hc:c=47:=by apply UInt8.toNat_inj.1;grind
     subst hc
     refine ⟨⟨o,by rw [I9];grind⟩,?_⟩
     rw [N5,show ((1:Int)).toNat=1 from rfl,I9,aG (by simp),List.drop_succ_cons,aX]
     refine Jj gz0 ⟨_,_,rfl,?_⟩
     have V:i=i.takeWhile dgt++i.dropWhile dgt:=List.takeWhile_append_dropWhile.symm
     have F:∀ c∈i.takeWhile dgt,I4 c:=Ky _
     have Q:∀ g:List UInt8,(∀ c∈g,I4 c)->g=i->i.takeWhile dgt=g/\i.dropWhile dgt=[]:=by
      intro g hd e
      have:=Fm (r:=[]) hd (by simp)
      grind
     generalize i.takeWhile dgt=b at *
     generalize i.dropWhile dgt=s at *
     have no:(s≠[]\/b=[]\/b.head? = some 48\/b=[49])->∀ neg' p g,¬ Form (((if neg=true then [45] else [])++(a++47::i))) neg' p g:=by
      rintro z C p g f
      rw [<- G] at f
      obtain ⟨rfl,rfl,m⟩:=j _ _ _ f
      by_cases E:g=[]
      ·grind
      ·rw [iN E] at m
       simp at m
       obtain ⟨e6,e7⟩:=Q g f.db m
       subst e6
       rcases z with n|n|n|n
       ·grind
       ·grind
       ·exact f.hb n
       ·exact f.b1 n
     rw [Ag,Ag]
     have M:((bs b).toList==({ data:=#[49] }:ByteArray).toList)=decide (b=[49]):=Jl b [49]
     rw [M]
     refine C0 (fun n=>?_) (fun n=>hK0 gz0 _ _ _)
     refine Br.not (C0 (fun T=>hK0 gz0 _ _ _) (fun T=>?_))
     obtain ⟨c,D,rfl⟩:=aW T
     refine ⟨c,⟨o,by rfl⟩,D9 (fun X=>?_) (fun X=>?_)⟩
     ·by_cases O:c::D=[49]
      ·rw [decide_eq_true O]
       exact hK0 gz0 _ _ _
      ·rw [decide_eq_false O]
       refine hK1 neg a (c::D) ⟨gz0,A,F,k,.inl u,?_,O⟩
       intro e;simp at e;exact X (by rw [e];rfl)
     ·have hh:(c::D).head? = some 48:=by
       simp only [cR,aT]
       apply UInt8.toNat_inj.1;grind
      grind
end
def B4c:(prog.info? 310).map (fun i=>i.zero)=some (some (.agg (bG 48 (.int .u8 0)))):=by kernel_rfl
def A23{x y:Int}(hy:0<y):(bV x y).num=x.tdiv (aR x y)/\((bV x y).den:Int)=y.tdiv (aR x y):=by
 have b:(aR x y:Int)∣x:=Int.gcd_dvd_left ..
 have a:(aR x y:Int)∣y:=Int.gcd_dvd_right ..
 constructor
 ·rw [Rat.num_divInt,cZ hy,Int.one_mul,Int.gcd_comm,cX b]
 ·rw [Rat.den_divInt,iN o,Int.gcd_comm,Int.natCast_ediv,Int.natAbs_of_nonneg o,cX a]
def Xb{q:Rat}(h:q.den=1):E8 q=Ny q.num:=by unfold E8;grind
def A04{q:Rat}(h:q.den≠1):E8 q=Ny q.num++[47]++Ny (q.den:Int):=by
 unfold E8;rw [iN h,Kv (i:=(q.den:Int)) o,Int.natAbs_natCast];simp
section
variable {h g:aM} {K:VP} {l:List UInt8}
def C1g{k:Nat}(h:k<=18):10^k<=1000000000000000000:=bI (aI dc h) dc
def Gm(hd:∀ c∈l,I4 c)(hl:l.length<=18)(hK:K (I (K3 l:Int)) h):aH prog 184 #[.string (bs l)] h K:=by
 refine (fnk func184 [(3,[3,7],[],[I 0,I 0])]) ?_
 simp only [I9]
 refine ⟨fun L d=>∃ k:Nat,L=[I (K3 (l.take k):Int),I k]/\d=h/\k<=l.length,fun L _=>l.length-(iAt L 1).toNat,⟨0,rfl,rfl,o⟩,?_⟩
 rintro n q d ⟨k,i,rfl,j⟩
 obtain ⟨rfl,rfl⟩:=i
 refine C0 (fun f=>?_) (fun f=>?_)
 ·have hkl:k<l.length:=o
  have b:=hd l[k] (bZ hkl)
  have a:=Fx (l:=l.take (k+1)) (fun c g=>hd c (bM g))
  rw [bL,cF o] at a
  have p:=C1g (k:=k+1) o
  have m:K3 (l.take (k+1))=10*K3 (l.take k)+(l[k].toNat-48):=by rw [bJ hkl,Hs]
  unfold I4 at b
  refine ⟨l[k],⟨o,by rw [aC,Wm,bD hkl]⟩,?_⟩
  have e:C4 (C4 (10*((K3 (l.take k):Nat):Int))+C4 (wu8 (((l[k].toNat:Nat):Int)-48)))=((K3 (l.take (k+1)):Nat):Int):=by
   rw [Vg o o,C1 (n:=((l[k].toNat:Nat):Int)-48) o o,C1 (n:=10*((K3 (l.take k):Nat):Int)) o o,C1 o o]
   omega
  rw [e,C1 (n:=(k:Int)+1) o o]
  exact ⟨⟨k+1,rfl,rfl,o⟩,by simp only [iAt,aE,aF];omega⟩
 grind
def A09{a b:Nat}(hK:K (I (aQ a b:Int)) h):aH prog 185 #[I (a:Int),I (b:Int)] h K:=by
 refine (fnk func185 [(1,[0,1],[],[I 0,I 0])]) ?_
 refine ⟨fun L c=>∃ x y:Nat,L=[I x,I y]/\c=h/\aQ x y=aQ a b,fun L _=>(iAt L 1).toNat,⟨a,b,rfl,rfl,rfl⟩,?_⟩
 rintro i g c ⟨x,y,l,rfl,k⟩
 obtain ⟨rfl,rfl⟩:i=(x:Int)/\g=(y:Int):=gz0
 refine D9 (fun d=>?_) (fun d=>?_)
 ·have j:y≠0:=o
  refine C0 (fun e=>absurd e d) (fun _=>?_)
  have f:=Nat.mod_lt x (Nat.pos_of_ne_zero j)
  refine ⟨⟨y,x%y,rfl,rfl,?_⟩,by assumption⟩
  rw [<- k,Nat.gcd_comm x y,Nat.gcd_rec y x,Nat.gcd_comm]
 simp_all
def Dk(hK1:∀ q,l=E8 q->q.num.natAbs<1000000000->q.den<1000000000->K (.tuple #[.agg #[I q.num,I (q.den:Int)],.bool true]) h)(hK0:K (.tuple #[.agg #[I 0,I 0],.bool false]) h):aH prog 139 #[.string (bs l)] h K:=by
 refine (fnk func139 (cs:=[(5,[29],[],[.bool false]),(11,[],[(2,2),(6,2)],[I 0,I 0,I 0,I 0]),(13,[],[(6,2)],[I 0,I 0])]) (own:=[2,4,6])) ?_
 rw [I9]
 refine C0 (fun _=>hK0) (fun N=>?_)
 refine Ob o ?_ ?_
 ·intro neg a b f
  refine ⟨_,_,_,_,rfl,?_⟩
  simp only [I9]
  refine ⟨fun L i=>L=[.bool (decide (a.length>9\/b.length>9))]/\i=h,Br.of (fun e=>by cases e) (fun _=>C0 (fun n=>⟨?_,rfl⟩) (fun n=>⟨?_,rfl⟩)),?_⟩
  ·grind
  ·by_cases z:b.length>9
   ·grind
   grind
  rintro g i ⟨B,rfl⟩
  obtain rfl:g=decide (a.length>9\/b.length>9):=gz0
  refine C0 (fun _=>hK0) (fun n=>?_)
  have r:(Um neg a).natAbs=K3 a:=by unfold Um;omega
  have C:=Fx f.da
  have t:=Fx f.db
  have F:∀ k,k<=9->10^k<=1000000000:=fun k w=>bI (aI dc w) dc
  have E:=F a.length o
  refine Gm f.da o ⟨_,rfl,?_⟩
  refine ⟨fun L d=>L=[I 0,I 0,I (K3 a:Int),I (Ns b:Int)]/\d=i/\aQ (K3 a) (Ns b)=1,?_,?_⟩
  ·rw [Ag]
   refine Br.not (C0 (fun s=>?_) (fun s=>?_))
   ·subst s;exact ⟨rfl,rfl,by unfold Ns;simp⟩
   ·refine Gm f.db o ⟨_,rfl,A09 ⟨_,rfl,D9 (fun _=>hK0) (fun M=>?_)⟩⟩
    have G:Ns b=K3 b:=by unfold Ns;grind
    grind
  ·rintro D A H Q j ⟨m,rfl,u⟩
   obtain ⟨_,_,rfl,rfl⟩:=m
   obtain ⟨q,y⟩:=f.isNum.2 u
   have c:=f.of_txt y
   have p:Ns b<1000000000:=by unfold Ns;grind
   refine ⟨fun L d=>L=[I q.num,I (q.den:Int)]/\d=j,Br.of (fun e=>?_) (fun e=>?_),?_⟩
   ·rw [c.1,c.2,e,C1 o o]
    exact ⟨by unfold Um;simp,rfl⟩
   ·rw [c.1,c.2,e]
    exact ⟨by rfl,rfl⟩
   grind
 ·intro O neg a b
  refine ⟨_,_,_,_,rfl,?_⟩
  refine ⟨fun L i=>L=[.bool true]/\i=h,Br.not ⟨rfl,rfl⟩,?_⟩
  rintro g i ⟨B,rfl⟩
  obtain rfl:g=true:=gz0
  exact Br.of (fun _=>hK0) (fun e=>by cases e)
def Hj{l':List UInt8}(hK1:∀ p q,l=E8 p->l'=E8 q->p.num.natAbs<1000000000->p.den<1000000000->q.num.natAbs<1000000000->q.den<1000000000->K (.tuple #[.agg #[I p.num,I (p.den:Int)],.agg #[I q.num,I (q.den:Int)],.bool true]) h)(hK0:K (.tuple #[.agg #[I 0,I 0],.agg #[I 0,I 0],.bool false]) h):aH prog 166 #[.string (bs l),.string (bs l')] h K:=by
 refine (fnk func166 (own:=[4,5,7,9])) ?_
 refine Dk ?_ ⟨_,_,_,rfl,Br.not hK0⟩
 intro p a e c
 refine ⟨_,_,_,rfl,Br.not ?_⟩
 refine Dk ?_ ⟨_,_,_,rfl,Br.not hK0⟩
 intro q b f d
 exact ⟨_,_,_,rfl,Br.not (hK1 p q a b e c f d)⟩
def Bf{num den:Int}(gp:Gp h)(hd:den≠0)(h1:num.natAbs<4000000000000000000)(h2:den.natAbs<4000000000000000000)(hK:K (.string (bs (E8 (bV num den)))) h):aH prog 167 #[I num,I den] h K:=by
 refine FCall.pure ((fnk func167 (cs:=[(3,[0,1],[],[I 0,I 0]),(6,[0,1],[],[I 0,I 0])]) (wr:=[216])) ?_)
 refine ⟨fun L t=>t=h/\∃ n d:Int,L=[I n,I d]/\0<d/\bV n d=bV num den/\n.natAbs=num.natAbs/\d.natAbs=den.natAbs,C0 (fun j=>⟨rfl,-num,-den,?_,o,Rat.neg_divInt_neg num den,o,o⟩) (fun j=>⟨rfl,num,den,rfl,o,rfl,rfl,rfl⟩),?_⟩
 ·rw [C1 o o,C1 o o,Int.zero_sub,Int.zero_sub]
 rintro f m t ⟨rfl,n,d,M,p,H,hn,T⟩
 obtain ⟨rfl,rfl⟩:=M
 rw [<- H] at hK
 have g:=A23 (x:=f) p
 have O:=Tj (a:=f) (b:=m) o
 generalize bV f m=q at *
 refine ⟨fun L s=>s=t/\L=[I q.num,I (q.den:Int)],D9 (fun j=>?_) (fun j=>?_),?_⟩
 ·have z:(if (C4 (0-f))>f then C4 (0-f) else f)=((f.natAbs:Nat):Int):=by
   rw [C1 o o];omega
  obtain ⟨k,rfl⟩:∃ k:Nat,m=k:=⟨m.toNat,o⟩
  rw [z]
  refine A09 ⟨_,rfl,?_⟩
  have V:0<aQ f.natAbs k:=Nat.gcd_pos_of_pos_right _ o
  refine C0 (fun e=>o) (fun _=>C0 (fun e=>o) (fun _=>⟨rfl,?_⟩))
  have A:cM f ((aQ f.natAbs k:Nat):Int)=q.num:=g.1.symm
  have e4:cM (k:Int) ((aQ f.natAbs k:Nat):Int)=(q.den:Int):=g.2.symm
  rw [A,e4,C1 o o,C1 o o]
 ·subst j
  have F:aR f 1=1:=by simp
  rw [F] at g
  grind
 rintro n2 d2 l ⟨rfl,w⟩
 obtain ⟨rfl,rfl⟩:=w
 refine D5 (fun j=>?_) (fun j=>?_)
 ·rw [Xb o] at hK
  exact Do gp o o ⟨_,rfl,B7 _,hK⟩
 ·rw [A04 o] at hK
  refine Dd B4c ?_
  intro b D
  refine ⟨_,rfl,⟨o,o⟩,?_⟩
  have W:bO (l.put b (.cells (aD 48 (aN .u8 0)).toArray 310)) l 310 1 (some ⟨b,0,none⟩) 0 48 (yv []):=⟨by simp [yv],o,.inr ⟨b,aD 48 (aN .u8 0),rfl,D,rfl,by simp,by simp [yv]⟩⟩
  refine Jm gp W o o o ?_
  intro A1 aa c1 z g1 R u
  refine ⟨_,_,_,rfl,?_⟩
  have X:(Ny q.num).length<=20:=by
   unfold Ny
   have:(Q8 q.num.natAbs).length<=19:=(Nb dc).2 (aP (show q.num.natAbs<10000000000000000000 from o) dc)
   grind
  have N:=u.len
  refine Fp (ch:=47) rfl u.priv o ?_
  intro A2 C c2 e2 g2 Q y
  have i:=u.trans y
  have r:=i.len
  rw [aJ,cI] at r
  refine Jm (gp.mono i.le) y.priv o o o ?_
  intro A3 G c3 A g3 S E
  refine ⟨_,_,_,rfl,?_⟩
  have c:=i.trans E
  have B:=c.len
  refine Il Ee.und Cc V1 c.priv.slV gz0 ⟨_,rfl,?_⟩
  refine ⟨B0 c.le c.priv.le,?_⟩
  assumption
end
structure RQ (h:aM) (w:QV) (q:Rat):Prop where
 num:ZI h w.s w.A w.n w.c q.num
 den:ZI h w.s2 w.A2 w.n2 w.c2 (if q.den=1 then 0 else (q.den:Int))
def ZB.gcd{m:Nat}{x y:Int}(hy:y≠0)(h:ZB m y):ZB m (aR x y:Int):=by
 refine h.le ?_
 exact cV o (Int.natAbs_dvd_natAbs.2 (Int.gcd_dvd_right x y))
section
variable {h h':aM} {K:VP} {A B:Option aK} {n c n' c':Nat} {s s':Bool} {x y z:Int} {m:Nat} {p q:Rat} {a b w:QV} {l:List UInt8}
def RQ.mono(hl:h.le h')(i:RQ h w q):RQ h' w q:=⟨i.num.mono hl,i.den.mono hl⟩
def RQ.whole(i:ZI h s A n c z):RQ h ⟨s,A,n,c,false,none,0,0⟩ (z:Rat):=⟨by assumption,by simpa using ZI.zero⟩
def RQ.zero:RQ h ⟨false,none,0,0,false,none,0,0⟩ 0:=⟨ZI.zero,ZI.zero⟩
def V6(i:RQ h w q)(hK:K (.bool (decide (q.den=1))) h):aH prog 201 #[.agg #[.bool w.s2,.slice w.A2 w.n2 w.c2]] h K:=by
 refine F6 i.den ?_
 have:=q.den_nz
 simp_all
def U7(i:ZI h s A n c z)(j:ZI h s' B n' c' y)(h1:q.num=z)(h2:(q.den:Int)=y)(hK:∀ w,RQ h w q->K w.v h):aH prog 219 #[.agg #[.bool s,.slice A n c],.agg #[.bool s',.slice B n' c']] h K:=by
 subst h1 h2
 refine (fnk func219 (own:=[2,3,4])) ?_
 refine S2 j ⟨_,rfl,C0 (fun e=>?_) (fun e=>?_)⟩
 ·exact hK ⟨s,A,n,c,false,none,0,0⟩ ⟨i,by rw [iP o];exact ZI.zero⟩
 ·exact hK ⟨s,A,n,c,s',B,n',c'⟩ ⟨i,gz0⟩
def Lo(i:RQ h w q)(hK:∀ s A n c h',h.le h'->ZI h' s A n c (q.den:Int)->K (.agg #[.bool s,.slice A n c]) h'):aH prog 224 #[w.v] h K:=by
 refine (fnk func224 (own:=[1,2])) ?_
 refine V6 i ⟨_,rfl,C0 (fun e=>?_) (fun e=>?_)⟩
 ·refine Dy dc dc ?_
  grind
 ·have:=i.den
  rw [iN e] at this
  exact hK _ _ _ _ _ (B7 _) this
def Ts(gl:Gtz h)(i:ZI h s A n c x)(j:ZI h s' B n' c' y)(hx:ZB m x)(hy:ZB m y)(hm:m<=6400000000)(hy0:0<y)(hK:∀ s1 A1 n1 c1 s2 A2 n2 c2 h',h.le h'->ZI h' s1 A1 n1 c1 (x.tdiv (aR x y))->ZI h' s2 A2 n2 c2 (y.tdiv (aR x y))->K (.tuple #[.agg #[.bool s1,.slice A1 n1 c1],.agg #[.bool s2,.slice A2 n2 c2]]) h'):aH prog 223 #[.agg #[.bool s,.slice A n c],.agg #[.bool s',.slice B n' c']] h K:=by
 refine (fnk func223 (os:=[(4,[0,1,3,4,2,5,6,7])]) (own:=[2,3,4,5,6])) ?_
 refine S2 j ⟨_,rfl,C0 (fun e=>?_) (fun e=>?_)⟩
 ·subst e
  have k:aR x 1=1:=by simp
  rw [k] at hK
  exact hK _ _ _ _ _ _ _ _ _ (B7 _) gz0 (by assumption)
 ·refine Ca gl i j hx hy hm ?_
  intro A1 n1 c1 t d g
  have k:=Int.gcd_pos_of_ne_zero_right x (show y≠0 from o)
  have a:ZB m (aR x y:Int):=ZB.gcd o hy
  refine ⟨_,_,_,_,rfl,S1 (i.mono d) g hx a hm o ?_⟩
  intro s2 A2 n2 c2 r b p
  refine ⟨_,_,_,_,rfl,b,S1 (j.mono (B0 d b)) (g.mono b) hy a hm o ?_⟩
  intro q A3 w c3 u f l
  exact ⟨_,_,_,_,rfl,f,hK _ _ _ _ _ _ _ _ _ (B0 d (B0 b f)) (p.mono f) l⟩
def A6o(i:RQ h w q)(hK:∀ w',RQ h w' (-q)->K w'.v h):aH prog 261 #[w.v] h K:=by
 refine B7r _ _ _ _ _ _ _ _ ?_
 refine Bz i.num ?_
 intro a b
 exact ⟨_,_,_,_,rfl,B7 _,hK ⟨a,w.A,w.n,w.c,w.s2,w.A2,w.n2,w.c2⟩ ⟨by assumption,by simpa using i.den⟩⟩
def A3b(i:RQ h w q)(hK:K (I q.num.sign) h):aH prog 246 #[w.v] h K:=by
 refine B4h _ _ _ _ _ _ _ _ ?_
 exact Nt i.num ⟨_,rfl,hK⟩
def Ct(i:RQ h w q)(hK:K (.bool (decide (q=0))) h):aH prog 208 #[w.v] h K:=by
 refine (fnk func208 (own:=[1])) ?_
 refine F6 i.num ⟨_,rfl,?_⟩
 simp_all
def Vr(gl:Gtz h)(i:RQ h a p)(j:RQ h b q)(hp:Sz m p)(hq:Sz m q)(hm:2*m+1<=6400000000)(hK:∀ w h',h.le h'->RQ h' w (p+q)->K w.v h'):aH prog 169 #[a.v,b.v] h K:=by
 have ar:=q.den_nz
 have M:∀ {z:Int},ZB m z->ZB (2*m+1) z:=fun B=>B.mono o
 refine B7u _ _ _ _ _ _ _ _ _ _ _ _ _ _ _ _ ?_
 refine ⟨fun L hp=>L=[.bool (decide (p.den=1/\q.den=1))]/\hp=h,V6 i ⟨_,rfl,C0 (fun e=>?_) (fun e=>?_)⟩,?_⟩
 ·exact V6 j ⟨_,rfl,by simp [e],rfl⟩
 ·grind
 rintro ag aj ⟨hL,rfl⟩
 obtain rfl:ag=decide (p.den=1/\q.den=1):=gz0
 refine C0 (fun e=>?_) (fun e=>?_)
 ·refine Ko i.num j.num hp.num hq.num o ?_
  intro s1 A1 n1 c1 h1 k X
  refine ⟨_,_,_,_,rfl,hK ⟨s1,A1,n1,c1,false,none,0,0⟩ _ k ?_⟩
  have:=RQ.whole X
  rw [Rat.intCast_add,<- Wf e.1,<- Wf e.2] at this
  exact this
 ·refine ⟨fun L hp=>L=[.bool (decide (p.den=1))]/\hp=aj,V6 i ⟨_,rfl,rfl,rfl⟩,?_⟩
  rintro ae av ⟨hL,rfl⟩
  obtain rfl:ae=decide (p.den=1):=gz0
  refine C0 (fun O=>?_) (fun O=>?_)
  ·have am:q.den≠1:=fun W=>e ⟨O,W⟩
   have jd:=j.den
   rw [iN am] at jd
   refine O8 i.num jd hp.num hq.den o ?_
   intro s1 A1 n1 c1 h1 k X
   refine ⟨_,_,_,_,rfl,k,Ko (m:=2*m+1) X (j.num.mono k) ((hp.num.mul hq.den).mono o) (M hq.num) hm ?_⟩
   intro s2 A2 n2 c2 h2 l i2
   have c:=Nj q p.num
   rw [<- Wf O,Rat.add_comm] at c
   refine ⟨_,_,_,_,rfl,l,hK ⟨s2,A2,n2,c2,b.s2,b.A2,b.n2,b.c2⟩ _ (B0 k l) ⟨gz0,?_⟩⟩
   rw [c.2]
   exact j.den.mono (B0 k l)
  ·refine V6 j ⟨_,rfl,C0 (fun W=>?_) (fun W=>?_)⟩
   ·have f:=i.den
    rw [iN O] at f
    refine O8 j.num f hq.num hp.den o ?_
    intro s1 A1 n1 c1 h1 k X
    refine ⟨_,_,_,_,rfl,k,Ko (m:=2*m+1) X (i.num.mono k) ((hq.num.mul hp.den).mono o) (M hp.num) hm ?_⟩
    intro s2 A2 n2 c2 h2 l i2
    have c:=Nj p q.num
    rw [<- Wf W] at c
    refine ⟨_,_,_,_,rfl,l,hK ⟨s2,A2,n2,c2,a.s2,a.A2,a.n2,a.c2⟩ _ (B0 k l) ⟨gz0,?_⟩⟩
    rw [c.2]
    exact i.den.mono (B0 k l)
   ·have f:=i.den
    have s:=j.den
    rw [iN O] at f
    rw [iN W] at s
    refine Ca gl f s hp.den hq.den o ?_
    intro A1 n1 c1 h1 k F
    rw [cY] at F
    obtain ⟨g,hg⟩:∃ g,g=p.den.gcd q.den:=⟨_,rfl⟩
    rw [<- hg] at F
    have af:0<g:=gz0
    have ad:g∣q.den:=by rw [hg];exact bX ..
    have u:ZB m (g:Int):=hq.den.le (by simpa using cV o ad)
    refine ⟨_,_,_,_,rfl,S1 (s.mono k) F hq.den u o o ?_⟩
    intro s2 A2 n2 c2 h2 l il
    rw [<- aZ] at il
    refine ⟨_,_,_,_,rfl,l,S1 (f.mono (B0 k l)) (F.mono l) hp.den u o o ?_⟩
    intro s3 A3 n3 c3 h3 N ir
    rw [<- aZ] at ir
    have E:ZB m ((q.den/g:Nat):Int):=hq.den.le (by exact aS _ _)
    have t:ZB m ((p.den/g:Nat):Int):=hp.den.le (by exact aS _ _)
    have D:=B0 k (B0 l N)
    refine ⟨_,_,_,_,rfl,N,O8 (i.num.mono D) (il.mono N) hp.num E o ?_⟩
    intro s4 A4 n4 c4 h4 C i4
    refine ⟨_,_,_,_,rfl,C,O8 (j.num.mono (B0 D C)) (ir.mono C) hq.num t o ?_⟩
    intro s5 A5 n5 c5 h5 G i5
    refine ⟨_,_,_,_,rfl,G,Ko (m:=2*m) (i4.mono G) i5 ((hp.num.mul E).mono o) ((hq.num.mul t).mono o) o ?_⟩
    intro s6 A6 n6 c6 h6 V H
    obtain ⟨z,B⟩:∃ z,z=p.num*((q.den/g:Nat):Int)+q.num*((p.den/g:Nat):Int):=⟨_,rfl⟩
    rw [<- B] at H
    have Q:ZB (2*m+1) z:=by
     rw [B]
     exact ((hp.num.mul E).mono (show m+m<=2*m from o)).add ((hq.num.mul t).mono (show m+m<=2*m from o))
    have d:=B0 D (B0 C (B0 G V))
    refine ⟨_,_,_,_,rfl,V,F6 H ⟨_,rfl,C0 (fun R=>?_) (fun R=>?_)⟩⟩
    ·have:p+q=0:=by
      rw [<- cP]
      by_cases ac:p.den.gcd q.den=1
      ·have:=(Wq p q ac).1
       grind
      ·have:=(Wp p q ac hg B rfl).1
       rw [this,R];simp
     rw [this] at hK
     exact hK ⟨false,none,0,0,false,none,0,0⟩ _ d RQ.zero
    ·refine S2 (F.mono (B0 l (B0 N (B0 C (B0 G V))))) ⟨_,rfl,C0 (fun ah=>?_) (fun ah=>?_)⟩
     ·have n:g=1:=o
      have c:=Wq p q o
      rw [n,Nat.div_one,Nat.div_one] at B
      refine O8 (f.mono d) (s.mono d) hp.den hq.den o ?_
      intro s7 A7 n7 c7 h7 y S
      refine ⟨_,_,_,_,rfl,y,U7 (q:=p+q) (H.mono y) S o o ?_⟩
      intro w iw
      exact ⟨_,_,_,_,_,_,_,_,rfl,B7 _,hK _ _ (B0 d y) iw⟩
     ·have n:p.den.gcd q.den≠1:=o
      obtain ⟨r,hr⟩:∃ r,r=z.natAbs.gcd g:=⟨_,rfl⟩
      have c:=Wp p q n hg B hr
      have au:0<r:=gz0
      have aw:r<=g:=by rw [hr];exact cV af (bX ..)
      have al:=F.mono (B0 l (B0 N (B0 C (B0 G V))))
      refine Ca (gl.mono d) H al Q (M u) hm ?_
      intro A7 n7 c7 h7 y S
      have e7:aR z (g:Int)=r:=hr.symm
      rw [e7] at S
      have aa:ZB m (r:Int):=u.le o
      refine ⟨_,_,_,_,rfl,S1 (H.mono y) S Q (M aa) hm o ?_⟩
      intro s8 A8 n8 c8 h8 T i8
      refine ⟨_,_,_,_,rfl,T,S1 (s.mono (B0 d (B0 y T))) (S.mono T) hq.den aa o o ?_⟩
      intro s9 A9 n9 c9 h9 l9 i9
      rw [<- aZ] at i9
      have ak:ZB m ((q.den/r:Nat):Int):=hq.den.le (by exact aS _ _)
      refine ⟨_,_,_,_,rfl,l9,O8 (ir.mono (B0 C (B0 G (B0 V (B0 y (B0 T l9)))))) i9 t ak o ?_⟩
      intro ao A10 aq an ap A ai
      refine ⟨_,_,_,_,rfl,A,U7 (q:=p+q) (i8.mono (B0 l9 A)) ai c.1 o ?_⟩
      intro w iw
      exact ⟨_,_,_,_,_,_,_,_,rfl,B7 _,hK _ _ (B0 d (B0 y (B0 T (B0 l9 A)))) iw⟩
def A6m(gl:Gtz h)(i:RQ h a p)(j:RQ h b q)(hp:Sz m p)(hq:Sz m q)(hm:2*m+1<=6400000000)(hK:∀ w h',h.le h'->RQ h' w (p-q)->K w.v h'):aH prog 213 #[a.v,b.v] h K:=by
 refine B7q _ _ _ _ _ _ _ _ _ _ _ _ _ _ _ _ ?_
 refine A6o j ?_
 intro d c
 refine ⟨_,_,_,_,_,_,_,_,rfl,B7 _,Vr gl i c hp hq.neg hm ?_⟩
 grind
end
structure Gl (h:aM):Prop where
 tz:Gtz h
 p10:Gp h
def Gl.mono{h h':aM}(g:Gl h)(l:h.le h'):Gl h':=⟨g.tz.mono l,g.p10.mono l⟩
section
variable {h h':aM} {K:VP} {A B:Option aK} {n c n' c':Nat} {s s':Bool} {x y z:Int} {m:Nat} {p q:Rat} {a b w:QV} {l:List UInt8}
def Vp(gl:Gtz h)(i:RQ h a p)(j:RQ h b q)(hp:Sz m p)(hq:Sz m q)(hm:m<=6400000000)(hK:∀ w h',h.le h'->RQ h' w (p*q)->K w.v h'):aH prog 171 #[a.v,b.v] h K:=by
 have X:=p.den_nz
 have T:=q.den_nz
 refine B7s _ _ _ _ _ _ _ _ _ _ _ _ _ _ _ _ ?_
 refine ⟨fun L hp=>L=[.bool (decide (p.num=0\/q.num=0))]/\hp=h,F6 i.num ⟨_,rfl,C0 (fun e=>?_) (fun e=>?_)⟩,?_⟩
 ·grind
 ·exact F6 j.num ⟨_,rfl,by simp [e],rfl⟩
 rintro n t ⟨Q,rfl⟩
 obtain rfl:n=decide (p.num=0\/q.num=0):=gz0
 refine C0 (fun e=>?_) (fun e=>?_)
 ·have:p*q=0:=by
   rw [cP,cP] at e
   grind
  rw [this] at hK
  exact hK ⟨false,none,0,0,false,none,0,0⟩ _ (B7 _) RQ.zero
 ·refine ⟨fun L hp=>L=[.bool (decide (p.den=1/\q.den=1))]/\hp=t,V6 i ⟨_,rfl,C0 (fun e=>?_) (fun e=>?_)⟩,?_⟩
  ·exact V6 j ⟨_,rfl,by simp [e],rfl⟩
  ·grind
  rintro l M ⟨Q,rfl⟩
  obtain rfl:l=decide (p.den=1/\q.den=1):=gz0
  refine C0 (fun e=>?_) (fun e=>?_)
  ·refine O8 i.num j.num hp.num hq.num hm ?_
   intro C A1 D c1 O f W
   refine ⟨_,_,_,_,rfl,hK ⟨C,A1,D,c1,false,none,0,0⟩ _ f ?_⟩
   have:=RQ.whole W
   rw [Rat.intCast_mul,<- Wf e.1,<- Wf e.2] at this
   exact this
  ·have r:=B0f p q
   refine Lo j ?_
   intro C A1 D c1 O f S
   refine ⟨_,_,_,_,rfl,f,Ts (gl.mono f) (i.num.mono f) S hp.num hq.den hm o ?_⟩
   intro s2 A2 n2 c2 s3 A3 n3 c3 h2 E A u
   have c:=B0 f E
   refine ⟨_,_,_,_,_,_,_,_,rfl,E,Lo (i.mono c) ?_⟩
   intro s4 A4 n4 c4 h4 d z
   refine ⟨_,_,_,_,rfl,d,Ts (gl.mono (B0 c d)) (j.num.mono (B0 c d)) z hq.num hp.den hm o ?_⟩
   intro s5 A5 n5 c5 s6 A6 n6 c6 h5 g B y
   have e1:aR p.num (q.den:Int)=aQ p.num.natAbs q.den:=rfl
   have R:aR q.num (p.den:Int)=aQ q.num.natAbs p.den:=rfl
   rw [e1] at A u
   rw [R] at B y
   rw [<- aZ] at u y
   refine ⟨_,_,_,_,_,_,_,_,rfl,g,O8 (A.mono (B0 d g)) B hp.num.tdiv hq.num.tdiv hm ?_⟩
   intro s7 A7 n7 c7 h7 k N
   have G:ZB m ((p.den/aQ q.num.natAbs p.den:Nat):Int):=hp.den.le (by exact aS _ _)
   have V:ZB m ((q.den/aQ p.num.natAbs q.den:Nat):Int):=hq.den.le (by exact aS _ _)
   refine ⟨_,_,_,_,rfl,k,O8 (y.mono k) (u.mono (B0 d (B0 g k))) G V hm ?_⟩
   intro s8 A8 n8 c8 h8 s H
   refine ⟨_,_,_,_,rfl,s,U7 (q:=p*q) (N.mono s) H r.1 o ?_⟩
   intro w F
   exact ⟨_,_,_,_,_,_,_,_,rfl,B7 _,hK _ _ (B0 c (B0 d (B0 g (B0 k s)))) F⟩
def Xo(i:RQ h w q)(hK:∀ w h',h.le h'->RQ h' w q⁻¹->K w.v h'):aH prog 282 #[w.v] h K:=by
 refine (fnk func282 (os:=[(5,[0,3,4,1,2,5,6,7]),(6,[0,2,3,1,4,5])]) (own:=[1,2])) ?_
 refine Nt i.num ⟨_,rfl,D5 (fun e=>?_) (fun e=>?_)⟩
 ·have:q⁻¹=0:=by simp_all
  rw [this] at hK
  exact hK ⟨false,none,0,0,false,none,0,0⟩ _ (B7 _) RQ.zero
 ·have g:q.num≠0:=fun r=>e gz0
  refine D5 (fun f=>?_) (fun f=>?_)
  ·have j:q.num<0:=Int.sign_neg_iff.1 o
   refine Lo i ?_
   intro p A1 l c1 n a c
   refine ⟨_,_,_,_,rfl,a,Bz c ?_⟩
   intro t m
   refine ⟨_,_,_,_,rfl,B7 _,Bz (i.num.mono a) ?_⟩
   intro s k
   refine ⟨_,_,_,_,rfl,B7 _,U7 (q:=q⁻¹) m k ?_ ?_ ?_⟩
   ·rw [Rat.num_inv,f];omega
   ·rw [Rat.den_inv,iN g];omega
   ·intro w d
    exact ⟨_,_,_,_,_,_,_,_,rfl,B7 _,hK _ _ a d⟩
  ·have b:0<q.num:=by
    grind
   refine Lo i ?_
   intro p A1 l c1 n a c
   refine ⟨_,_,_,_,rfl,a,U7 (q:=q⁻¹) c (i.num.mono a) ?_ ?_ ?_⟩
   ·rw [Rat.num_inv,cZ b,Int.one_mul]
   ·rw [Rat.den_inv,iN g];omega
   ·intro w d
    exact ⟨_,_,_,_,_,_,_,_,rfl,B7 _,hK _ _ a d⟩
def Vq(gl:Gtz h)(i:RQ h a p)(j:RQ h b q)(hp:Sz m p)(hq:Sz m q)(hm1:1<=m)(hm:m<=6400000000)(hK:∀ w h',h.le h'->RQ h' w (p/q)->K w.v h'):aH prog 247 #[a.v,b.v] h K:=by
 refine B7t _ _ _ _ _ _ _ _ _ _ _ _ _ _ _ _ ?_
 refine Xo j ?_
 intro g l c e
 refine ⟨_,_,_,_,_,_,_,_,rfl,c,Vp (gl.mono c) (i.mono c) e hp (hq.inv hm1) hm ?_⟩
 intro n k d f
 exact ⟨_,_,_,_,_,_,_,_,rfl,d,hK _ _ (B0 c d) f⟩
def Yy{t:List UInt8}{k:Nat}(h:∀ c∈t,I4 c)(hk:t.length<=k):ZB (4*k) (K3 t:Int):=by
 exact aP (Cj h) (aI dc o)
def Form.lens{neg:Bool}{a b:List UInt8}(f:Form l neg a b):a.length<=l.length/\b.length<=l.length:=by
 have:=congrArg List.length f.eq
 grind
def Od(gl:Gtz h)(hl:l.length<=100000000)(hK1:∀ q,l=E8 q->∀ w h',h.le h'->RQ h' w q->K (.tuple #[w.v,.bool true]) h')(hK0:¬ IsNum l->∀ (w:QV) h',h.le h'->RQ h' w 0->K (.tuple #[w.v,.bool false]) h'):aH prog 207 #[.string (bs l)] h K:=by
 refine (fnk func207 (cs:=[(7,[],[(6,4)],[.bool false,.slice none 0 0,.bool false,.slice none 0 0])]) (own:=[2,4,6])) ?_
 refine Ob o ?_ ?_
 ·intro neg a b f
  refine ⟨_,_,_,_,rfl,Br.not ?_⟩
  have H:=f.lens
  refine Io f.da o ?_
  intro A1 R c1 G s i1
  refine ⟨_,_,_,_,rfl,?_⟩
  refine ⟨fun L hp=>∃ i:Bool,L=[.bool i,.slice A1 R c1,.bool false,.slice none 0 0]/\hp=G/\ZI G i A1 R c1 (Um neg a),Br.of (fun e=>?_) (fun e=>?_),?_⟩
  ·refine Bz i1 ?_
   intro i t
   exact ⟨_,_,_,_,rfl,i,rfl,rfl,by unfold Um;grind⟩
  ·exact ⟨false,rfl,rfl,by unfold Um;grind⟩
  rintro D p n d x2 W aa ac V ⟨i,M,rfl,t⟩
  simp only [List.cons.injEq,Value.slice.injEq,Value.bool.injEq,and_true] at M
  obtain ⟨rfl,⟨rfl,rfl,rfl⟩,rfl,rfl,rfl,rfl⟩:=M
  have j:(Um neg a).natAbs=K3 a:=by unfold Um;omega
  rw [Ag]
  refine C0 (fun u=>?_) (fun u=>?_)
  ·subst u
   obtain ⟨q,g⟩:=f.isNum.2 (by unfold Ns;simp)
   obtain ⟨F,A⟩:=f.of_txt g
   refine hK1 q g ⟨D,p,n,d,false,none,0,0⟩ _ s ⟨gz0,?_⟩
   rw [A,show Ns []=1 from rfl,iP rfl];exact ZI.zero
  ·refine Io f.db o ?_
   intro A4 S c4 h4 m N
   have C:ZB (4*l.length) (Um neg a):=(Yy f.da (k:=l.length) o).le o
   refine ⟨_,_,_,_,rfl,Ca (gl.mono (B0 s m)) (t.mono m) N C (Yy f.db (k:=l.length) o) o ?_⟩
   intro A5 n5 c5 h5 r T
   refine ⟨_,_,_,_,rfl,S2 T ⟨_,rfl,?_⟩⟩
   have c:Ns b=K3 b:=by unfold Ns;grind
   have z:aR (Um neg a) (K3 b:Int)=aQ (K3 a) (Ns b):=by
    rw [c];show aQ (Um neg a).natAbs (K3 b)=_;rw [j]
   rw [z]
   refine Br.not (C0 (fun Q=>?_) (fun Q=>?_))
   ·obtain ⟨q,g⟩:=f.isNum.2 o
    obtain ⟨F,A⟩:=f.of_txt g
    have y:Ns b≠1:=by
     intro X
     have O:=Nc f.db u (.inl f.hb)
     rw [<- c,X] at O
     apply f.b1
     rw [<- O];simp [Q8,Eu,K9,dch]
    refine hK1 q g ⟨D,p,n,d,false,A4,S,c4⟩ _ (B0 s (B0 m r)) ⟨by rw [F];exact t.mono (B0 m r),?_⟩
    rw [A,iN y,c];exact N.mono r
   ·refine hK0 ?_ ⟨false,none,0,0,false,none,0,0⟩ _ (B0 s (B0 m r)) RQ.zero
    intro B
    exact Q (by rw [f.isNum.1 B];rfl)
 ·intro hf neg a b
  refine ⟨_,_,_,_,rfl,Br.not ?_⟩
  refine hK0 ?_ ⟨false,none,0,0,false,none,0,0⟩ _ (B7 _) RQ.zero
  intro B
  obtain ⟨E,a',b',f⟩:=B.form
  grind
def Bt(gl:Gtz h)(hl:l.length<=100000000)(hK:∀ w h',h.le h'->RQ h' w (rv l)->K w.v h'):aH prog 168 #[.string (bs l)] h K:=by
 refine (fnk func168 (own:=[2,3])) ?_
 refine Od gl hl ?_ ?_
 ·intro q e w c b a
  exact ⟨_,_,_,_,_,_,_,_,_,rfl,hK w c b (by rw [e,G1];exact a)⟩
 ·intro d w c b a
  exact ⟨_,_,_,_,_,_,_,_,_,rfl,hK w c b (by rw [B4o d];exact a)⟩
def Cs(gp:Gp h)(i:RQ h w q)(hq:Sz m q)(hm:m<=40000000)(hK:K (.string (bs (E8 q))) h):aH prog 170 #[w.v] h K:=by
 refine FCall.pure ((fnk func170 (own:=[1])) ?_)
 refine V6 i ⟨_,rfl,C0 (fun e=>?_) (fun e=>?_)⟩
 ·rw [Xb e] at hK
  refine A2s i.num (fun f j=>?_) (fun f=>?_)
  ·refine ⟨_,_,rfl,Br.of (fun _=>(fnk func163) ?_) (fun e=>by cases e)⟩
   exact Do gp f j ⟨_,rfl,_,rfl,B7 _,hK⟩
  ·refine ⟨_,_,rfl,Br.of (fun e=>by cases e) (fun _=>?_)⟩
   exact Zt gp i.num hq.num o ⟨_,rfl,B7 _,hK⟩
 ·rw [A04 e] at hK
  have c:=i.den
  rw [iN e] at c
  refine Hc (l:=[]) (eT:=5) gp (Priv.nil _ _ _ _) i.num hq.num o o ?_
  intro A1 D c1 B z f g
  refine ⟨_,_,_,rfl,?_⟩
  have s:(Ny q.num).length<=50000000:=by
   unfold Ny
   have:=Ck hq.num
   grind
  have r:=g.len
  refine Fp (ch:=47) rfl g.priv o ?_
  intro A2 E c2 y u j k
  have b:=g.trans k
  have d:=b.len
  rw [aJ,cI] at d
  refine Hc (gp.mono b.le) k.priv (c.mono b.le) hq.den o o ?_
  intro A3 t c3 C F A p
  refine ⟨_,_,_,rfl,?_⟩
  have a:=b.trans p
  have n:=a.len
  refine Il Ee.und Cc V1 a.priv.slV gz0 ⟨_,rfl,?_⟩
  refine ⟨B0 a.le a.priv.le,?_⟩
  assumption
end
structure Tx (m:Nat) (l:List UInt8):Prop where
 len:l.length<=100000000
 sz:Sz m (rv l)
def B2a{m:Nat}{z:Int}(h:ZB m z):(Ny z).length<=m+2:=by
 have:=Ck h
 unfold Ny;grind
def Xa{m:Nat}{q:Rat}(h:Sz m q):(E8 q).length<=2*m+4:=by
 have a:=B2a h.num
 have b:=Ck (n:=q.den) (m:=m) (by have:=h.den;assumption)
 unfold E8
 grind
def Tx.of{m:Nat}{q:Rat}(h:Sz m q)(hm:m<=40000000):Tx m (E8 q):=⟨by have:=Xa h;omega,by rw [G1];exact h⟩
def Ps{x y:Int}(hx:x.natAbs<1000000000)(hy:y.natAbs<1000000000):(x*y).natAbs<1000000000000000000:=by
 rw [Int.natAbs_mul]
 exact Nat.mul_lt_mul'' hx hy
def A8l(q:Rat):∃ c r,E8 q=c::r/\(c=45↔q<0):=by
 have f:=Ec q
 have a:E8 q≠[]:=by
  intro e
  have:=f.eq
  rw [e] at this
  have d:=f.ne
  have:=congrArg List.length this
  simp only [aJ,List.length_nil] at this
  exact d (aL o)
 obtain ⟨c,r,e⟩:=aW a
 refine ⟨c,r,e,?_⟩
 have b:=f.head
 rw [e,cR,Bool.eq_iff_iff,decide_eq_true_iff,beq_iff_eq,aT] at b
 rw [<- b,Rat.lt_iff];simp
def A4w{q:Rat}(h:q<0):E8 q=45::E8 (-q):=by
 have a:q.num<0:=by have:=(Rat.lt_iff q 0).1 h;simp_all
 unfold E8
 rw [Rat.neg_num,Rat.neg_den,Qs a,Kv (i:= -q.num) o,Int.natAbs_neg];simp
def B89:E8 0=[48]:=by rfl
section
variable {h:aM} {K:VP} {m:Nat} {a b:List UInt8}
def Nx(gl:Gl h)(hl:a.length<=100000000)(hK1:IsNum a->K (.bool true) h)(hK0:¬ IsNum a->K (.bool false) h):aH prog 104 #[.string (bs a)] h K:=by
 refine FCall.pure ((fnk func104 (os:=[(7,[0,1,3,4,2,5,6,7,8])]) (own:=[3,5])) ?_)
 refine Dk ?_ ?_
 ·intro q e _ _
  exact ⟨_,_,_,rfl,Br.of (fun _=>⟨B7 _,hK1 ⟨q,e⟩⟩) (fun e=>by cases e)⟩
 ·refine ⟨_,_,_,rfl,Br.of (fun e=>by cases e) (fun _=>?_)⟩
  refine Ob o ?_ ?_
  ·intro neg x y f
   refine ⟨_,_,_,_,rfl,Br.of (fun e=>by cases e) (fun _=>?_)⟩
   have j:=f.lens
   rw [Ag]
   refine C0 (fun e=>?_) (fun e=>?_)
   ·subst e
    exact ⟨B7 _,hK1 (f.isNum.2 (by unfold Ns;simp))⟩
   ·refine Io f.da o ?_
    intro A1 C c1 z d r
    refine ⟨_,_,_,_,rfl,d,Io f.db o ?_⟩
    intro A2 D c2 s b m
    refine ⟨_,_,_,_,rfl,b,Ca (gl.tz.mono (B0 d b)) (r.mono b) m (Yy f.da (k:=a.length) o) (Yy f.db (k:=a.length) o) o ?_⟩
    intro A3 u c3 B l p
    refine ⟨_,_,_,_,rfl,l,S2 p ⟨_,rfl,B7 _,B0 d (B0 b l),?_⟩⟩
    rw [cY]
    have g:Ns y=K3 y:=by unfold Ns;grind
    by_cases n:aQ (K3 x) (K3 y)=1
    ·rw [decide_eq_true o]
     exact hK1 (f.isNum.2 gz0)
    ·rw [decide_eq_false o]
     exact hK0 (fun c=>n (by rw [<- g];exact f.isNum.1 c))
  ·intro A neg x y
   refine ⟨_,_,_,_,rfl,Br.of (fun _=>⟨B7 _,hK0 ?_⟩) (fun e=>by cases e)⟩
   intro c
   obtain ⟨i,w,t,f⟩:=c.form
   grind
def A8o(gl:Gl h)(hl:a.length<=100000000)(hK:K (.string (bs (E8 (-rv a)))) h):aH prog 112 #[.string (bs a)] h K:=by
 refine (fnk func112) ?_
 have d:((bs a).toList==({ data:=#[48] }:ByteArray).toList)=decide (a=[48]):=Jl a [48]
 rw [d]
 refine C0 (fun e=>?_) (fun e=>?_)
 ·subst e;assumption
 ·refine Nx gl hl ?_ ?_
  ·rintro ⟨q,rfl⟩
   rw [G1] at hK
   have k:q≠0:=by rintro rfl;exact e B89
   obtain ⟨c,r,i,l⟩:=A8l q
   refine ⟨_,rfl,Br.not ?_⟩
   refine ⟨c,⟨o,by rw [Wm,i];rfl⟩,D5 (fun f=>?_) (fun f=>?_)⟩
   ·have g:c=45:=by apply UInt8.toNat_inj.1;grind
    have b:=A4w (l.1 g)
    rw [b,I9]
    refine ⟨⟨o,gz0⟩,?_⟩
    rw [N5,show ((1:Int)).toNat=1 from rfl,aG (by simp),List.drop_succ_cons,aX]
    exact hK
   ·have g:¬ q<0:=fun n=>f (by simp_all)
    have j: -q<0:=by
     grind
    rw [A4w j,Rat.neg_neg] at hK
    refine ⟨?_,?_⟩
    ·show (((bs [45]).size+(bs (E8 q)).size:Nat):Int)<=_
     rw [I9,I9];grind
    assumption
  ·intro m
   rw [B4o m,Rat.neg_zero,B89] at hK
   exact ⟨_,rfl,Br.not hK⟩
def Kz(gl:Gl h)(ta:Tx m a)(tb:Tx m b)(hm:2*m+1<=40000000)(hK:K (.string (bs (E8 (rv a+rv b)))) h):aH prog 117 #[.string (bs a),.string (bs b)] h K:=by
 refine FCall.pure ((fnk func117 (own:=[5,6])) ?_)
 refine Hj ?_ ?_
 ·intro p q u l g j i B
  rw [u,l,G1,G1,Fb] at hK
  refine ⟨_,_,_,_,_,rfl,Br.of (fun _=>?_) (fun e=>by cases e)⟩
  have y:=Ps g (show ((q.den:Nat):Int).natAbs<1000000000 from o)
  have C:=Ps i (show ((p.den:Nat):Int).natAbs<1000000000 from o)
  have A:=Ps (show ((p.den:Nat):Int).natAbs<1000000000 from o) (show ((q.den:Nat):Int).natAbs<1000000000 from o)
  rw [C1 (n:=p.num*q.den) o o,C1 (n:=q.num*p.den) o o,C1 (n:=(p.den:Int)*q.den) o o,C1 o o]
  exact Bf gl.p10 (cT (den_ne p) (den_ne q)) o o ⟨_,rfl,B7 _,hK⟩
 ·refine ⟨_,_,_,_,_,rfl,Br.of (fun e=>by cases e) (fun _=>?_)⟩
  refine Bt gl.tz ta.len ?_
  intro w g d t
  refine ⟨_,_,_,_,_,_,_,_,rfl,Bt (gl.tz.mono d) tb.len ?_⟩
  intro D j f k
  refine ⟨_,_,_,_,_,_,_,_,rfl,Vr (gl.tz.mono (B0 d f)) (t.mono f) k ta.sz tb.sz o ?_⟩
  intro z i r s
  have c:=B0 d (B0 f r)
  exact ⟨_,_,_,_,_,_,_,_,rfl,Cs (gl.p10.mono c) s (ta.sz.add tb.sz) o ⟨_,rfl,c,hK⟩⟩
def A05(gl:Gl h)(ta:Tx m a)(tb:Tx m b)(hm:2*m+1<=40000000)(hK:K (.string (bs (E8 (rv a-rv b)))) h):aH prog 164 #[.string (bs a),.string (bs b)] h K:=by
 refine FCall.pure ((fnk func164 (own:=[5,6])) ?_)
 refine Hj ?_ ?_
 ·intro p q w l g j i C
  have t:p-q=bV (p.num*q.den-q.num*p.den) (p.den*q.den):=by
   rw [Rat.sub_eq_add_neg,Fb,Rat.neg_num,Rat.neg_den,Int.neg_mul,<- Int.sub_eq_add_neg]
  rw [w,l,G1,G1,t] at hK
  refine ⟨_,_,_,_,_,rfl,Br.of (fun _=>?_) (fun e=>by cases e)⟩
  have z:=Ps g (show ((q.den:Nat):Int).natAbs<1000000000 from o)
  have D:=Ps i (show ((p.den:Nat):Int).natAbs<1000000000 from o)
  have B:=Ps (show ((p.den:Nat):Int).natAbs<1000000000 from o) (show ((q.den:Nat):Int).natAbs<1000000000 from o)
  rw [C1 (n:=p.num*q.den) o o,C1 (n:=q.num*p.den) o o,C1 (n:=(p.den:Int)*q.den) o o,C1 o o]
  exact Bf gl.p10 (cT (den_ne p) (den_ne q)) o o ⟨_,rfl,B7 _,hK⟩
 ·refine ⟨_,_,_,_,_,rfl,Br.of (fun e=>by cases e) (fun _=>?_)⟩
  refine Bt gl.tz ta.len ?_
  intro y g d u
  refine ⟨_,_,_,_,_,_,_,_,rfl,Bt (gl.tz.mono d) tb.len ?_⟩
  intro E j f k
  refine ⟨_,_,_,_,_,_,_,_,rfl,A6m (gl.tz.mono (B0 d f)) (u.mono f) k ta.sz tb.sz o ?_⟩
  intro A i r s
  have c:=B0 d (B0 f r)
  exact ⟨_,_,_,_,_,_,_,_,rfl,Cs (gl.p10.mono c) s (ta.sz.sub tb.sz) o ⟨_,rfl,c,hK⟩⟩
def Ed(gl:Gl h)(ta:Tx m a)(tb:Tx m b)(hm:2*m<=40000000)(hK:K (.string (bs (E8 (rv a*rv b)))) h):aH prog 118 #[.string (bs a),.string (bs b)] h K:=by
 refine FCall.pure ((fnk func118 (own:=[5,6])) ?_)
 refine Hj ?_ ?_
 ·intro p q k t g l i z
  rw [k,t,G1,G1,Ip] at hK
  refine ⟨_,_,_,_,_,rfl,Br.of (fun _=>?_) (fun e=>by cases e)⟩
  have y:=Ps g i
  have C:=Ps (show ((p.den:Nat):Int).natAbs<1000000000 from o) (show ((q.den:Nat):Int).natAbs<1000000000 from o)
  rw [C1 (n:=p.num*q.num) o o,C1 (n:=(p.den:Int)*q.den) o o]
  exact Bf gl.p10 (cT (den_ne p) (den_ne q)) o o ⟨_,rfl,B7 _,hK⟩
 ·refine ⟨_,_,_,_,_,rfl,Br.of (fun e=>by cases e) (fun _=>?_)⟩
  refine Bt gl.tz ta.len ?_
  intro w g d j
  refine ⟨_,_,_,_,_,_,_,_,rfl,Bt (gl.tz.mono d) tb.len ?_⟩
  intro B l f s
  refine ⟨_,_,_,_,_,_,_,_,rfl,Vp (gl.tz.mono (B0 d f)) (j.mono f) s ta.sz tb.sz o ?_⟩
  intro A i u r
  have c:=B0 d (B0 f u)
  exact ⟨_,_,_,_,_,_,_,_,rfl,Cs (gl.p10.mono c) r (ta.sz.mul tb.sz) o ⟨_,rfl,c,hK⟩⟩
end
def C3k(h:aM)(r:bN)(h':aM):Prop:=r= .bool true/\h.le h'
end Go.Proofs.YtkfhdoblhajcbaaGreatDoor
namespace Go.Proofs.YtkfhdoblhajcbaaGreatDoor
set_option maxRecDepth 20000
open Go Go.RowKit
def memOf(W:World):aM:=fun b=>W.heap[b]?
def frame_of{P:cL}{f:FuncId}{args:Array bN}{W:World}(x:aH P f args (memOf W) (C3k (memOf W))):Calls P f args W fun e w'=>e= .returned (.bool true)/\Below W.heap.size W w':=by
 refine (x W (fun b o e=>e)).mono ?_
 rintro e W' ⟨r,l,i,⟨j,c⟩,a⟩
 subst j
 refine ⟨i,a.os,a.tape,a.output,a.size,fun k g=>?_⟩
 have d:memOf W k=some W.heap[k]:=Array.getElem?_eq_getElem g
 have:=a.sim k _ (c k _ d)
 rw [this];exact d.symm
def Ol{W:World}{a:aK}{v:bN}(e:W.cell? a=some v):(memOf W).cell? a=some v:=by
 unfold World.cell? at e
 unfold Heap.cell? memOf
 exact e
def row_of{W:World}{a:Option aK}{len cap:Nat}{zs:List Int}(w:(a=none/\len=0/\cap=0/\zs=[])\/
 ∃ x,a=some x/\len<=cap/\cap<=maxLen/\zs.length=cap/\(∀ i,i<zs.length->W.cell? (x.add i)=some (.int .i64 (zs.getD i 0)))/\∀ n∈zs,(Lit.int .i64 n).wf=true):∃ xs:List Int,len=xs.length/\len<=cap/\SlI .i64 (memOf W) a xs/\∀ n∈xs,(Lit.int .i64 n).wf=true:=by
 rcases w with ⟨rfl,rfl,rfl,rfl⟩|⟨x,rfl,e,j,k,d,f⟩
 ·exact ⟨[],rfl,bH _,SlI.nil,by simp⟩
 ·refine ⟨zs.take len,by simp;omega,e,.inr ⟨x,rfl,fun i v b=>?_⟩,fun n g=>f n (bM g)⟩
  rw [List.getElem?_map] at b
  cases hz:(zs.take len)[i]? with
  | none=>rw [hz] at b;cases b
  | some n=>
   rw [hz] at b
   cases b
   rw [List.getElem?_take] at hz
   split at hz
   ·have c:i<zs.length:=by
     by_cases c:i<zs.length
     ·exact c
     ·rw [List.getElem?_eq_none o] at hz;cases hz
    have:=Ol (d i c)
    rw [this]
    simp only [List.getD,hz,Option.getD_some]
   ·cases hz
def A5q{P:cL}{W:World}{x:String × DataW Unit}{rest:List (String × DataW Unit)}(h:laidMet P (x::rest) W):laidMet P rest W:=by
 obtain ⟨n,d⟩:=x
 obtain ⟨ps,⟨g,t,cs,a,p,q,l,j,m,k,f,rfl⟩,c,e⟩:=h
 exact ⟨q,f,(List.nodup_append.1 c).2.1,fun b off i=>e b off (List.mem_append_right _ i)⟩
def C1h:List Int:=[0,1,28,2,29,14,24,3,30,22,20,15,25,17,4,8,31,27,13,23,21,19,16,7,26,12,18,6,11,5,10,9]
def B2g:List Int:=[0,1,56,2,57,49,28,3,61,58,42,50,38,29,17,4,62,47,59,36,45,43,51,22,53,39,33,30,24,18,12,5,63,55,48,27,60,41,37,16,46,35,44,21,52,32,23,11,54,26,40,15,34,20,31,10,25,14,19,9,13,8,7,6]
def B5p:List Int:=[1,10,100,1000,10000,100000,1000000,10000000,100000000,1000000000,10000000000,100000000000,1000000000000,10000000000000,100000000000000,1000000000000000,10000000000000000,100000000000000000,1000000000000000000,10000000000000000000]
def B55:prog.globalNamed "math/bits.deBruijn64tab" = some 0:=by kernel_rfl
def B56:prog.globalNamed "internal/strconv.uint64pow10" = some 3:=by kernel_rfl
def tabs_gl{W:World}(h:laidMet prog [("math/bits.deBruijn32tab",Rows.laid_math_bits_deBruijn32tab),("math/bits.deBruijn64tab",Rows.laid_math_bits_deBruijn64tab),("internal/strconv.uint64pow10",Rows.laid_internal_strconv_uint64pow10)] W):Gl (memOf W):=by
 have i:=A5q h
 have j:=A5q i
 have e:Lib.TabIs prog W "math/bits.deBruijn64tab" .u8 B2g:=Lib.tabIs_of_head (rest:=[("internal/strconv.uint64pow10",Rows.laid_internal_strconv_uint64pow10)]) B55 (by kernel_rfl) underlying379 underlying5 (by kernel_rfl) (by kernel_rfl) i
 have g:Lib.TabIs prog W "internal/strconv.uint64pow10" .u64 B5p:=Lib.tabIs_of_head (rest:=[]) B56 (by kernel_rfl) underlying383 underlying195 (by kernel_rfl) (by kernel_rfl) j
 have d:∀ k,k<64->A31 k<B2g.length/\B2g.getD (A31 k) 0=(k:Int):=by decide +kernel
 have f:∀ k,k<20->B5p.getD k 0=((10^k:Nat):Int):=by decide +kernel
 refine ⟨fun k c=>?_,fun k c=>?_⟩
 ·obtain ⟨a,b⟩:=d k c
  have:=Ol (e.cell B55 (A31 k) a)
  rw [D4,aV,bU,this,b]
 ·have:=Ol (g.cell B56 k (by show k<20;exact c))
  rw [D4,aV,bU,this,f k c]
def B0o(zs:List Int)(k:IntKind):Obj->Obj
 | .cells _ t frozen=>.cells (zs.map (aN k)).toArray t frozen
 | o=>o
def layTabs(a:Array Obj):Array Obj:=((a.modify 4 (B0o C1h .u8)).modify 0 (B0o B2g .u8)).modify 3 (B0o B5p .u64)
