/- A part. -/
import Derived.Test.YtkfhdoblhajcbaaGreatDoorG18
import Derived.Test.YtkfhdoblhajcbaaGreatDoorRows
import Derived.Lib.LaidTab
open Go.Proofs.Tryz
set_option linter.all false
open _root_.Array renaming replicate->bG
open _root_.Go.Builtin renaming zeroCells->aU,append_->bF
open _root_.ByteArray renaming size->cJ
open Int renaming toNat_natCast->aC,gcd->aR,ofNat_tmod->aY,ofNat_tdiv->aZ,tmod->cC,natCast_mul->cG,tdiv->cM,mul_le_mul_of_nonneg_right->cO,mul_ne_zero->cU,tdiv_eq_ediv_of_dvd->cY,gcd_natCast_natCast->cZ,sign_eq_one_of_pos->dB,pow_succ->dC
open List renaming replicate->aD,getElem?_cons_zero->aE,getElem?_cons_succ->aF,take_of_length_le->aG,length_append->aJ,eq_nil_of_length_eq_zero->aL,exists_cons_of_ne_nil->aW,drop_zero->aX,getElem?_eq_getElem->bD,take_succ_eq_append_getElem->bJ,takeWhile_append_dropWhile->bK,length_take->bL,mem_of_mem_take->bM,drop_eq_getElem_cons->bW,append_assoc->bY,getElem_mem->bZ,drop_of_length_le->cD,take_append_drop->cH,length_singleton->cI,length_drop->cN,map_append->cR,head?_cons->cT,getLast?_singleton->cX
open Nat renaming pow_le_pow_right->aI,lt_of_lt_of_le->aP,gcd->aQ,div_le_self->aS,mul_one->aV,sub_zero->bC,le_refl->bH,le_trans->bI,zero_add->bU,gcd_dvd_right->bX,min_eq_left->cF,pow_le_pow_left->cK,le_of_dvd->cW
open Option.some renaming injEq->aT
open Rat renaming divInt->bV,num_eq_zero->cQ,add->cV
open _root_.Go.Value renaming int->aN
open _root_.Go renaming Addr->aK,TypeId->aO,Value->bN,Program->cL
open _root_.Go.Proofs.YtkfhdoblhajcbaaGreatDoor renaming FCall->aH,Heap->aM,Priv->bO
namespace Go.Proofs.YtkfhdoblhajcbaaGreatDoor
set_option maxRecDepth 20000
open Go
section
variable {h g:aM} {K:VP} {A B:Option aK} {s s':Bool} {an ac bn bc m:Nat} {x y:Int}
def Dk(hs:s=decide (x<0)):(s=true/\x= -(x.natAbs:Int))\/(s=false/\x=(x.natAbs:Int)):=by
 grind
def B0c(a b:Nat):(a:Int).tdiv b=((a/b:Nat):Int)/\(-(a:Int)).tdiv (-(b:Int))=((a/b:Nat):Int)/\(-(a:Int)).tdiv b= -((a/b:Nat):Int)/\(a:Int).tdiv (-(b:Int))= -((a/b:Nat):Int):=by
 simp_all
def A3d(a b:Nat):(a:Int).tmod b=((a%b:Nat):Int)/\(-(a:Int)).tmod (-(b:Int))= -((a%b:Nat):Int)/\(-(a:Int)).tmod b= -((a%b:Nat):Int)/\(a:Int).tmod (-(b:Int))=((a%b:Nat):Int):=by
 refine ⟨(aY a b).symm,?_,?_,?_⟩
 ·rw [Int.neg_tmod,Int.tmod_neg,aY]
 ·rw [Int.neg_tmod,aY]
 ·rw [Int.tmod_neg,aY]
def Xu(i:ZI h s A an ac x)(j:ZI h s' B bn bc y)(hx:ZB m x)(hy:ZB m y)(hm:m<=6400000000)(hy0:y≠0)(hK:∀ s1 A1 n1 c1 s2 A2 n2 c2 h',h.le h'->ZI h' s1 A1 n1 c1 (x.tdiv y)->ZI h' s2 A2 n2 c2 (x.tmod y)->K (.tuple #[.agg #[.bool s1,.slice A1 n1 c1],.agg #[.bool s2,.slice A2 n2 c2]]) h'):aH prog 254 #[.agg #[.bool s,.slice A an ac],.agg #[.bool s',.slice B bn bc]] h K:=by
 have p:=i.len hx hm
 have r:=j.len hy hm
 have u:=j.zeroIff
 have a:=Dk i.sgn
 have b:=Dk j.sgn
 refine (fnk func254 (os:=[(4,[0,1,2,3,4,5,7,8,9,6,10,11,12])]) (own:=[2,3,4,5])) ?_
 refine D8 (fun e=>o) (fun _=>?_)
 refine T5 i.mag j.mag i.cap j.cap o o o ?_
 intro A1 q c1 A2 k c2 l f c d M1 M2
 refine ⟨_,_,_,_,_,_,rfl,?_⟩
 refine N9 (neg:= !(s==s')) M1 c ?_
 intro s1 g
 refine ⟨_,_,_,_,rfl,B6 _,?_⟩
 refine N9 (neg:=s) M2 d ?_
 intro s2 n
 refine ⟨_,_,_,_,rfl,B6 _,hK _ _ _ _ _ _ _ _ _ f ?_ ?_⟩
 ·have e:(if (!(s==s'))=true then -((x.natAbs/y.natAbs:Nat):Int) else ((x.natAbs/y.natAbs:Nat):Int))=x.tdiv y:=by
   have t:=B0c x.natAbs y.natAbs
   rcases a with ⟨rfl,hx'⟩|⟨rfl,hx'⟩<;>rcases b with ⟨rfl,hy'⟩|⟨rfl,hy'⟩<;>rw [<- hx',<- hy'] at t
   ·exact t.2.1.symm
   ·exact t.2.2.1.symm
   ·exact t.2.2.2.symm
   grind
  grind
 ·have e:(if s=true then -((x.natAbs%y.natAbs:Nat):Int) else ((x.natAbs%y.natAbs:Nat):Int))=x.tmod y:=by
   have t:=A3d x.natAbs y.natAbs
   rcases a with ⟨rfl,hx'⟩|⟨rfl,hx'⟩<;>rcases b with ⟨rfl,hy'⟩|⟨rfl,hy'⟩<;>rw [<- hx',<- hy'] at t
   ·exact t.2.1.symm
   ·exact t.2.2.1.symm
   ·exact t.2.2.2.symm
   grind
  grind
def F5(i:ZI h s A an ac x)(hK:K (.bool (decide (x=0))) h):aH prog 201 #[.agg #[.bool s,.slice A an ac]] h K:=by
 have a:=i.zeroIff
 refine (fnk func201 (own:=[1])) ?_
 have:((an:Int)==0)=decide (x=0):=by
  grind
 grind
def Q9(i:ZI h s A an ac x)(hK:K (.bool (decide (x=1))) h):aH prog 143 #[.agg #[.bool s,.slice A an ac]] h K:=by
 have d:=Dk i.sgn
 have p:=i.zeroIff
 have M:=i.mag
 refine (fnk func143 (own:=[1])) ?_
 rcases d with ⟨rfl,g⟩|⟨rfl,g⟩
 ·refine Br.of (fun e=>by cases e) (fun _=>?_)
  rw [show decide (x=1)=false from gz0] at hK;exact hK
 ·refine Br.of (fun _=>?_) (fun e=>by cases e)
  obtain ⟨c,a,f,n,m,b⟩:=M
  refine D8 (fun e=>?_) (fun e=>?_)
  ·obtain ⟨w,rfl⟩:∃ w,c=[w]:=by
    rcases c with _|⟨w,_|⟨k,r⟩⟩
    ·grind
    ·grind
    grind
   refine f.load a o o ?_
   rw [W5] at b
   grind
  ·have:¬ x=1:=by
    rintro rfl
    have l:=i.mag.len_le (j:=1) dc dc
    omega
   grind
def Q8(i:ZI h s A an ac x)(j:ZI h s' B bn bc y)(hx:ZB m x)(hy:ZB m y)(hm:m<=6400000000)(hy0:y≠0)(hK:∀ s1 A1 n1 c1 h',h.le h'->ZI h' s1 A1 n1 c1 (x.tdiv y)->K (.agg #[.bool s1,.slice A1 n1 c1]) h'):aH prog 203 #[.agg #[.bool s,.slice A an ac],.agg #[.bool s',.slice B bn bc]] h K:=by
 refine (fnk func203 (own:=[2,3,4,5,6])) ?_
 refine Q9 j ⟨_,rfl,C0 (fun e=>?_) (fun e=>?_)⟩
 ·subst e
  exact hK _ _ _ _ _ (B6 _) gz0
 ·refine Xu i j hx hy hm hy0 ?_
  grind
def A1c(i:ZI h s A an ac x)(j:ZI h s' B bn bc y)(hx:ZB m x)(hm:m<=6400000000)(hK:K (.bool (decide (x=y))) h):aH prog 252 #[.agg #[.bool s,.slice A an ac],.agg #[.bool s',.slice B bn bc]] h K:=by
 have d:=i.len hx hm
 have c:=i.sgn
 have b:=j.sgn
 refine (fnk func252 (own:=[2,3])) ?_
 refine Br.of (fun e=>?_) (fun e=>?_)
 ·refine I9 i.mag j.mag o ⟨_,rfl,?_⟩
  have:(Qa (x.natAbs:Int) y.natAbs==0)=decide (x=y):=by
   by_cases a:x=y
   ·subst a;unfold Qa;simp
   ·unfold Qa
    grind
  grind
 ·have:¬ x=y:=gz0
  grind
def Dd{n:Int}(h1: -9223372036854775808<=n)(h2:n<=9223372036854775807)(hK:∀ s1 A1 n1 c1 h',h.le h'->ZI h' s1 A1 n1 c1 n->K (.agg #[.bool s1,.slice A1 n1 c1]) h'):aH prog 202 #[I n] h K:=by
 refine (fnk func202 (own:=[2])) ?_
 refine C0 (fun d=>?_) (fun d=>?_)
 ·have e:C7 (0-C7 n)=(n.natAbs:Int):=by rw [F1,F1];omega
  rw [e]
  refine An o ?_
  intro A1 c c1 h1 b a M1
  exact ⟨_,_,_,rfl,hK _ _ _ _ _ b ⟨a,M1,gz0⟩⟩
 ·have e:C7 n=(n.natAbs:Int):=by rw [F1];omega
  rw [e]
  refine An o ?_
  intro A1 c c1 h1 b a M1
  exact ⟨_,_,_,rfl,hK _ _ _ _ _ b ⟨a,M1,gz0⟩⟩
end
def A4s{P:cL}{t d e:aO}(ht:P.underlying t=some .string)(hd:P.underlying d=some (.slice e))(he:P.underlying e=some (.int .u8)){h:aM}{l:List UInt8}{K:VP}
 (x:∀ A c h',h.le h'->l.length<=c->SlV h' A (yv l)->K (.slice A l.length c) h'):wpH P (convert t d (.string (bs l))) K h:=by
 unfold convert
 simp only [C8,E9 ht,E9 hd,E9 he]
 unfold Conv.stringToBytes
 simp only [C8]
 refine Hb rfl (fun tt=>?_)
 have m:(bs l).size=l.length:=by rfl
 have a:l.length<=(Question.appendCap (bs l).size 0 e).cut tt:=by
  simp only [Question.cut];omega
 generalize (Question.appendCap (bs l).size 0 e).cut tt=cap at *
 intro b q
 generalize hcs:((bs l).data.map (fun b=>aN .u8 b.toNat)++bG (cap-(bs l).size) (aN .u8 0))=cs
 have g:h.le (h.put b (.cells cs e (cs.size,cs.size+1))):=Heap.le_put _ q
 have j:(h.put b (.cells cs e)).freeze { block:=b,off:=cs.size } 1=h.put b (.cells cs e (cs.size,cs.size+1)):=by
  unfold Heap.freeze
  rw [iN dc]
  funext k
  by_cases f:k=b
  ·subst f
   simp only [if_true,C2,Option.map_some]
   rfl
  ·rw [iN f,B7 _ _ f,B7 _ _ f]
 refine ⟨cs,e,_,C2 _ _ _,?_⟩
 refine ⟨⟨_,C2 _ _ _⟩,?_⟩
 show K (.slice (some ⟨b,0,none⟩) (bs l).size cap) ((h.put b (.cells cs e)).freeze { block:=b,off:=cs.size } 1)
 rw [j,m]
 refine x _ _ _ g a (.inr ⟨_,rfl,?_⟩)
 intro i v n
 have r:i<l.length:=by
  have:=(List.getElem?_eq_some_iff.1 n).1
  simpa [yv] using this
 have p:Addr.add ⟨b,0,none⟩ i=⟨b,i,none⟩:=by rw [D6,bU]
 rw [p,D4,<- hcs,Array.getElem?_append_left (by simp_all)]
 rw [<- n]
 simp [yv,bs]
def ZB.tdiv{m:Nat}{x y:Int}(h:ZB m x):ZB m (x.tdiv y):=by
 unfold ZB at *
 rw [Int.natAbs_tdiv]
 exact Nat.lt_of_le_of_lt (aS _ _) h
section
variable {h g:aM} {K:VP} {A B:Option aK} {s s':Bool} {an ac bn bc m:Nat} {x y:Int}
end
def A5d{ws:List Int}{k:Nat}(d:Dig b64 ws)(hl:ws.length=k+1)(h:b64^k<=val b64 ws):Norm ws:=by
 intro e
 have:=(Aw (B:=b64) dc d hl).1
 grind
section
variable {h g:aM} {K:VP} {A B:Option aK} {ac bc:Nat}
def B1x{Invv:LP}{muv:LN}{d1:ByteArray}{n c:Nat}{chunk base:Int}{us:List Int}{hp hp2:aM}(p:Pw hp2 g A n c us)(hn:n=us.length)(du:Dig b64 us)(nu:Norm us)(hl:n<=100000000)(hch:0<=chunk/\chunk<18446744073709551616)(hba:1<=base/\base<18446744073709551616)
 (hK:∀ A' n' c' us' h' g',g.le g'->Pw h' g' A' n' c' us'->n'=us'.length->n'<=n+1->Dig b64 us'->Norm us'->val b64 us'=chunk+base*val b64 us->Invv [.string ((d1).extract ((C3 ((cC (C3 (((cJ d1:Nat):Int)-(1:Int))) (19:Int))+(1:Int))).toNat) ((d1).size)),.slice A' n' c'] h'/\muv [.string ((d1).extract ((C3 ((cC (C3 (((cJ d1:Nat):Int)-(1:Int))) (19:Int))+(1:Int))).toNat) ((d1).size)),.slice A' n' c'] h'<muv [.string d1,.slice A n c] hp):
 Bt prog Invv muv d1 A n c chunk base hp hp2:=by
 have F:=C9 dc du
 refine ⟨fun l q=>∃ (k:Nat) (e:Int) (d:List Int),l=[U e,I k]/\k<=n/\(0<=e/\e<18446744073709551616)/\d.length=us.length/\Dig b64 d/\Pw q g A n c d/\d.drop k=us.drop k/\val b64 (d.take k)+b64^k*e=chunk+base*val b64 (us.take k),fun l _=>n-(iAt l 1).toNat,⟨0,chunk,us,rfl,o,hch,rfl,du,p,rfl,by simp [val]⟩,?_⟩
 rintro e i q ⟨k,E,d,aa,hk,j,s,t,pw,y,z⟩
 obtain ⟨rfl,rfl⟩:e=E/\i=(k:Int):=gz0
 refine C0 (fun X=>?_) (fun X=>?_)
 ·have N:=O3 t k
  have D:=F0 y
  have S:=C6 b64 us k
  have C:d≠[]:=by rintro rfl;simp at s;omega
  obtain ⟨b,O,w,hc⟩:=Ed pw C
  refine w.sl.load o o o ?_
  simp only [aC]
  generalize hx:d.getD k 0=x at *
  refine T3 N o j ⟨_,_,rfl,?_⟩
  obtain ⟨a,Q,_⟩:=SlV.at w.sl (i:=k) (by simp_all)
  refine ⟨a,Q,o,o,w.storeN F7 Q o ?_⟩
  intro h4 R
  have V:=Ky N (show 0<=base/\base<18446744073709551616 from o) j
  have kP:=Zw (x*base+e)
  have W:C3 ((k:Int)+1)=((k+1:Nat):Int):=by rw [B9 o o];omega
  rw [W]
  have G:=R.priv (m:=n) (c:=c) (by simp_all) (by simp_all) (by simp_all)
  rw [aG (by simp_all)] at G
  refine ⟨⟨k+1,_,_,rfl,o,V,by simp_all,t.set (Do _),G,?_,?_⟩,by simp only [iAt,aE,aF];omega⟩
  ·rw [D7 o];exact E5 y
  ·rw [D0 o,F2,bL,cF o,dC,S,<- D,kP]
   grind
 ·obtain rfl:k=n:=o
  rw [aG (show d.length<=k from o),aG (show us.length<=k from o)] at z
  refine E6 (fun L=>?_) (fun L=>?_)
  ·refine Cs Q6 pw rfl rfl o o ?_
   intro A5 c5 h5 g5 T H
   rw [<- List.map_singleton (f:=aN .u64),<- cR] at H
   refine hK A5 (k+1) c5 (d++[e]) h5 g5 T H (by simp_all) o (t.append (Dig.one j)) ?_ ?_
   ·unfold Norm;simp_all
   ·rw [F2,<- z,s,<- hn]
  ·subst L
   rw [Int.mul_zero,Int.add_zero] at z
   refine hK A k c d q g (B6 _) pw o o t ?_ z
   rcases us with _|⟨u,r⟩
   ·simp_all
   ·refine A5d (k:=r.length) t o ?_
    have M:Mw hp2 A k (val b64 (u::r)):=⟨_,hn,p.slV,du,nu,rfl⟩
    have B:=M.ge dc (by simp_all)
    rw [show k-1=r.length by simp_all] at B
    have:1*val b64 (u::r)<=base*val b64 (u::r):=cO hba.1 F
    omega
end
section
variable {h g:aM} {K:VP} {A B:Option aK} {ac bc:Nat}
def B2g{k:Nat}(h:k<=19):10^k<=10000000000000000000:=bI (aI dc h) dc
def A63{Invv:LP}{muv:LN}{d1:ByteArray}{n c tn:Nat}{T:Option aK}{l:List UInt8}{hp hp1:aM}(sv:SlV hp1 T (yv l))(ht:tn=l.length)(hd:∀ c∈l,I0 c)(h19:l.length<=19)
 (hK:(0<=C3 ((cC (C3 (((cJ d1:Nat):Int)-(1:Int))) (19:Int))+(1:Int))/\C3 ((cC (C3 (((cJ d1:Nat):Int)-(1:Int))) (19:Int))+(1:Int))<=(((d1).size:Nat):Int))/\Bt prog Invv muv d1 A n c (J7 l:Int) ((10^l.length:Nat):Int) hp hp1):
 Il prog Invv muv d1 A n c T tn hp1 hp:=by
 refine ⟨fun s hp=>hp=hp1/\∃ k:Nat,s=[U (J7 (l.take k)),U ((10^k:Nat):Int),I k]/\k<=l.length,fun s _=>l.length-(iAt s 2).toNat,⟨rfl,0,by rfl,o⟩,?_⟩
 rintro z B i w ⟨rfl,k,e,y⟩
 obtain ⟨rfl,rfl,rfl⟩:=e
 refine C0 (fun t=>?_) (fun t=>?_)
 ·have hkl:k<l.length:=o
  obtain ⟨a,q,g⟩:=SlV.at sv (i:=k) (by rw [Fy];omega)
  have f:=hd l[k] (bZ hkl)
  have d:=Ev (l:=l.take k) (fun c g=>hd c (bM g))
  rw [bL,cF o] at d
  have p:=B2g (k:=k+1) o
  have b:10^(k+1)=10^k*10:=Nat.pow_succ _ _
  refine ⟨a,q,o,o,((l[k].toNat:Nat):Int),?_,?_⟩
  ·rw [aC,aV,g];simp [yv]
  ·unfold I0 at f
   have j:C7 (wu8 (((l[k].toNat:Nat):Int)-48))=((l[k].toNat-48:Nat):Int):=by
    rw [Tp o o,C5 o o];omega
   have u:C7 (C7 (10*((J7 (l.take k):Nat):Int))+C7 (wu8 (((l[k].toNat:Nat):Int)-48)))=((J7 (l.take (k+1)):Nat):Int):=by
    rw [j,C5 (n:=10*((J7 (l.take k):Nat):Int)) o o,C5 o o,bJ hkl,Gm];omega
   have m:C7 (((10^k:Nat):Int)*10)=((10^(k+1):Nat):Int):=by rw [C5 o o,b];simp
   have r:C3 ((k:Int)+1)=((k+1:Nat):Int):=by rw [B9 o o];omega
   rw [u,m,r]
   exact ⟨⟨rfl,k+1,rfl,o⟩,by simp only [iAt,aE,aF];omega⟩
 grind
def Pe{l:List UInt8}(hd:∀ c∈l,I0 c)(hl:l.length<=100000000)(hK:∀ A n c h',h.le h'->n<=c->Mw h' A n (J7 l:Int)->K (.slice A n c) h'):aH prog 273 #[.string (bs l)] h K:=by
 refine Sr _ ?_
 refine ⟨fun s C=>∃ (e a:List UInt8) (b:List Int) (A:Option aK) (n c:Nat) (g:aM),s=[.string (bs a),.slice A n c]/\l=e++a/\h.le g/\Pw C g A n c b/\n=b.length/\Dig b64 b/\Norm b/\val b64 b=(J7 e:Int)/\n<=e.length,fun s _=>match s with|[.string d,_]=>d.size|_=>0,⟨[],l,[],none,0,0,h,rfl,rfl,B6 h,Priv.nil _ _ _ _,rfl,Dig.nil,Norm.nil,rfl,o⟩,?_⟩
 rintro d1 A1 n1 c1 C ⟨e,a,b,A2,n2,c2,g,V,f,z,p,F,du,E,H,S⟩
 obtain ⟨rfl,rfl,rfl,rfl⟩:=V
 have B:l.length=e.length+a.length:=gz0
 rw [I7]
 refine C0 (fun O=>?_) (fun O=>?_)
 ·obtain ⟨sz,hsz⟩:∃ sz,sz=(a.length-1)%19+1:=⟨_,rfl⟩
  have y:C3 (cC (C3 ((a.length:Int)-1)) 19+1)=(sz:Int):=by
   rw [B9 (n:=(a.length:Int)-1) o o,Int.tmod_eq_emod_of_nonneg o,B9 o o];omega
  rw [y,aC,N2]
  refine ⟨⟨o,o⟩,A4s U1 Di.und Bh ?_⟩
  intro T tc h2 W aa D
  refine ⟨_,_,_,rfl,?_⟩
  have R:(a.drop 0).take (sz-0)=a.take sz:=by simp
  rw [R] at D ⊢
  have G:(a.take sz).length=sz:=gz0
  obtain ⟨g2,j,M⟩:=p.after W
  refine A63 D rfl (fun c hc=>hd c gz0) o ?_
  rw [I7,y]
  refine ⟨⟨o,o⟩,?_⟩
  have i:=Ev (l:=a.take sz) (fun c hc=>hd c gz0)
  rw [G] at i ⊢
  have ht:=B2g (k:=sz) o
  refine B1x M F du E o o o ?_
  intro A' L N q h' Q m p' u X t w r
  rw [I7,y,aC,N2,aG gz0]
  refine ⟨⟨e++a.take sz,a.drop sz,q,A',L,N,Q,rfl,by simp_all,B0 z (B0 j m),p',u,t,w,?_,gz0⟩,?_⟩
  ·rw [r,H,Ew,G,Int.natCast_add,cG,Int.mul_comm];omega
  ·simp only [I7,cN];omega
 ·have:a=[]:=aL o
  subst this
  rw [List.append_nil] at f
  subst f
  exact hK _ _ _ _ (B0 z p.le) p.2.1 ⟨b,F,p.slV,du,E,H⟩
end
def zb(l:List UInt8):List Int:=l.map fun c=>(c.toNat:Int)
def Fw(l:List UInt8):(zb l).length=l.length:=by simp [zb]
def Xv(a b:List UInt8):zb (a++b)=zb a++zb b:=by simp [zb]
def B62(l:List UInt8):(zb l).map (aN .u8)=yv l:=by simp [zb,yv]
def A4x:∀ v,v<100->J0[2*v+1]? = some (dch (v%10))/\J0[2*v]? = some (dch (v/10)):=by decide +kernel
def Yg(a:Nat):cC (a:Int) 100=((a%100:Nat):Int):=(aY a 100).symm
def tm4(a:Nat):cC (a:Int) 10000=((a%10000:Nat):Int):=(aY a 10000).symm
def tm8(a:Nat):cC (a:Int) 100000000=((a%100000000:Nat):Int):=(aY a 100000000).symm
def A1m(a:Nat):cM (a:Int) 100=((a/100:Nat):Int):=(aZ a 100).symm
def td4(a:Nat):cM (a:Int) 10000=((a/10000:Nat):Int):=(aZ a 10000).symm
def td8(a:Nat):cM (a:Int) 100000000=((a/100000000:Nat):Int):=(aZ a 100000000).symm
def Fu{a:Nat}(h:a<4294967296):I4 (a:Int)=a:=P7 o o
def Ks(a:Nat):(a:Int)*2=((2*a:Nat):Int):=o
def A33(a:Nat):(a:Int)+1=((a+1:Nat):Int):=o
def FBI(g:aM)(b:Nat)(e:aO)(A:Option aK)(pre post:List bN)(N u0 nd u:Nat)(hp:aM):Prop:=
 ∃ (ys:List Int) (t:List UInt8),Win .u8 hp g b e A pre (ys++zb t) post/\ys.length=nd/\nd+t.length=N/\pad N u0=pad nd u++t/\u<10^nd
section
variable {P:cL} {h g:aM} {K:VP} {A:Option aK} {b:Nat} {e:aO} {pre post:List bN}
def Iz(one:P.cellsOf 5=1/\(P.info? 5).isSome=true){N u0 j u:Nat}(f:FBI g b e A pre post N u0 (j+2) u h){E1 E0 I1 I2:Int}(h1:E1=((2*(u%100)+1:Nat):Int))(h0:E0=((2*(u%100):Nat):Int))(hI1:I1=((j+1:Nat):Int))(hI2:I2=(j:Int)){C:aM->Prop}(hC:∀ h',FBI g b e A pre post N u0 j (u/100) h'->C h'):
 ∃ (t:UInt8),(0<=E1/\J0[E1.toNat]? = some t)/\∃ (t0:UInt8),(0<=E0/\J0[E0.toNat]? = some t0)/\∃ a1,A=some a1/\0<=I1/\I1<((N:Nat):Int)/\wpH P (Instr.storeAt 5 (.pointer (some (Addr.add a1 (I1.toNat*1)))) (Y ((t.toNat:Nat):Int))) (fun _ hp1=>∃ a2,A=some a2/\0<=I2/\I2<((N:Nat):Int)/\wpH P (Instr.storeAt 5 (.pointer (some (Addr.add a2 (I2.toNat*1)))) (Y ((t0.toNat:Nat):Int))) (fun _ hp2=>C hp2) hp1) h:=by
 subst h1 h0 hI1 hI2
 obtain ⟨c,t,w,z,F,i,E⟩:=f
 obtain ⟨n,m⟩:=A4x (u%100) o
 have r:∃ a,A=some a:=by
  rcases w.at_ with h0|h0
  ·simp_all
  grind
 obtain ⟨a,d⟩:=r
 have k:(c++zb t).length=N:=by rw [aJ,Fw];omega
 refine ⟨_,⟨o,by exact n⟩,_,⟨o,by exact m⟩,a,d,o,o,?_⟩
 refine w.storeN one d o ?_
 intro B q
 refine ⟨a,d,o,o,?_⟩
 refine q.storeN one d gz0 ?_
 intro p D
 refine hC p ⟨c.take j,[dch (u/10%10),dch (u%10)]++t,?_,gz0,gz0,?_,?_⟩
 ·have y:((c++zb t).set (j+1) ((dch (u%100%10)).toNat:Int)).set j ((dch (u%100/10)).toNat:Int)=c.take j++zb ([dch (u/10%10),dch (u%10)]++t):=by
   have s:c=c.take j++[c[j]'o,c[j+1]'o]:=by
    conv=>lhs;rw [<- cH j c]
    congr 1
    rw [bW o,bW o,cD o]
   have l:(c.take j).length=j:=gz0
   rw [s,show u%100%10=u%10 from o,show u%100/10=u/10%10 from o]
   generalize c[j]'_=y0
   generalize c[j+1]'_=y1
   rw [List.take_append_of_le_length o,aG (show (c.take j).length<=j from o)]
   generalize c.take j=zs at *
   rw [bY,List.set_append_right _ _ o,List.set_append_right _ _ o,l,Xv]
   simp [zb]
  grind
 ·rw [i,B4n];simp
 grind
end
section
variable {h g:aM} {K:VP} {A:Option aK} {b:Nat} {e:aO} {pre post:List bN}
def Jt:prog.cellsOf 5=1/\(prog.info? 5).isSome=true:=A4w
def B8g{N u0 nd x:Nat}(hN:N<=24)(f:FBI g b e A pre post N u0 nd x h)(hn:nd<2)(hK:∀ h',Win .u8 h' g b e A pre (zb (pad N u0)) post->K (.tuple #[]) h'):Fq prog A N K nd x h:=by
 obtain ⟨c,t,w,k,hN,i,u⟩:=f
 refine C0 (fun m=>?_) (fun m=>?_)
 ·obtain rfl:nd=1:=o
  obtain ⟨y,rfl⟩:∃ y,c=[y]:=by
   rcases c with _|⟨y,_|⟨z,r⟩⟩
   ·grind
   ·grind
   grind
  have q:∃ a,A=some a:=by
   rcases w.at_ with n|n
   ·grind
   grind
  obtain ⟨a,j⟩:=q
  refine ⟨a,j,o,o,?_⟩
  refine w.storeN Jt j (by simp) ?_
  intro l p
  refine hK l ?_
  have d:x<10:=o
  have ev:wu8 (I4 (48+(x:Int)))=((dch x).toNat:Int):=by
   rw [P7 o o,Tp o o,Du d];omega
  rw [ev] at p
  have s:pad 1 x=[dch x]:=by
   rw [Pu,A7w _ o,show x%10=x from o];rfl
  rw [i,s,Xv]
  assumption
 ·obtain rfl:nd=0:=o
  have:c=[]:=aL k
  subst this
  have d:x=0:=o
  refine hK h ?_
  rw [i,A7w _ d]
  assumption
def B8f{N u0 nd x:Nat}(hN:N<=24)(f:FBI g b e A pre post N u0 nd x h)(hn:nd<4)(hK:∀ h',Win .u8 h' g b e A pre (zb (pad N u0)) post->K (.tuple #[]) h'):Fs prog A N K nd x h:=by
 have u:x<10000:=by
  obtain ⟨_,_,_,_,_,_,n⟩:=f
  exact aP n (bI (aI dc (show nd<=4 from o)) dc)
 refine ⟨fun l d=>∃ nd x:Nat,l=[I nd,U32 x]/\FBI g b e A pre post N u0 nd x d/\nd<2,C0 (fun m=>?_) (fun m=>?_),?_⟩
 ·obtain ⟨j,rfl⟩:∃ j,nd=j+2:=⟨nd-2,o⟩
  refine Iz Jt f ?_ ?_ (by rw [B9 o o];omega) (by rw [B9 o o];omega) ?_
  ·simp (disch:=omega) only [Yg,Fu,Ks,A33]
  ·simp (disch:=omega) only [Yg,Fu,Ks]
  ·intro t i
   refine ⟨j,x/100,?_,i,o⟩
   rw [B9 o o,A1m,Fu o]
   grind
 ·grind
 ·rintro c r d ⟨q,p,s,k,a⟩
  obtain ⟨rfl,rfl⟩:c=(q:Int)/\r=(p:Int):=gz0
  exact B8g hN k a hK
def Y4{u an ac:Nat}{xs:List Int}(w:Win .u8 h g b e A pre xs post)(hn:an=xs.length)(hN:an<=24)(hu:u<10^an)(hu2:u<18446744073709551616)(hK:∀ h',Win .u8 h' g b e A pre (zb (pad an u)) post->K (.tuple #[]) h'):aH prog 288 #[.slice A an ac,U (u:Int)] h K:=by
 refine Pm _ _ _ _ ?_
 refine ⟨fun l d=>∃ a v:Nat,l=[U v,I a]/\FBI g b e A pre post an u a v d/\v<=u,fun l _=>(iAt l 1).toNat,⟨an,u,rfl,⟨xs,[],by simpa [zb] using w,hn.symm,by simp,by simp,hu⟩,bH _⟩,?_⟩
 rintro C i d ⟨a,v,O,f,Q⟩
 obtain ⟨rfl,rfl⟩:C=(v:Int)/\i=(a:Int):=gz0
 have M:a<=an:=by obtain ⟨_,_,_,_,hN,_,_⟩:=f;omega
 refine C0 (fun t=>?_) (fun t=>?_)
 ·obtain ⟨j,rfl⟩:∃ j,a=j+8:=⟨a-8,o⟩
  refine Iz (j:=j+6) Jt f ?_ ?_ (by rw [B9 o o];omega) (by rw [B9 o o];omega) ?_
  ·simp (disch:=omega) only [tm8,tm4,Yg,Fu,Ks,A33];omega
  ·simp (disch:=omega) only [tm8,tm4,Yg,Fu,Ks];omega
  intro p H
  refine Iz (j:=j+4) Jt H ?_ ?_ (by rw [B9 o o];omega) (by rw [B9 o o];omega) ?_
  ·simp (disch:=omega) only [tm8,tm4,A1m,Fu,Ks,A33];omega
  ·simp (disch:=omega) only [tm8,tm4,A1m,Fu,Ks];omega
  intro F c
  refine Iz (j:=j+2) Jt c ?_ ?_ (by rw [B9 o o];omega) (by rw [B9 o o];omega) ?_
  ·simp (disch:=omega) only [tm8,Yg,td4,Fu,Ks,A33];omega
  ·simp (disch:=omega) only [tm8,Yg,td4,Fu,Ks];omega
  intro s n
  refine Iz (j:=j) Jt n ?_ ?_ (by rw [B9 o o];omega) (by rw [B9 o o];omega) ?_
  ·simp (disch:=omega) only [tm8,A1m,td4,Fu,Ks,A33];omega
  ·simp (disch:=omega) only [tm8,A1m,td4,Fu,Ks];omega
  intro N D
  have L:C3 (((j+8:Nat):Int)-8)=(j:Int):=by rw [B9 o o];omega
  have z:C7 (cM (v:Int) 100000000)=((v/100/100/100/100:Nat):Int):=by
   rw [td8,C5 o o];omega
  rw [L,z]
  exact ⟨⟨j,_,rfl,D,o⟩,by simp only [iAt,aE,aF];omega⟩
 ·have y:v<100000000:=by
   obtain ⟨_,_,_,_,_,_,hu⟩:=f
   exact aP hu (bI (aI dc (show a<=8 from o)) dc)
  refine ⟨fun l d=>∃ a x:Nat,l=[I a,U32 x]/\FBI g b e A pre post an u a x d/\a<4,C0 (fun p=>?_) (fun p=>?_),?_⟩
  ·obtain ⟨j,rfl⟩:∃ j,a=j+4:=⟨a-4,o⟩
   refine Iz (j:=j+2) Jt f ?_ ?_ (by rw [B9 o o];omega) (by rw [B9 o o];omega) ?_
   ·simp (disch:=omega) only [tm4,Yg,Fu,Ks,A33];omega
   ·simp (disch:=omega) only [tm4,Yg,Fu,Ks];omega
   intro F c
   refine Iz (j:=j) Jt c ?_ ?_ (by rw [B9 o o];omega) (by rw [B9 o o];omega) ?_
   ·simp (disch:=omega) only [tm4,A1m,Fu,Ks,A33];omega
   ·simp (disch:=omega) only [tm4,A1m,Fu,Ks];omega
   intro s n
   refine ⟨j,v/100/100,?_,n,o⟩
   rw [B9 o o,Fu o,td4,Fu o]
   grind
  ·exact ⟨a,v,by rw [Fu o],f,o⟩
  ·rintro m G B ⟨r,q,E,c,k⟩
   obtain ⟨rfl,rfl⟩:m=(r:Int)/\G=(q:Int):=gz0
   exact B8f hN c k hK
end
def Rt{P:cL}{h:aM}{l:List UInt8}{m:Nat}{ys:List bN}(hy:ys=yv l)(hm:m=l.length){K:Array bN->aM->Prop}(x:K ys.toArray h):wpH P (Builtin.firstCells 1 m (.string (bs l))) K h:=by
 show K _ h
 have e:((bs l).extract 0 l.length).data.map (fun b=>aN .u8 b.toNat)=(yv l).toArray:=by
  apply Array.toList_inj.1
  simp [bs,yv]
 grind
def Sn{P:cL}{t e e' ty:aO}{z:bN}{bytes:Nat}(st:SliceT P t e z 1 bytes){h g:aM}{A:Option aK}{n c:Nat}{xs:List bN}(p:bO h g e' 1 A n c xs)
 {B:Option aK} {m d:Nat} {ys:List bN} (hy:ys.length=m) (hc:SlV h B ys) (h1:∀ v∈ys,Mj v=true) (hb:(2*(n+m)+192)*bytes<=281474976710656) (hm:n+m<=9223372036854775807) {K:VP}
 (x1:n+m<=c->∀ h',bO h' g e' 1 A (n+m) c (xs++ys)->K (.slice A (n+m) c) h') (x2:c<n+m->∀ A' c' h' g',g.le g'->bO h' g' e 1 A' (n+m) c' (xs++ys)->K (.slice A' (n+m) c') h'):
 wpH P (bF #[t,t] ty #[.slice A n c,.slice B m d]) K h:=by
 obtain ⟨i,y,X,L,w⟩:=st.parts
 have S:=p.1
 unfold bF
 simp only [List.getElem?_toArray,aE,aF,C8,E9 st.und,J1 y,H0,Bool.false_eq_true,if_false,Builtin.lenOf,L,Bool.not_false,if_true]
 by_cases f:n+m<=c
 ·simp only [f,if_true,C8]
  refine K7 o hc ?_
  rcases p.2.2 with ⟨F,T⟩|⟨b,O,W,Q,hh,D,G⟩
  ·have R:n=0:=o
   subst R;subst T
   have H:ys=[]:=aL o
   have r:K (.slice A (0+m) c) h:=x1 f h ⟨gz0,o,.inl ⟨F,rfl⟩⟩
   subst H
   cases A with
   | none=>exact r
   | some a=>exact r
  ·subst W
   simp only [C8,D6,bU]
   rw [hh]
   rw [aV] at D G ⊢
   refine G7 ys.toArray.toList n 0 O ?_ (fun v hv=>h1 v o) ?_
   ·grind
   ·refine x1 f _ ⟨gz0,f,.inr ⟨b,_,rfl,Q,rfl,?_,?_⟩⟩
    ·simp only [H8,aJ,bL,cN,D,hy];omega
    ·unfold H8
     grind
 ·have q:c<n+m:=o
  simp only [f,if_false,C8,I5 y,w]
  have M:=No q
  have aa:Builtin.nextslicecap (n+m) c*bytes<=281474976710656:=bI (Nat.mul_le_mul_right _ M) hb
  rw [iN (by rintro ⟨h',_⟩;simp only [IntKind.max,IntKind.signed,IntKind.bits] at h';omega)]
  simp only [C8,I5 y,w]
  rw [iN o]
  simp only [H0,C8]
  refine Hb rfl fun tt=>?_
  simp only [Ee,I5 y]
  have u:xs=[]\/∃ a,A=some a/\∀ j v,xs[j]? = some v->h.cell? (a.add j)=some v:=p.slV
  refine K7 p.1 u ?_
  refine K7 o hc ?_
  simp only [N4 y X,W4]
  intro b k
  have C:∃ l,(Question.appendCap (n+m) c e).cut tt=l/\n+m<=l:=⟨_,rfl,by simp only [Question.cut];omega⟩
  obtain ⟨l,N,E⟩:=C
  rw [N]
  have s:=p.le
  refine x2 q _ l _ h s ⟨gz0,E,.inr ⟨b,xs++ys++(aU z.cells (l-(n+m))).toList,rfl,k,?_,?_,?_⟩⟩
  ·congr 1;simp
  ·have V:(aU z.cells (l-(n+m))).toList.length=l-(n+m):=by simp [aU,st.cells]
   grind
  grind
def A65{P:cL}{t e e' ty t2:aO}{z:bN}{bytes:Nat}(st:SliceT P t e z 1 bytes)(hu:P.underlying t2=some .string){h g:aM}{A:Option aK}{n c:Nat}{xs:List bN}(p:bO h g e' 1 A n c xs)
 {m:Nat} {l:List UInt8} {ys:List bN} (hly:ys=yv l) (hm0:m=l.length) (hy:ys.length=m) (h1:∀ v∈ys,Mj v=true) (hb:(2*(n+m)+192)*bytes<=281474976710656) (hm:n+m<=9223372036854775807) {K:VP}
 (x1:n+m<=c->∀ h',bO h' g e' 1 A (n+m) c (xs++ys)->K (.slice A (n+m) c) h') (x2:c<n+m->∀ A' c' h' g',g.le g'->bO h' g' e 1 A' (n+m) c' (xs++ys)->K (.slice A' (n+m) c') h'):
 wpH P (bF #[t,t2] ty #[.slice A n c,.string (bs l)]) K h:=by
 obtain ⟨i,y,W,H,w⟩:=st.parts
 have R:=p.1
 unfold bF
 simp only [List.getElem?_toArray,aE,aF,C8,E9 st.und,E9 hu,J1 y,H0,Bool.false_eq_true,if_false,Builtin.lenOf,H,Bool.not_false,if_true,I7,<- hm0]
 by_cases d:n+m<=c
 ·simp only [d,if_true,C8]
  refine Rt hly hm0 ?_
  rcases p.2.2 with ⟨E,S⟩|⟨b,N,V,O,X,C,F⟩
  ·have Q:n=0:=o
   subst Q;subst S
   have G:ys=[]:=aL o
   have r:K (.slice A (0+m) c) h:=x1 d h ⟨gz0,o,.inl ⟨E,rfl⟩⟩
   subst G
   cases A with
   | none=>exact r
   | some a=>exact r
  ·subst V
   simp only [C8,D6,bU]
   rw [X]
   rw [aV] at C F ⊢
   refine G7 ys.toArray.toList n 0 N ?_ (fun v hv=>h1 v o) ?_
   ·grind
   ·refine x1 d _ ⟨gz0,d,.inr ⟨b,_,rfl,O,rfl,?_,?_⟩⟩
    ·simp only [H8,aJ,bL,cN,C,hy];omega
    ·unfold H8
     grind
 ·have q:c<n+m:=o
  simp only [d,if_false,C8,I5 y,w]
  have L:=No q
  have aa:Builtin.nextslicecap (n+m) c*bytes<=281474976710656:=bI (Nat.mul_le_mul_right _ L) hb
  rw [iN (by rintro ⟨h',_⟩;simp only [IntKind.max,IntKind.signed,IntKind.bits] at h';omega)]
  simp only [C8,I5 y,w]
  rw [iN o]
  simp only [H0,C8]
  refine Hb rfl fun tt=>?_
  simp only [Ee,I5 y]
  have u:xs=[]\/∃ a,A=some a/\∀ j v,xs[j]? = some v->h.cell? (a.add j)=some v:=p.slV
  refine K7 p.1 u ?_
  refine Rt hly hm0 ?_
  simp only [N4 y W,W4]
  intro b f
  have B:∃ k,(Question.appendCap (n+m) c e).cut tt=k/\n+m<=k:=⟨_,rfl,by simp only [Question.cut];omega⟩
  obtain ⟨k,M,D⟩:=B
  rw [M]
  have s:=p.le
  refine x2 q _ k _ h s ⟨gz0,D,.inr ⟨b,xs++ys++(aU z.cells (k-(n+m))).toList,rfl,f,?_,?_,?_⟩⟩
  ·congr 1;simp
  ·have T:(aU z.cells (k-(n+m))).toList.length=k-(n+m):=by simp [aU,st.cells]
   grind
  grind
def Vz(l:List UInt8):∀ v∈yv l,Mj v=true:=by
 intro v a
 simp only [yv,List.mem_map] at a
 obtain ⟨c,_,rfl⟩:=a
 rfl
def Ck{P:cL}{t:aO}{z v:bN}(hz:(P.info? t).map (fun i=>i.zero)=some (some z)){K:VP}{h:aM}(x:∀ b,h b=none->K (.pointer (some ⟨b,0,none⟩)) (h.put b (.cells z.cells t))):wpH P (Instr.alloc t true v) K h:=by
 cases hi:P.info? t with
 | none=>rw [hi] at hz;cases hz
 | some i=>
  rw [hi] at hz
  simp only [Option.map_some,aT] at hz
  unfold Instr.alloc
  simp only [C8,N4 hi hz]
  exact x
def A4n:(prog.info? 365).map (fun i=>i.zero)=some (some (.agg (bG 24 (.int .u8 0)))):=by kernel_rfl
def Gp(h:aM):Prop:=∀ k,k<20->h.cell? (Addr.add ⟨3,0,none⟩ (k*1))=some (U ((10^k:Nat):Int))
def Gp.mono{h h':aM}(g:Gp h)(l:h.le h'):Gp h':=fun k a=>C1 l (g k a)
section
variable {h g:aM} {K:VP}
def Tt{i:Nat}(hi:i<100)(hK:K (.string (bs (Q3 i))) h):aH prog 286 #[I i] h K:=by
 refine A9o _ ?_
 have key:∀ i:Nat,i<100->(i<10->Wj.extract i (i+1)=bs (Q3 i))/\(¬ i<10->J0.extract (2*i) (2*i+2)=bs (Q3 i)):=by
  intro i hi
  revert i
  decide +kernel
 obtain ⟨b,c⟩:=key i hi
 refine C0 (fun d=>?_) (fun d=>?_)
 ·have a:C3 ((i:Int)+1)=((i+1:Nat):Int):=by rw [B9 o o];omega
  rw [a,aC,aC,b o]
  exact ⟨⟨o,by show _<=((36:Nat):Int);omega⟩,⟨o,o⟩,hK⟩
 ·have a:C3 ((i:Int)*2)=((2*i:Nat):Int):=by rw [B9 o o];omega
  have e:C3 (((2*i:Nat):Int)+2)=((2*i+2:Nat):Int):=by rw [B9 o o];omega
  rw [a,e,aC,aC,c o]
  exact ⟨⟨o,by show _<=((200:Nat):Int);omega⟩,⟨o,o⟩,hK⟩
def Ct{d:Nat}(gp:Gp h)(h0:d≠0)(hd:d<18446744073709551616)(hK:K (I ((dd d).length:Int)) h):aH prog 287 #[U (d:Int)] h K:=by
 refine (fnk func287) ?_
 have e:Q7 d<=64:=Gr hd
 obtain ⟨_,_,c⟩:=B2y (Q7 d) o
 refine A43 hd ⟨_,rfl,(fnk func307) ?_⟩
 have b:Int.fdiv (C3 ((Q7 d:Int)*78913)) (2^(min ((18:Int)).toNat 64))=((ndg (Q7 d):Nat):Int):=by
  rw [show (2:Int)^(min ((18:Int)).toNat 64)=262144 from dc,Int.fdiv_eq_ediv_of_nonneg _ dc,B9 o o]
  rfl
 rw [b]
 refine ⟨_,rfl,⟨o,o⟩,_,by rw [aC];exact gp _ o,(fnk func308) ?_⟩
 rw [B82 h0 hd] at hK
 refine C0 (fun a=>⟨_,rfl,?_⟩) (fun a=>⟨_,rfl,?_⟩)
 ·rw [iP o] at hK
  rw [B9 o o]
  exact hK
 ·rw [iN o] at hK
  rw [B9 o o]
  exact hK
def Bs{e':aO}{A:Option aK}{n c i:Nat}{l:List UInt8}(gp:Gp h)(p:bO h g e' 1 A n c (yv l))(hi:i<18446744073709551616)(hn:n<=1000000000000)
 (hK:∀ A' c' e2 h' g',g.le g'->bO h' g' e2 1 A' (n+(Q3 i).length) c' (yv (l++Q3 i))->(n+(Q3 i).length<=c->A'=A/\c'=c/\e2=e')->(e'=5->e2=5)->K (.slice A' (n+(Q3 i).length:Nat) c') h'):aH prog 290 #[.slice A n c,U (i:Int),I 10] h K:=by
 refine (fnk func290 (wr:=[288])) ?_
 refine D8 (fun _=>?_) (fun e=>absurd rfl e)
 have w:(Q3 i).length<=20:=(Ln dc).2 oo
 refine C0 (fun H=>?_) (fun H=>?_)
 ·rw [B9 oo oo]
  refine Tt oo ⟨_,rfl,?_⟩
  refine A65 Di U1 p (l:=Q3 i) rfl rfl (Fy _) (Vz _) oo oo ?_ ?_
  ·intro t h' a
   rw [<- U5] at a
   exact ⟨_,_,_,rfl,hK _ _ _ _ _ (B6 _) a (fun _=>⟨rfl,rfl,rfl⟩) id⟩
  ·intro t A' c' h' g' D a
   rw [<- U5] at a
   grind
 ·refine Ck A4n ?_
  intro b d
  have L:(Value.agg (bG 24 (.int .u8 0))).cells=((aD 24 (0:Int)).map (aN .u8)).toArray:=by rfl
  rw [L]
  have F:Win .u8 (h.put b (.cells ((aD 24 (0:Int)).map (aN .u8)).toArray 365)) h b 365 (some ⟨b,0,none⟩) [] (aD 24 (0:Int)) []:=⟨d,by simp,.inr rfl⟩
  generalize (h.put b (.cells ((aD 24 (0:Int)).map (aN .u8)).toArray 365))=h1' at *
  refine ⟨_,rfl,Ct (gp.mono F.le) oo hi ⟨_,rfl,?_⟩⟩
  have f:Q3 i=dd i:=Ci oo
  rw [f] at w hK
  refine ⟨⟨oo,oo⟩,?_⟩
  rw [aC,bC]
  have B:=F.sub (l:=0) (m:=(dd i).length) (c:=24) oo gz0 (by simp)
  have u:((aD 24 (0:Int)).drop 0).take ((dd i).length-0)=aD (dd i).length 0:=by
   grind
  rw [u] at B
  have j:i<10^(dd i).length:=R9.1 (bH _)
  refine Y4 B (by simp) oo j hi ?_
  intro C z
  refine ⟨rfl,⟨oo,oo⟩,?_⟩
  have y:pad (dd i).length i=dd i:=by simp [pad]
  rw [y] at z
  have M:SlV C (T9 (some ⟨b,0,none⟩) 24 0 1) (yv (dd i)):=by
   have:=z.sl
   unfold SlI at this
   rw [B62] at this
   exact this
  have s:=z.eq
  obtain ⟨o,ho⟩:∃ o,C=h.put b o:=⟨_,s⟩
  subst ho
  have G:=p.put d o
  have r:g.le (g.put b o):=by
   intro k N E
   have q:k≠b:=by
    rintro rfl
    rw [p.le k N E] at d;cases d
   rw [B7 _ _ q];exact E
  refine Sn Di G (Fy _) M (Vz _) oo oo ?_ ?_
  ·intro t h' a
   rw [<- U5] at a
   grind
  ·intro t A' c' h' g' D a
   rw [<- U5] at a
   exact ⟨_,_,_,rfl,hK _ _ _ _ _ (B0 r D) a (fun e=>oo) (fun _=>rfl)⟩
end
structure Ext (g:aM) (e':aO) (A:Option aK) (n c:Nat) (l t:List UInt8) (A':Option aK) (n' c':Nat) (e2:aO) (g' h':aM):Prop where
 le:g.le g'
 priv:bO h' g' e2 1 A' n' c' (yv (l++t))
 len:n'=n+t.length
 fit:n+t.length<=c->A'=A/\c'=c/\e2=e'
 tag:e'=5->e2=5
def Ext.trans{g g1 g2 h1 h2:aM}{e' e1 e2:aO}{A A1 A2:Option aK}{n c n1 c1 n2 c2:Nat}{l t s:List UInt8}(x:Ext g e' A n c l t A1 n1 c1 e1 g1 h1)(y:Ext g1 e1 A1 n1 c1 (l++t) s A2 n2 c2 e2 g2 h2):Ext g e' A n c l (t++s) A2 n2 c2 e2 g2 h2:=by
 refine ⟨B0 x.le y.le,?_,?_,?_,fun e=>y.tag (x.tag e)⟩
 ·have:=y.priv;grind
 ·rw [y.len,x.len,aJ];omega
 ·intro a
  rw [aJ] at a
  obtain ⟨rfl,rfl,rfl⟩:=x.fit o
  have b:=x.len
  exact y.fit o
section
variable {h g:aM} {K:VP} {A:Option aK} {n c:Nat} {e':aO} {l:List UInt8}
def Fj{i:Nat}(gp:Gp h)(p:bO h g e' 1 A n c (yv l))(hi:i<18446744073709551616)(hn:n<=1000000000000)
 (hK:∀ A' n' c' e2 g' h',Ext g e' A n c l (Q3 i) A' n' c' e2 g' h'->K (.slice A' n' c') h'):aH prog 292 #[.slice A n c,U (i:Int),I 10] h K:=by
 refine (fnk func292) ?_
 refine Bs gp p hi hn ?_
 intro A' c' e2 h' g' b d a e
 exact ⟨_,_,_,rfl,hK _ _ _ _ _ _ ⟨b,d,rfl,a,e⟩⟩
def Eo{ch:UInt8}{v:Int}(hv:v=(ch.toNat:Int))(p:bO h g e' 1 A n c (yv l))(hn:n<=1000000000000){KK:Option aK->Nat->Nat->aM->Prop}
 (x:∀ A' n' c' e2 g' h',Ext g e' A n c l [ch] A' n' c' e2 g' h'->KK A' n' c' h'):
 wpH prog (Instr.buildSlice 206 1 #[(0,Y v)]) (fun v1 hp1=>∃ (A1:Option aK) (n1 c1:Nat),v1= .slice A1 n1 c1/\wpH prog (bF #[206,206] 206 #[.slice A n c,.slice A1 n1 c1]) (fun v2 hp2=>∃ (A2:Option aK) (n2 c2:Nat),v2= .slice A2 n2 c2/\KK A2 n2 c2 hp2) hp1) h:=by
 subst hv
 refine Q1 Di rfl ?_
 intro b a
 refine ⟨_,_,_,rfl,?_⟩
 have s:=p.put a (.cells #[Y (ch.toNat:Int)] 5)
 have d:g.le (g.put b (.cells #[Y (ch.toNat:Int)] 5)):=by
  intro k w q
  have i:k≠b:=by
   rintro rfl
   rw [p.le k w q] at a;cases a
  rw [B7 _ _ i];exact q
 have t:SlV (h.put b (.cells #[Y (ch.toNat:Int)] 5)) (some ⟨b,0,none⟩) (yv [ch]):=by
  refine .inr ⟨_,rfl,fun j u z=>?_⟩
  rw [D6,D4]
  match j with
  | 0=>assumption
  | j+1=>assumption
 refine Sn Di s (m:=1) (ys:=yv [ch]) rfl t (Vz _) o o ?_ ?_
 ·intro r h' f
  rw [<- U5] at f
  exact ⟨_,_,_,rfl,x _ _ _ _ _ _ ⟨d,f,rfl,fun _=>⟨rfl,rfl,rfl⟩,id⟩⟩
 ·intro r A' c' h' g' y f
  rw [<- U5] at f
  exact ⟨_,_,_,rfl,x _ _ _ _ _ _ ⟨B0 d y,f,rfl,fun e=>gz0,fun _=>rfl⟩⟩
def Pp{i:Int}(h:i<0):Nc i=[45]++Q3 i.natAbs:=by unfold Nc;grind
def Ju{i:Int}(h:¬ i<0):Nc i=Q3 i.natAbs:=by unfold Nc;grind
def Ik{i:Int}(gp:Gp g)(p:bO h g e' 1 A n c (yv l))(h1: -9223372036854775808<=i)(h2:i<9223372036854775808)(hn:n<=100000000000)
 (hK:∀ A' n' c' e2 g' h',Ext g e' A n c l (Nc i) A' n' c' e2 g' h'->K (.slice A' n' c') h'):aH prog 216 #[.slice A n c,I i,I 10] h K:=by
 refine (fnk func216) ?_
 refine (fnk func262) ?_
 refine C0 (fun k=>?_) (fun k=>?_)
 ·rw [Pp k] at hK
  refine Eo (ch:=45) rfl p o ?_
  intro A1 u c1 t s r a
  have e:C7 (0-C7 i)=((i.natAbs:Nat):Int):=by rw [F1,F1];omega
  rw [e]
  refine Bs (gp.mono (B0 a.le a.priv.le)) a.priv o (by have:=a.len;grind) ?_
  intro A2 c2 e2 m q d f b j
  exact ⟨_,_,_,rfl,_,_,_,rfl,hK _ _ _ _ _ _ (a.trans ⟨d,f,rfl,b,j⟩)⟩
 ·rw [Ju k] at hK
  have e:C7 i=((i.natAbs:Nat):Int):=by rw [F1];omega
  rw [e]
  refine Bs (gp.mono p.le) p o o ?_
  intro A2 c2 e2 m q d f b j
  exact ⟨_,_,_,rfl,_,_,_,rfl,hK _ _ _ _ _ _ ⟨d,f,rfl,b,j⟩⟩
def Xx{b:Nat}{e:aO}{B:Option aK}{pre post:List bN}{s:List UInt8}(w:Win .u8 h g b e B pre (zb s) post):SlV h B (yv s):=by
 have:=w.sl
 unfold SlI at this
 rw [B62] at this
 exact this
def Cv{i:Int}(gp:Gp h)(h1: -9223372036854775808<=i)(h2:i<9223372036854775808)(hK:K (.string (bs (Nc i))) h):aH prog 212 #[I i,I 10] h K:=by
 refine FCall.pure ((fnk func212) ?_)
 refine (fnk func260 (cs:=[(3,[17],[],[.bool false])]) (wr:=[288])) ?_
 refine D8 (fun _=>?_) (fun e=>absurd rfl e)
 refine ⟨fun L j=>L=[.bool (decide (0<=i/\i<100))]/\j=h,C0 (fun n=>⟨by simp [n],rfl⟩) (fun n=>⟨by simp [n],rfl⟩),?_⟩
 rintro t j ⟨O,rfl⟩
 obtain rfl:t=decide (0<=i/\i<100):=gz0
 refine C0 (fun n=>?_) (fun n=>?_)
 ·obtain ⟨k,rfl⟩:∃ k:Nat,i=k:=⟨i.toNat,o⟩
  refine Tt o ⟨_,rfl,⟨_,rfl,B6 _,?_⟩⟩
  assumption
 ·refine Ck A4n ?_
  intro b G
  have H:(Value.agg (bG 24 (.int .u8 0))).cells=((aD 24 (0:Int)).map (aN .u8)).toArray:=by rfl
  rw [H]
  have r:Win .u8 (j.put b (.cells ((aD 24 (0:Int)).map (aN .u8)).toArray 365)) j b 365 (some ⟨b,0,none⟩) [] (aD 24 (0:Int)) []:=⟨G,by simp,.inr rfl⟩
  generalize (j.put b (.cells ((aD 24 (0:Int)).map (aN .u8)).toArray 365))=hp1 at *
  refine ⟨_,rfl,?_⟩
  obtain ⟨u,hu⟩:∃ u:Nat,u=i.natAbs:=⟨_,rfl⟩
  have a:u≠0:=o
  have A:Q3 u=dd u:=Ci a
  have N:(dd u).length<=20:=R9.2 o
  have C:C3 (1+(((dd u).length:Nat):Int))=((1+(dd u).length:Nat):Int):=by rw [B9 o o];omega
  have s:=r.sub (l:=1) (m:=1+(dd u).length) (c:=24) o gz0 (by simp)
  have z:((aD 24 (0:Int)).drop 1).take (1+(dd u).length-1)=aD (dd u).length 0:=by
   grind
  rw [z] at s
  have f:u<10^(dd u).length:=R9.1 (bH _)
  have q:pad (dd u).length u=dd u:=by simp [pad]
  have g:1+(dd u).length-1=(dd u).length:=o
  refine C0 (fun p=>?_) (fun p=>?_)
  ·rw [Pp p,<- hu,A] at hK
   have e:C7 (0-C7 i)=(u:Int):=by rw [F1,F1];omega
   rw [e]
   refine Ct (gp.mono r.le) a o ⟨_,rfl,?_⟩
   dsimp only;rw [C,aC]
   refine ⟨⟨o,o⟩,⟨o,o⟩,?_⟩
   rw [show ((1:Int)).toNat=1 from rfl,g]
   refine Y4 s (by simp) o f o ?_
   intro y d
   rw [q] at d
   refine ⟨rfl,C0 (fun _=>?_) (fun w=>absurd p w)⟩
   have F:=r.whole (l:=1) (m:=1+(dd u).length) o gz0 (by rw [Fw];omega) d
   refine ⟨⟨o,o⟩,?_⟩
   rw [show ((0:Int)).toNat=0 from rfl]
   refine F.storeN Jt rfl (by simp) ?_
   intro M B
   refine ⟨⟨o,o⟩,?_⟩
   have D:=B.sub (l:=0) (m:=1+(dd u).length) (c:=24) o (by simp [Fw];omega) (by simp [Fw];omega)
   have E:((((aD 24 (0:Int)).take 1++zb (dd u)++(aD 24 (0:Int)).drop (1+(dd u).length)).set 0 45).drop 0).take (1+(dd u).length-0)=zb ([45]++dd u):=by
    rw [aX,List.take_replicate,show min 1 24=1 from rfl,show aD 1 (0:Int)=[0] from rfl,bY,List.singleton_append,List.set_cons_zero,bC,Nat.add_comm 1,List.take_succ_cons,List.take_left' (Fw _)]
    rfl
   rw [E] at D
   refine Hg Di.und Bh U1 (Xx D) gz0 ⟨_,rfl,_,rfl,?_,hK⟩
   exact B.le
  ·rw [Ju p,<- hu,A] at hK
   have e:C7 i=(u:Int):=by rw [F1];omega
   rw [e]
   refine Ct (gp.mono r.le) a o ⟨_,rfl,?_⟩
   dsimp only;rw [C,aC]
   refine ⟨⟨o,o⟩,⟨o,o⟩,?_⟩
   rw [show ((1:Int)).toNat=1 from rfl,g]
   refine Y4 s (by simp) o f o ?_
   intro y d
   rw [q] at d
   refine ⟨rfl,C0 (fun w=>absurd w p) (fun _=>?_)⟩
   refine ⟨⟨o,o⟩,⟨o,o⟩,?_⟩
   exact Hg Di.und Bh U1 (Xx d) rfl ⟨_,rfl,_,rfl,d.le,hK⟩
def Ti{s q:List UInt8}(hK:K (.tuple #[.string (bs (if q <+: s then s.drop q.length else s)),.bool (decide (q <+: s))]) h):aH prog 186 #[.string (bs s),.string (bs q)] h K:=by
 refine (fnk func186) ?_
 refine (fnk func231) ?_
 have b:aH prog 269 #[.string (bs s),.string (bs q)] h (fun r b=>r= .bool (decide (q <+: s))/\b=h):=by
  refine (fnk func269) ?_
  simp only [I7]
  refine C0 (fun a=>?_) (fun a=>?_)
  ·refine ⟨⟨o,o⟩,?_,trivial⟩
   rw [aC,N2,Ij]
   congr 1
   rw [decide_eq_decide,aX,bC,List.prefix_iff_eq_take]
   exact eq_comm
  grind
 refine b.mono ?_
 rintro r c ⟨rfl,rfl⟩
 refine ⟨_,rfl,Br.not (C0 (fun a=>?_) (fun a=>?_))⟩
 ·rw [iP a,decide_eq_true a] at hK
  have:=a.length_le
  simp only [I7]
  refine ⟨⟨o,o⟩,_,_,rfl,?_⟩
  rw [aC,N2,aG gz0]
  exact hK
 grind
end
abbrev cB:Int:=10000000000000000000
section
variable {h g:aM} {K:VP} {A B:Option aK} {ac bc:Nat}
def B8u{Invv:LP}{muv:LN}{WA CA:Option aK}{wn wc cn cc:Nat}{us:List Int}{hp1 g1:aM}(p:Pw hp1 g1 WA wn wc us)(hne:us≠[])(hwn:wn=us.length)(du:Dig b64 us)(hl:wn<=100000000)
 (hK:∀ (ws:List Int) (m:Nat) (r:Int) (hp2:aM),Pw hp2 g1 WA m wc (ws.take m)->m=(ws.take m).length->m<=wn->Norm (ws.take m)->Dig b64 (ws.take m)->val b64 us=val b64 (ws.take m)*cB+r->(0<=r/\r<cB)->
  wpH prog (Instr.buildSlice 217 1 #[(0,U r)]) (fun v hp6=>∃ (t44A:Option aK) (t44n:Nat) (t44c:Nat),v= .slice t44A t44n t44c/\wpH prog (bF #[217,217] 217 #[.slice CA cn cc,.slice t44A t44n t44c]) (fun v1 hp7=>∃ (t45A:Option aK) (t45n:Nat) (t45c:Nat),v1= .slice t45A t45n t45c/\Invv [.slice WA m wc,.slice t45A t45n t45c] hp7/\muv [.slice WA m wc,.slice t45A t45n t45c] hp7<muv [.slice WA wn wc,.slice CA cn cc] hp1) hp6) hp2):
 Gy prog Invv muv WA wn wc CA cn cc hp1:=by
 obtain ⟨b,g,F,S⟩:=Ed p hne
 refine ⟨fun s E=>∃ (k:Nat) (r:Int) (ws:List Int),s=[U r,I ((k:Int)-1)]/\k<=wn/\(0<=r/\r<cB)/\ws.length=us.length/\Dig b64 ws/\Win .u64 E g1 b 195 WA [] ws g/\ws.take k=us.take k/\val b64 (us.drop k)=val b64 (ws.drop k)*cB+r,fun s _=>(iAt s 1+1).toNat,⟨wn,0,us,by rw [B9 o o],o,dc,rfl,du,F,rfl,by rw [cD o];rfl⟩,?_⟩
 rintro c i hp2 ⟨k,r,ws,R,O,n,B,l,w,d,M⟩
 obtain ⟨rfl,rfl⟩:c=r/\i=(k:Int)-1:=gz0
 refine C0 (fun D=>?_) (fun D=>?_)
 ·obtain ⟨j,rfl⟩:∃ j,k=j+1:=⟨k-1,o⟩
  have e:((j+1:Nat):Int)-1=(j:Int):=o
  rw [e]
  have L:=O3 l j
  refine w.sl.load o o o ?_
  rw [aC]
  refine Py (y:=10000000000000000000) n L dc ⟨_,_,rfl,?_⟩
  have G:us.getD j 0=ws.getD j 0:=by
   have H:(ws.take (j+1)).getD j 0=(us.take (j+1)).getD j 0:=by rw [d]
   grind
  generalize hx:ws.getD j 0=x at *
  have A:0<=c/\c<10000000000000000000:=n
  have C:0<=(c*18446744073709551616+x)/10000000000000000000/\(c*18446744073709551616+x)/10000000000000000000<18446744073709551616:=o
  obtain ⟨a,t,_⟩:=SlV.at w.sl (i:=j) gz0
  refine ⟨a,t,o,o,w.storeN F7 t o ?_⟩
  intro Q u
  rw [B9 o o]
  refine ⟨⟨j,_,_,rfl,o,gz0,gz0,l.set C,u,?_,?_⟩,by simp only [iAt,aE,aF];omega⟩
  ·rw [List.take_set_of_le o]
   have H:=congrArg (List.take j) d
   grind
  ·rw [V8 o,Js b64 o,M,G]
   simp only [val]
   grind
 ·obtain rfl:k=0:=o
  rw [show wn=ws.length from o] at hK ⊢
  refine De w.sl o o ?_
  intro m q N z
  refine ⟨_,_,_,rfl,?_⟩
  have f:ws≠[]:=gz0
  exact hK ws m c hp2 (w.priv f o q) gz0 q N (l.take m) gz0 n
end
def nv:List Nat->Nat
 | []=>0
 | c::r=>c+10^19*nv r
def A84(ns:List Nat)(c:Nat):((nv (ns++[c]):Nat):Int)=(nv ns:Int)+cB^ns.length*(c:Int):=by
 induction ns with
 | nil=>simp [nv]
 | cons d r ih=>
  have e:((10^19:Nat):Int)=cB:=dc
  simp only [List.cons_append,nv,List.length_cons,dC,Int.natCast_add,cG,ih,e]
  grind
def C0i{ns:List Nat}(h:∀ c∈ns,c<10^19):nv ns<10^(19*ns.length):=by
 induction ns with
 | nil=>simp [nv]
 | cons d r ih=>
  have a:=h d (by simp)
  simp only [nv,List.length_cons]
  grind
def C0h{ns:List Nat}(hne:ns≠[])(h:ns.getLast? ≠ some 0):nv ns≠0:=by
 induction ns with
 | nil=>grind
 | cons d r ih=>
  cases r with
  | nil=>simp at h;assumption
  | cons e s=>
   have:=ih (by simp) (by assumption)
   simp only [nv] at this ⊢
   omega
def B17{c:Nat}:aD (19-(Q3 c).length) 48++Q3 c=pad 19 c:=by
 unfold Q3 pad
 split
 ·rename_i h;subst h;rw [K5];rfl
 ·rfl
def A7x{c w:Nat}(h:c≠0):aD (w-(Q3 c).length) 48++Q3 c=pad w c:=by
 unfold Q3 pad;grind
def A5a{w n k:Nat}(h:n<10^k):(pad w n).length<=w+k:=by
 unfold pad
 have:=R9.2 h
 grind
def A6c(W:Nat)(ns:List Nat)(k:Nat):List UInt8:=if k<ns.length then pad (W-19*k) (nv (ns.drop k)) else []
def B08{W:Nat}{ns:List Nat}(h:∀ c∈ns,c<10^19)(k:Nat):(A6c W ns k).length<=W+19*ns.length:=by
 unfold A6c
 split
 ·have:=A5a (w:=W-19*k) (C0i (ns:=ns.drop k) fun c a=>h c (List.mem_of_mem_drop a))
  grind
 ·simp
def A6q{W:Nat}{ns:List Nat}(hb:∀ c∈ns,c<10^19)(ht:ns.getLast? ≠ some 0){j:Nat}(hj:j<ns.length):A6c W ns j=A6c W ns (j+1)++(aD ((if j+1=ns.length then max (Q3 ns[j]).length (W-19*j) else 19)-(Q3 ns[j]).length) 48++Q3 ns[j]):=by
 have e:ns.drop j=ns[j]::ns.drop (j+1):=bW hj
 unfold A6c
 rw [iP hj,e]
 by_cases h:j+1=ns.length
 ·rw [iN o,iP h,List.nil_append,cD o]
  have a:ns[j]≠0:=by
   grind
  rw [show max (Q3 ns[j]).length (W-19*j)-(Q3 ns[j]).length=(W-19*j)-(Q3 ns[j]).length from o,A7x a]
  simp [nv]
 ·rw [iP o,iN h,B17]
  have d:nv (ns.drop (j+1))≠0:=by
   apply C0h
   ·intro b;have:=congrArg List.length b;grind
   grind
  have:=Zi (w:=W-19*j) (h:=nv (ns.drop (j+1))) (l:=ns[j]) (k:=19) (hb _ (bZ hj)) (.inl d)
  rw [Nat.sub_sub] at this
  rw [show 19*(j+1)=19*j+19 from o,<- this]
  congr 1
  simp only [nv];omega
def Priv.clear{h g:aM}{e:aO}{A:Option aK}{n c:Nat}{xs:List bN}(p:bO h g e 1 A n c xs):bO h g e 1 A 0 c []:=by
 obtain ⟨a,b,d⟩:=p
 refine ⟨by simp,o,?_⟩
 grind
def nz(ns:List Nat):List Int:=ns.map fun (x:Nat)=>(x:Int)
def Bx(g:aM)(eT:aO)(A:Option aK)(n c:Nat)(l:List UInt8)(p:aK)(CA:Option aK)(ns:List Nat)(bl t:List UInt8)(tA:Option aK)(tn tc:Nat)(hp:aM):Prop:=
 ∃ e2 gA gB,Ext g eT A n c l t tA tn tc e2 gA hp/\bO gA gB 388 1 (some p) bl.length 20 (yv bl)/\g.le gB/\SlI .u64 gB CA (nz ns)
section
variable {h g:aM} {K:VP} {A CA:Option aK} {n c:Nat} {eT:aO} {l:List UInt8} {p:aK} {ns:List Nat}
def A35{bl t s:List UInt8}{tA tA':Option aK}{tn tc tn' tc':Nat}{e2 e3:aO}{gA gB g' hp hp':aM}(x:Ext g eT A n c l t tA tn tc e2 gA hp)(q:bO gA gB 388 1 (some p) bl.length 20 (yv bl))(lg:g.le gB)(sc:SlI .u64 gB CA (nz ns))(y:Ext gA e2 tA tn tc (l++t) s tA' tn' tc' e3 g' hp'):Bx g eT A n c l p CA ns bl (t++s) tA' tn' tc' hp':=by
 obtain ⟨a,b,d⟩:=q.after y.le
 exact ⟨e3,g',a,x.trans y,d,B0 lg b,sc.mono b⟩
def B23{Invv2:LP}{muv2:LN}{tA:Option aK}{tn tc q:Nat}{first:Bool}{i1 size:Int}{bl t:List UInt8}{hp9 hp11:aM}(x:Bx g eT A n c l p CA ns bl t tA tn tc hp11)(hq:C3 (size-((bl.length:Nat):Int))=(q:Int))(hb:n+t.length+q+bl.length<=100000000000)
 (hK:∀ tA' tn' tc' hp',Bx g eT A n c l p CA ns bl (t++(aD q 48++bl)) tA' tn' tc' hp'->Invv2 [.slice tA' tn' tc',.bool false,I (C3 (i1-1))] hp'/\muv2 [.slice tA' tn' tc',.bool false,I (C3 (i1-1))] hp'<muv2 [.slice tA tn tc,.bool first,I i1] hp9):
 Fo prog Invv2 muv2 tA tn tc first i1 (some p) bl.length 20 size hp9 hp11:=by
 refine ⟨fun s j=>∃ (k:Nat) (tA:Option aK) (tn tc:Nat),s=[.slice tA tn tc,I k]/\k<=q/\Bx g eT A n c l p CA ns bl (t++aD k 48) tA tn tc j,fun s _=>q-(iAt s 1).toNat,⟨0,tA,tn,tc,rfl,o,gz0⟩,?_⟩
 rintro B C G L u ⟨k,N,M,F,H,Q,S,T,R,ex,d,i,m⟩
 obtain ⟨⟨rfl,rfl,rfl⟩,rfl⟩:=H
 have a:=ex.len
 rw [aJ,List.length_replicate] at a
 refine C0 (fun z=>?_) (fun z=>?_)
 ·refine Eo (ch:=48) rfl ex.priv o ?_
  intro A' O w V D r y
  rw [B9 o o]
  refine ⟨⟨k+1,_,_,_,rfl,o,?_⟩,by simp only [iAt,aE,aF];omega⟩
  have:=A35 ex d i m y
  rwa [bY,<- List.replicate_succ'] at this
 ·obtain rfl:k=q:=o
  refine ⟨fun s j=>∃ (tA:Option aK) (tn tc:Nat),s=[.slice tA tn tc]/\Bx g eT A n c l p CA ns bl (t++(aD k 48++bl)) tA tn tc j,?_,?_⟩
  ·refine Sn Di ex.priv (Fy bl) (SlV.mono ex.priv.le d.slV) (Vz _) o o ?_ ?_
   ·intro E r b
    rw [<- U5] at b
    refine ⟨_,_,_,rfl,_,_,_,rfl,?_⟩
    have:=A35 ex d i m (s:=bl) ⟨B6 _,b,rfl,fun _=>⟨rfl,rfl,rfl⟩,id⟩
    grind
   ·intro E A' w r D f b
    rw [<- U5] at b
    refine ⟨_,_,_,rfl,_,_,_,rfl,?_⟩
    have:=A35 ex d i m (s:=bl) ⟨f,b,rfl,fun e=>o,fun _=>rfl⟩
    grind
  grind
def B21{W tn tc:Nat}{tA:Option aK}{t:List UInt8}{e2:aO}{gA hp9:aM}(x:Ext g eT A n c l t tA tn tc e2 gA hp9)(hW:W<=10000000000)(hb:tn<=10000000000)(hK:∀ A' n' c' e3 g' h',Ext g eT A n c l (t++aD W 48) A' n' c' e3 g' h'->K (.slice A' n' c') h'):Fn prog (W:Int) K tA tn tc hp9:=by
 refine ⟨fun s b=>∃ (k:Nat) (tA:Option aK) (tn' tc:Nat) (e3:aO) (g':aM),s=[.slice tA tn' tc,I k]/\k<=W/\tn'=tn+k/\Ext g eT A n c l (t++aD k 48) tA tn' tc e3 g' b,fun s _=>W-(iAt s 1).toNat,⟨0,tA,tn,tc,e2,gA,rfl,o,rfl,gz0⟩,?_⟩
 rintro r u p f a ⟨k,w,e,i,e3,g',z,B,j,ex⟩
 obtain ⟨⟨rfl,rfl,rfl⟩,rfl⟩:=z
 refine C0 (fun q=>?_) (fun q=>?_)
 ·refine Eo (ch:=48) rfl ex.priv o ?_
  intro A' n' c' m d h' y
  rw [B9 o o]
  refine ⟨⟨k+1,_,_,_,m,d,rfl,o,?_,?_⟩,by simp only [iAt,aE,aF];omega⟩
  ·have:=y.len;grind
  ·have:=ex.trans y
   rwa [bY,<- List.replicate_succ'] at this
 grind
def B22{W cn:Nat}{tA:Option aK}{tn tc:Nat}{hp8:aM}{b:Nat}(gp:Gp g)(hp:p=⟨b,0,none⟩)(x:Bx g eT A n c l p CA ns [] [] tA tn tc hp8)(hcn:cn=ns.length)(hb:∀ c∈ns,c<10^19)(ht:ns.getLast? ≠ some 0)(hW:W<=1000000000)(hn:n<=1000000000)(hnl:ns.length<=1000000000)
 (hK:∀ A' n' c' e3 g' h',Ext g eT A n c l (pad W (nv ns)) A' n' c' e3 g' h'->K (.slice A' n' c') h'):Fp prog tA tn tc (W:Int) K CA cn p hp8:=by
 subst hcn
 have f:T9 (some p) 20 0 1=some p:=by rfl
 refine ⟨fun s hp=>∃ (k:Nat) (tA:Option aK) (tn tc:Nat) (E:List UInt8),s=[.slice tA tn tc,.bool (decide (k=ns.length)),I ((k:Int)-1)]/\k<=ns.length/\Bx g eT A n c l p CA ns E (A6c W ns k) tA tn tc hp,fun s _=>(iAt s 2+1).toNat,⟨ns.length,tA,tn,tc,[],by rw [B9 o o];simp,bH _,by unfold A6c;grind⟩,?_⟩
 rintro t u B first i1 af ⟨k,ag,ae,aa,E,hs,hk,G,gA,gB,ex,z,m,N⟩
 obtain ⟨⟨rfl,rfl,rfl⟩,rfl,rfl⟩:=hs
 have F:=ex.len
 have S:=B08 (W:=W) hb k
 refine C0 (fun X=>?_) (fun X=>?_)
 ·obtain ⟨j,rfl⟩:∃ j,k=j+1:=⟨k-1,o⟩
  have e:((j+1:Nat):Int)-1=(j:Int):=o
  rw [e]
  have D:j<ns.length:=o
  refine ⟨⟨o,o⟩,?_⟩
  refine (N.mono (B0 z.le ex.priv.le)).load (by simp [nz]) o o ?_
  have hz:(nz ns).getD (j:Int).toNat 0=((ns[j]:Nat):Int):=by
   simp [nz,List.getD,D]
  rw [hz,f,show ((0:Int)).toNat-0=0 from rfl,show 20-0=20 from rfl]
  have a:=hb ns[j] (bZ D)
  have ad:(Q3 ns[j]).length<=20:=(Ln dc).2 (aP a dc)
  refine ex.priv.call ?_
  refine Fj (l:=[]) (gp.mono (B0 m z.le)) z.clear (aP a dc) o ?_
  intro A' n' c' e3 g' Q y h' T
  obtain ⟨rfl,rfl,rfl⟩:=y.fit o
  have L:=y.len
  rw [bU] at L
  subst L
  refine ⟨_,_,_,rfl,?_⟩
  have x2:Bx g eT A n c l p CA ns (Q3 ns[j]) (A6c W ns (j+1)) t u B h':=
   ⟨G,Q,g',⟨B0 m (B0 y.le y.priv.le),T,ex.len,ex.fit,ex.tag⟩,by simpa using y.priv,B0 m y.le,N.mono y.le⟩
  refine ⟨fun s hp=>s=[I (((if j+1=ns.length then max (Q3 ns[j]).length (W-19*j) else 19):Nat):Int)]/\hp=h',C0 (fun i=>⟨?_,rfl⟩) (fun i=>⟨gz0,rfl⟩),?_⟩
  ·rw [iP i,B9 (n:=19*(j:Int)) o o,B9 o o]
   grind
  ·rintro d H ⟨ac,rfl⟩
   obtain rfl:d=(((if j+1=ns.length then max (Q3 ns[j]).length (W-19*j) else 19):Nat):Int):=gz0
   have O:(Q3 ns[j]).length<=19:=(Ln dc).2 a
   generalize hsz:(if j+1=ns.length then max (Q3 ns[j]).length (W-19*j) else 19)=sz at *
   have M:(Q3 ns[j]).length<=sz/\sz<=W+20:=by
    grind
   refine B23 (q:=sz-(Q3 ns[j]).length) x2 (by rw [B9 o o];omega) o ?_
   intro w C r V R
   rw [B9 o o]
   refine ⟨⟨j,w,C,r,Q3 ns[j],?_,o,?_⟩,by simp only [iAt,aE,aF];omega⟩
   ·rw [show decide (j=ns.length)=false from gz0]
   ·rw [A6q hb ht D,hsz];exact R
 ·obtain rfl:k=0:=o
  refine C0 (fun i=>?_) (fun i=>?_)
  ·refine B21 ex o o ?_
   intro A' n' c' e3 g' h' y
   refine hK _ _ _ e3 g' _ ?_
   have:A6c W [] 0++aD W 48=pad W (nv []):=by simp [A6c,nv,pad,K5]
   grind
  ·refine hK _ _ _ G gA _ ?_
   ·have:A6c W ns 0=pad W (nv ns):=by unfold A6c;grind
    grind
end
def B27:(prog.info? 388).map (fun i=>i.zero)=some (some (.agg (bG 20 (.int .u8 0)))):=by kernel_rfl
def B4o(ns:List Nat)(c:Nat):nz (ns++[c])=nz ns++[(c:Int)]:=by simp [nz]
section
variable {h g:aM} {K:VP} {A XA:Option aK} {n c:Nat} {eT:aO} {l:List UInt8}
def Dy{xn xc v W:Nat}(gp:Gp g)(p:bO h g eT 1 A n c (yv l))(M:Mw g XA xn (v:Int))(hx:xn<=10000000)(hW:W<=1000000000)(hn:n<=1000000000)
 (hK:∀ A' n' c' e3 g' h',Ext g eT A n c l (pad W v) A' n' c' e3 g' h'->K (.slice A' n' c') h'):aH prog 311 #[.slice A n c,.slice XA xn xc,I (W:Int)] h K:=by
 obtain ⟨xs,E,sx,dx,nx,N⟩:=M
 refine Pl _ _ _ _ _ _ _ ?_
 refine p.call ?_
 refine Dv sx E oo ?_
 intro WA R h0 g0 l0 pw h1 S
 obtain ⟨z,X,am⟩:=S.swap pw
 refine ⟨_,_,_,rfl,?_⟩
 have an:(v:Int)<2^(64*xn):=by
  have:=K6 (B:=b64) dc dx
  rw [N,<- E,Ix] at this;exact this
 refine ⟨fun s hp=>∃ (a:List Int) (ns:List Nat) (WA CA:Option aK) (wn R cn cc:Nat) (z g2 g3:aM),s=[.slice WA wn R,.slice CA cn cc]/\Pw hp z WA wn R a/\Pw z g2 CA cn cc (nz ns)/\bO g2 g3 eT 1 A n c (yv l)/\g.le g3/\wn=a.length/\cn=ns.length/\wn<=xn/\Dig b64 a/\Norm a/\(∀ c∈ns,c<10^19)/\(v:Int)=val b64 a*cB^ns.length+(nv ns:Int)/\(a=[]->ns.getLast? ≠ some 0),fun s hp=>match s with|[.slice A n _,_]=>A89 b64 hp A n|_=>0,⟨xs,[],WA,none,xs.length,R,0,0,z,z,g0,rfl,X,Priv.nil _ _ _ _,am,l0,rfl,rfl,oo,dx,nx,by simp,by simp [nv,N],by simp⟩,?_⟩
 rintro WA1 L af CA1 ai ax O ⟨a,ns,WA2,CA2,aw,au,ay,aq,z,g2,g3,hs,pw,pc,S,lg,F,V,ar,du,nu,hb,hv,u⟩
 obtain ⟨⟨rfl,rfl,rfl⟩,rfl,rfl,rfl⟩:=hs
 have ap:=C9 (B:=b64) dc du
 have Mu:Mw O WA1 L (val b64 a):=⟨a,F,pw.slV,du,nu,rfl⟩
 refine C0 (fun h2=>?_) (fun h2=>?_)
 ·have T:a≠[]:=gz0
  have G:0<val b64 a:=by
   have:=Mu.len_zero dc
   omega
  have t:ns.length<=64*xn:=by
   by_cases hc:ns.length<=64*xn
   ·exact hc
   ·exfalso
    have h3:(2:Int)^(64*xn)<=2^ns.length:=D5 dc oo
    have h4:(2:Int)^ns.length<=cB^ns.length:=by
     have:∀ k:Nat,(2:Int)^k<=cB^k:=by
      intro k
      induction k with
      | zero=>simp
      | succ k ih=>
       grind
     grind
    have h5:1*cB^ns.length<=val b64 a*cB^ns.length:=cO G (Int.le_of_lt (Int.pow_pos dc))
    omega
  refine B8u pw T F du oo ?_
  intro ws m r av al hm ao nw dw j hr
  obtain ⟨q,aa,ag⟩:=al.swap pc
  refine Cs Q6 aa rfl rfl oo oo ?_
  intro CA' aj h' g' ae i
  obtain ⟨w,l2,d⟩:=ag.after ae
  obtain ⟨g4,Q,ad⟩:=i.swap d
  obtain ⟨g5,l5,ac⟩:=S.after l2
  obtain ⟨c0,e⟩:∃ c0:Nat,r=(c0:Int):=⟨r.toNat,oo⟩
  refine ⟨⟨ws.take m,ns++[c0],WA1,CA',m,af,ai+1,aj,g4,w,g5,rfl,Q,?_,ac,B0 lg l5,hm,gz0,oo,dw,nw,?_,?_,?_⟩,?_⟩
  ·have h9:=ad
   rw [<- List.map_singleton (f:=aN .u64),<- cR,e,<- B4o] at h9
   exact h9
  ·grind
  ·rw [A84,hv,j,aJ,cI,dC,e];grind
  ·intro he
   rw [List.getLast?_append]
   simp only [cX,Option.some_or,ne_eq,aT]
   intro e0
   rw [he] at j
   simp [val] at j
   omega
  ·show A89 b64 h' WA1 m<A89 b64 O WA1 L
   have Mw2:Mw h' WA1 m (val b64 (ws.take m)):=⟨ws.take m,hm,Q.slV,dw,nw,rfl⟩
   rw [Ac Mw2,Ac Mu]
   grind
 ·have C:a=[]:=aL oo
  subst C
  obtain ⟨w,ah,i⟩:=pc.swap S
  obtain ⟨q,D,d⟩:=pw.swap ah
  have ak:v=nv ns:=by
   simp [val] at hv;omega
  have t:ns.length<=1000000000:=by
   by_cases e:ns=[]
   ·grind
   ·have h7:=u rfl
    obtain ⟨ms,c0,rfl⟩:∃ ms c0,ns=ms++[c0]:=⟨ns.dropLast,ns.getLast e,(List.dropLast_concat_getLast e).symm⟩
    rw [List.getLast?_append] at h7
    simp only [cX,Option.some_or,ne_eq,aT] at h7
    have h8:=A84 ms c0
    by_cases hc:ms.length<=64*xn
    ·grind
    ·exfalso
     have h3:(2:Int)^(64*xn)<=2^ms.length:=D5 dc oo
     have h4:(2:Int)^ms.length<=cB^ms.length:=by
      have:∀ k:Nat,(2:Int)^k<=cB^k:=by
       intro k
       induction k with
       | zero=>simp
       | succ k ih=>
        grind
      grind
     have h5:cB^ms.length*1<=cB^ms.length*(c0:Int):=Int.mul_le_mul_of_nonneg_left oo (Int.le_of_lt (Int.pow_pos dc))
     omega
  refine Ck B27 ?_
  intro b y
  refine ⟨_,rfl,?_⟩
  have H:q b=none:=by
   cases hx1:q b with
   | none=>rfl
   | some o=>rw [D.le b o hx1] at y;cases y
  refine B22 (ns:=ns) gp rfl ⟨eT,_,q,⟨?_,?_,by simp,fun _=>⟨rfl,rfl,rfl⟩,id⟩,⟨by simp [yv],by simp,.inr ⟨b,aD 20 (aN .u8 0),rfl,H,rfl,by simp,by simp [yv]⟩⟩,?_,?_⟩ V hb (u rfl) hW hn t (by rw [<- ak];exact hK)
  ·exact B0 lg (B0 i.le (B0 d.le (Heap.le_put _ H)))
  ·rw [List.append_nil];exact D.put y _
  ·exact B0 lg (B0 i.le d.le)
  ·exact (show SlI .u64 w CA1 (nz ns) from i.slV).mono d.le
end
def Jl(i:Nat):Nat:=10^(19*2^i)
def A6t(i:Nat):Jl i=(10^19)^(2^i):=Nat.pow_mul _ _ _
def B0b(i:Nat):0<Jl i:=Nat.pow_pos dc
def Yj(i:Nat):Jl (i+1)=Jl i*Jl i:=by
 unfold Jl
 rw [<- Nat.pow_add]
 grind
def B3n(i:Nat):(Jl i:Int)<b64^(2^i):=by
 have h:(10^19)^(2^i)<(18446744073709551616:Nat)^(2^i):=Nat.pow_lt_pow_left dc (Nat.pos_iff_ne_zero.1 (Nat.pow_pos dc))
 rw [<- A6t] at h
 grind
def B3o(i:Nat):(2:Int)^(63*2^i)<=(Jl i:Int):=by
 have h:(2^63)^(2^i)<=(10^19)^(2^i):=cK dc _
 rw [<- A6t,<- Nat.pow_mul] at h
 grind
def B67{k m:Nat}(h:(2:Int)^k<2^m):k<m:=by
 by_cases a:k<m
 ·exact a
 ·have:=D5 (B:=2) dc (show m<=k from o)
  omega
abbrev slT(s:Option aK × Nat × Nat):bN:=.slice s.1 s.2.1 s.2.2
def Pws(h:aM)(PA:Option aK)(k:Nat):Prop:=∃ ss:List (Option aK × Nat × Nat),ss.length=k/\SlV h PA (ss.map slT)/\∀ i s,ss[i]? = some s->s.2.1<=s.2.2/\Mw h s.1 s.2.1 (Jl i:Int)
def Pws.mono{h h':aM}(l:h.le h'){PA:Option aK}{k:Nat}(p:Pws h PA k):Pws h' PA k:=by
 obtain ⟨d,b,c,a⟩:=p
 exact ⟨d,b,c.mono l,fun i s e=>⟨(a i s e).1,(a i s e).2.mono l⟩⟩
def Pws.take{h:aM}{PA:Option aK}{k j:Nat}(p:Pws h PA k)(hj:j<=k):Pws h PA j:=by
 obtain ⟨a,d,b,f⟩:=p
 refine ⟨a.take j,gz0,?_,fun i s e=>?_⟩
 ·have:=SlV.cut (c:=(a.map slT).length) b (Nat.zero_le j) gz0 (bH _)
  rw [G9,aX,bC,<- List.map_take] at this
  exact this
 grind
def Pws.at{h:aM}{PA:Option aK}{k i:Nat}(p:Pws h PA k)(hi:i<k):∃ (a:aK) (A:Option aK) (n c:Nat),PA=some a/\h.cell? (a.add i)=some (.slice A n c)/\n<=c/\Mw h A n (Jl i:Int):=by
 obtain ⟨e,f,b,g⟩:=p
 obtain ⟨a,d,j⟩:=b.at (i:=i) gz0
 grind
def Mw.tenP_le{h:aM}{A:Option aK}{n i:Nat}(m:Mw h A n (Jl i:Int)):n<=2^i:=m.len_le dc (B3n i)
def Mw.tenP_ge{h:aM}{A:Option aK}{n i:Nat}(m:Mw h A n (Jl i:Int)):2^i<2*n:=by
 have a:=m.lt dc
 rw [Ix] at a
 have b:=B67 (Int.lt_of_le_of_lt (B3o i) a)
 omega
def Ext.weak{g g0 g' h':aM}{eT e2:aO}{A A':Option aK}{n c n' c':Nat}{l t:List UInt8}(l0:g0.le g)(x:Ext g eT A n c l t A' n' c' e2 g' h'):Ext g0 eT A n c l t A' n' c' e2 g' h':=⟨B0 l0 x.le,x.priv,x.len,x.fit,x.tag⟩
def B7y(w n:Nat):w<=(pad w n).length:=by simp [pad];omega
def B3w{j:Nat}(hj:j<=30):C3 (19*2^(min j 64))=((19*2^j:Nat):Int):=by
 rw [cF o]
 have b:2^j<=2^30:=aI dc hj
 have a:(19*2^j:Int)=((19*2^j:Nat):Int):=by rfl
 rw [a,B9 o o]
def Xb{l:List UInt8}(hd:∀ c∈l,I0 c):(J7 l:Int)<b64^l.length:=by
 have a:=Ev hd
 have b:10^l.length<=(18446744073709551616:Nat)^l.length:=cK dc _
 grind
def Ph:∀ (k:Nat) {h g:aM} {K:VP} {A XA PA:Option aK} {n c xn xc pc v W:Nat} {eT:aO} {l:List UInt8},Gp g->bO h g eT 1 A n c (yv l)->Mw g XA xn (v:Int)->xn<=xc->xn<=10000000->Pws g PA k->k<=pc->k<=26->(W=0\/W=19*2^k)->n+(pad W v).length<=1000000000->
 (∀ A' n' c' e3 g' h',Ext g eT A n c l (pad W v) A' n' c' e3 g' h'->K (.slice A' n' c') h')->aH prog 293 #[.slice A n c,.slice XA xn xc,I (W:Int),.slice PA k pc] h K:=by
 intro k
 induction k with
 | zero=>
  intro h g K A XA PA n c xn xc pc v W eT l d p M y F u E hk hW O D
  refine (fnk func293) ?_
  refine C0 (fun _=>?_) (fun e=>absurd dc e)
  refine Dy d p M F o o ?_
  grind
 | succ j ih=>
  intro h g K A XA PA n c xn xc pc v W eT l d p M y F u E hk hW O D
  have S:=B7y W v
  have e1:C3 (((j+1:Nat):Int)-1)=(j:Int):=by rw [B9 o o];omega
  refine (fnk func293) ?_
  simp only [e1,aC,bC,G9,B3w (show j<=30 from o)]
  refine C0 (fun e=>absurd e o) (fun _=>C0 (fun _=>?_) (fun _=>?_))
  ·refine Dy d p M F o o ?_
   grind
  ·obtain ⟨a,PA',pn,ad,ha,hc,s,Mp⟩:=u.at (i:=j) o
   refine ⟨a,ha,o,o,_,_,_,by rw [aV];exact C1 p.le hc,?_⟩
   have ah:=Mp.tenP_le
   have X:2^j<=2^26:=aI dc o
   have C:=B0b j
   refine p.call ?_
   refine T5 M Mp y s o o o ?_
   intro A1 m1 c1 A2 m2 c2 g1 b T Q M1 M2 h1 N
   refine ⟨_,_,_,_,_,_,rfl,?_⟩
   rw [<- Int.natCast_ediv] at M1
   rw [<- Int.natCast_emod] at M2
   have hv:=Nat.div_add_mod v (Jl j)
   have f:=Nat.mod_lt v C
   have ac:=aS v (Jl j)
   generalize v/Jl j=q at *
   generalize v%Jl j=r at *
   have hz:=M1.len_zero dc
   have G:=M.lt dc
   have af:m1<=xn:=M1.len_le dc o
   have ae:m2<=xn:=M2.len_le dc (by
    omega)
   have B:v=q*10^(19*2^j)+r:=by rw [<- hv,Nat.mul_comm];rfl
   refine C0 (fun e=>absurd e o) (fun _=>?_)
   refine D8 (fun V=>D8 (fun eW=>?_) (fun eW=>?_)) (fun V=>?_)
   ·obtain rfl:W=0:=o
    obtain rfl:q=0:=o
    obtain rfl:v=r:=o
    refine ⟨⟨o,o⟩,?_⟩
    refine ih (W:=0) (d.mono b) N M2 Q o ((u.mono b).take o) o o (.inl rfl) O ?_
    intro A4 n4 c4 R L h4 z
    exact ⟨_,_,_,rfl,D _ _ _ _ _ _ (z.weak b)⟩
   all_goals
    have hw:q≠0\/19*2^j<=W:=o
    have t:=Zi (w:=W) (h:=q) (l:=r) (k:=19*2^j) f hw
    rw [<- B] at t
    have aa:(pad (19*2^j) r).length=19*2^j:=Ue f
    have ai:(pad W v).length=(pad (W-19*2^j) q).length+19*2^j:=gz0
    refine ⟨⟨o,o⟩,?_⟩
    have e3:(if (0:Int)>C3 ((W:Int)-((19*2^j:Nat):Int)) then (0:Int) else C3 ((W:Int)-((19*2^j:Nat):Int)))=((W-19*2^j:Nat):Int):=by
     rw [B9 o o]
     omega
    rw [e3]
    refine ih (d.mono b) N M1 T o ((u.mono b).take o) o o o o ?_
    intro A3 n3 c3 e3 g3 h3 m
    have ag:=m.len
    have H:=B0 b m.le
    refine ⟨_,_,_,rfl,⟨o,o⟩,?_⟩
    refine ih (d.mono H) m.priv (M2.mono m.le) Q o ((u.mono H).take o) o o (.inr rfl) o ?_
    intro A4 n4 c4 R L h4 z
    refine ⟨_,_,_,rfl,D _ _ _ R L _ ?_⟩
    rw [t]
    exact (m.trans z).weak b
def Ge:∀ (k:Nat) {h:aM} {K:VP} {PA:Option aK} {pc:Nat} {l:List UInt8},(∀ c∈l,I0 c)->l.length<=100000000->Pws h PA k->k<=pc->k<=30->(∀ A n c h',h.le h'->n<=c->Mw h' A n (J7 l:Int)->K (.slice A n c) h')->aH prog 233 #[.string (bs l),.slice PA k pc] h K:=by
 intro k
 induction k using Nat.strongRecOn with
 | _ k ih=>
  intro h K PA pc l p W z X hk R
  refine (fnk func233 [(2,[5],[],[I 0])] (os:=[(7,[0,1,2,3,4,5,7,8,9,10,6,11,12])])) ?_
  rw [I7]
  have b:aH prog 273 #[.string (bs l)] h (fun r q=>∃ (A:Option aK) (n c:Nat),r= .slice A n c/\K (.slice A n c) q):=by
   refine Pe p W ?_
   grind
  refine ⟨fun s q=>q=h/\∃ j:Nat,s=[I ((j:Int)-1)]/\j<=k,fun s _=>(iAt s 0+1).toNat,⟨rfl,k,by rw [B9 o o],bH _⟩,?_⟩
  rintro last q ⟨rfl,j,hs,hj⟩
  obtain rfl:last=(j:Int)-1:=gz0
  refine C0 (fun M=>?_) (fun M=>C0 (fun _=>b) (fun e=>absurd (show (j:Int)-1<0 from o) e))
  obtain ⟨i,rfl⟩:∃ i,j=i+1:=⟨j-1,o⟩
  have L:((i+1:Nat):Int)-1=(i:Int):=o
  simp only [L,aC,bC,G9,B3w (show i<=30 from o)]
  refine C0 (fun e=>absurd e o) (fun _=>C0 (fun E=>?_) (fun E=>?_))
  ·refine ⟨⟨trivial,i,by rw [B9 o o],o⟩,?_⟩
   simp only [iAt,aE]
   rw [B9 o o]
   omega
  refine C0 (fun e=>absurd e o) (fun _=>C0 (fun _=>b) (fun D=>C0 (fun e=>absurd e o) (fun _=>?_)))
  have T:C3 ((l.length:Int)-((19*2^i:Nat):Int))=((l.length-19*2^i:Nat):Int):=by rw [B9 o o];omega
  simp only [T,aC,N2,aX,bC]
  obtain ⟨a,PA',pn,S,ha,m,g,Mp⟩:=z.at (i:=i) o
  refine ⟨⟨o,o⟩,⟨o,o⟩,a,ha,o,o,_,_,_,by rw [aV];exact m,?_⟩
  have ac:=Mp.tenP_le
  have f:∀ c∈l.take (l.length-19*2^i),I0 c:=fun c m=>p c (bM m)
  have d:∀ c∈l.drop (l.length-19*2^i),I0 c:=fun c m=>p c (List.mem_of_mem_drop m)
  have ad:(l.take (l.length-19*2^i)).length=l.length-19*2^i:=gz0
  have u:(l.drop (l.length-19*2^i)).length=19*2^i:=gz0
  have F:J7 l=J7 (l.take (l.length-19*2^i))*Jl i+J7 (l.drop (l.length-19*2^i)):=by
   have:=Ew (l.take (l.length-19*2^i)) (l.drop (l.length-19*2^i))
   rw [cH,u] at this
   exact this
  have N:=Xb p
  have C:=Xb f
  have y:=Xb d
  refine ih i o f o (z.take o) o o ?_
  intro A1 n1 c1 E t H M1
  refine ⟨_,_,_,rfl,t,?_⟩
  have O:=M1.len_le dc C
  refine H9 M1 (Mp.mono t) H g o o ?_
  intro A2 n2 c2 h2 B k2 M2
  refine ⟨_,_,_,rfl,B,⟨o,o⟩,⟨o,o⟩,?_⟩
  have aa:=M2.len_le dc (Int.lt_of_le_of_lt (Int.ofNat_le.2 o) N)
  rw [aG o]
  refine ih i o d o ((z.mono (B0 t B)).take o) o o ?_
  intro A3 n3 c3 h3 w Q M3
  refine ⟨_,_,_,rfl,w,?_⟩
  have V:=M3.len_le dc y
  refine S4 (M2.mono w) M3 k2 Q o o ?_
  intro A4 n4 c4 h4 G k4 M4
  refine ⟨_,_,_,rfl,G,R _ _ _ _ (B0 t (B0 B (B0 w G))) k4 ?_⟩
  grind
section
variable {h g:aM} {K:VP} {A XA:Option aK} {n c:Nat} {eT:aO} {l:List UInt8}
def Yk{hs:aM}{ss:List (Option aK × Nat × Nat)}{s:Option aK × Nat × Nat}(h3:∀ i s,ss[i]? = some s->s.2.1<=s.2.2/\Mw hs s.1 s.2.1 (Jl i:Int))(h4:s.2.1<=s.2.2/\Mw hs s.1 s.2.1 (Jl ss.length:Int)):∀ i t,(ss++[s])[i]? = some t->t.2.1<=t.2.2/\Mw hs t.1 t.2.1 (Jl i:Int):=by
 grind
def Vl{hs:aM}{b:Nat}{e:aO}: ∀ i (t:Option aK × Nat × Nat),[((some ⟨b,0,none⟩:Option aK),1,1)][i]? = some t->t.2.1<=t.2.2/\Mw (hs.put b (.cells #[U 10000000000000000000] e)) t.1 t.2.1 (Jl i:Int):=by
 intro i t a
 rcases i with _|i
 ·simp at a
  subst a
  refine ⟨bH _,[10000000000000000000],rfl,SlI.new _ _ _ _ _,?_,?_,?_⟩
  ·intro x c;grind
  ·unfold Norm;simp
  rfl
 grind
def Ra(hd:∀ c∈l,I0 c)(hl:l.length<=100000000)(hK:∀ A n c h',h.le h'->n<=c->Mw h' A n (J7 l:Int)->K (.slice A n c) h'):aH prog 188 #[.string (bs l)] h K:=by
 refine (fnk func188 [(4,[3],[],[.slice none 0 0])]) ?_
 rw [I7]
 refine C0 (fun h5=>?_) (fun _=>?_)
 ·refine Q1 Q6 rfl ?_
  intro q w
  refine ⟨_,_,_,rfl,?_⟩
  refine Cs A3f (Priv.nil _ _ _ none) rfl rfl o o ?_
  intro A1 c1 h1 Q m O
  refine ⟨fun s t=>∃ (d:List (Option aK × Nat × Nat)) (PA:Option aK) (k u:Nat) (g:aM),s=[.slice PA k u]/\bO t g 217 1 PA k u (d.map slT)/\d.length=k/\0<k/\h.le g/\(∀ i s,d[i]? = some s->s.2.1<=s.2.2/\Mw g s.1 s.2.1 (Jl i:Int))/\2^(k-1)<=l.length,fun s _=>match s with|[.slice _ n _]=>l.length-n|_=>0,⟨[(some ⟨q,0,none⟩,1,1)],A1,1,c1,Q,rfl,O,rfl,o,B0 (Heap.le_put _ w) m,fun i s e=>⟨(Vl (hs:=h) (b:=q) (e:=195) i s e).1,(Vl (hs:=h) (b:=q) (e:=195) i s e).2.mono m⟩,o⟩,?_⟩
  rintro PA k u t ⟨d,PA',k',L,g,hs,p,B,N,z,j,hkl⟩
  obtain ⟨rfl,rfl,rfl⟩:=hs
  have F:k-1<27:=by
   by_cases f:k-1<27
   ·exact f
   ·have:2^27<=2^(k-1):=aI dc o
    omega
  rw [aC,B3w (show k<=30 from o)]
  have T:C3 ((k:Int)-1)=((k-1:Nat):Int):=by rw [B9 o o];omega
  have y:Pws t PA k:=⟨d,B,p.slV,fun i s e=>⟨(j i s e).1,(j i s e).2.mono p.le⟩⟩
  refine C0 (fun e=>absurd e o) (fun _=>C0 (fun R=>?_) (fun R=>?_))
  ·obtain ⟨a,V,f⟩:=p.slV.at (i:=k-1) gz0
   rw [List.getElem_map] at f
   obtain ⟨C,M⟩:=j (k-1) (d[k-1]'o) (bD o)
   generalize d[k-1]'o=s at *
   dsimp only;rw [T]
   refine ⟨a,V,o,o,_,_,_,by rw [aC,aV];exact f,?_⟩
   have D:=M.tenP_le
   refine p.call ?_
   refine H9 M M C C o o ?_
   intro A2 G c2 g2 E S M2 h2 H
   refine ⟨_,_,_,rfl,?_⟩
   refine Cs A3f H rfl rfl o o ?_
   intro A3 c3 h3 X r p3
   refine ⟨⟨d++[(A2,G,c2)],A3,k+1,c3,X,rfl,?_,gz0,o,B0 z (B0 E r),?_,?_⟩,?_⟩
   ·grind
   ·refine Yk (fun i s e=>⟨(j i s e).1,(j i s e).2.mono (B0 E r)⟩) ⟨S,?_⟩
    rw [B,show Jl k=Jl (k-1)*Jl (k-1) by rw [<- Yj];grind,cG]
    exact M2.mono r
   ·grind
   grind
  ·refine Ge k hd hl y p.2.1 o ?_
   intro A n c h' W f M
   exact ⟨_,_,_,rfl,hK _ _ _ _ (B0 z (B0 p.le W)) f M⟩
 ·refine Ge 0 hd hl ⟨[],rfl,SlV.nil,by simp⟩ o o ?_
  grind
def Hj(hd:∀ c∈l,I0 c)(hl:l.length<=100000000)(hK:∀ A n c h',h.le h'->ZI h' false A n c (J7 l:Int)->K (.agg #[.bool false,.slice A n c]) h'):aH prog 141 #[.string (bs l)] h K:=by
 refine (fnk func141 (own:=[2])) ?_
 refine Ra hd hl ?_
 intro A n c h' b a M
 refine ⟨_,_,_,rfl,hK _ _ _ _ b ⟨a,?_,?_⟩⟩
 ·assumption
 rfl
end
def Priv.le_put'{h g:aM}{e:aO}{s:Nat}{A:Option aK}{n c:Nat}{xs:List bN}(p:bO h g e s A n c xs){b:Nat}(hb:h b=none)(o:Obj):g.le (g.put b o):=by
 intro k f d
 have a:k≠b:=by
  rintro rfl
  rw [p.le k f d] at hb;cases hb
 rw [B7 _ _ a];exact d
def A6j{n:Int}(h0:9223372036854775808<=n)(h1:n<18446744073709551616):C3 n=n-18446744073709551616:=by
 unfold C3 IntKind.wrap
 simp only [IntKind.signed,IntKind.bits]
 grind
section
variable {h g:aM} {K:VP} {A XA:Option aK} {n c:Nat} {eT:aO} {l:List UInt8}
def B8o{v xn:Nat}(hv:(v:Int)<b64^xn):(dd v).length<=20*xn:=by
 refine R9.2 ?_
 rw [Nat.pow_mul]
 have a:((v:Nat):Int)<((18446744073709551616^xn:Nat):Int):=by assumption
 exact aP (Int.ofNat_lt.1 a) (cK dc _)
def Fk{xn xc v:Nat}(gp:Gp g)(p:bO h g eT 1 A n c (yv l))(M:Mw g XA xn (v:Int))(hxc:xn<=xc)(hx:xn<=10000000)(hn:n<=200000000)
 (hK:∀ A' n' c' e3 g' h',Ext g eT A n c l (Q3 v) A' n' c' e3 g' h'->K (.slice A' n' c') h'):aH prog 266 #[.slice A n c,.slice XA xn xc] h K:=by
 have h0:=M.len_zero dc
 refine (fnk func266 [(6,[5],[],[.slice none 0 0])]) ?_
 refine D8 (fun e=>?_) (fun e=>?_)
 ·obtain rfl:v=0:=o
  refine Eo (ch:=48) rfl p o ?_
  assumption
 ·have R:v≠0:=o
  refine D8 (fun X=>?_) (fun X=>?_)
  ·obtain ⟨xs,N,sx,dx,nx,G⟩:=M
   obtain ⟨w,rfl⟩:∃ w,xs=[w]:=by
    rcases xs with _|⟨w,_|⟨w',r⟩⟩
    ·grind
    ·grind
    grind
   rw [W5] at G
   subst G
   refine (SlI.mono p.le sx).load N o o ?_
   have t:=dx v (by simp)
   refine Fj (gp.mono p.le) p gz0 o ?_
   grind
  ·have al:=B8o (M.lt dc)
   have af:(pad 0 v).length<=200000000:=by rw [A3w];omega
   refine Q1 Q6 rfl ?_
   intro B H
   refine ⟨_,_,_,rfl,?_⟩
   have p1:=p.put H (.cells #[U 10000000000000000000] 195)
   have l1:=p.le_put' H (.cells #[U 10000000000000000000] 195)
   have w1:=fun i s e=>Vl (hs:=g) (b:=B) (e:=195) i s e
   generalize h.put B (Obj.cells #[U 10000000000000000000] 195)=h1 at *
   generalize g.put B (Obj.cells #[U 10000000000000000000] 195)=g1 at *
   refine Q1 A3f rfl ?_
   intro b2 S
   refine ⟨_,_,_,rfl,?_⟩
   have split:∀ {y:aM} {m:List (Option aK × Nat × Nat)} {PA:Option aK} {k u:Nat} {f d:aM},bO y f 217 1 PA k u (m.map slT)->bO f d eT 1 A n c (yv l)->m.length=k->g.le d->(∀ i s,m[i]? = some s->s.2.1<=s.2.2/\Mw d s.1 s.2.1 (Jl i:Int))->k<=26->
    aH prog 293 #[.slice A n c,.slice XA xn xc,I (0:Int),.slice PA k u] y (fun r aa=>∃ (A1:Option aK) (n1 c1:Nat),r= .slice A1 n1 c1/\K (.slice A1 n1 c1) aa):=by
    intro y m PA k u f d z C E D t j
    obtain ⟨g3,O,q⟩:=z.swap C
    have F:=B0 D q.le
    refine Ph k (W:=0) (gp.mono F) O (M.mono F) hxc hx ⟨m,E,q.slV,fun i s e=>⟨(t i s e).1,(t i s e).2.mono q.le⟩⟩ q.2.1 j (.inl rfl) o ?_
    intro A' n' c' e2 g' h' x
    refine ⟨_,_,_,rfl,hK _ _ _ e2 g' _ ?_⟩
    rw [A3w,<- Ci R] at x
    exact x.weak F
   refine ⟨fun s y=>∃ (m:List (Option aK × Nat × Nat)) (PA:Option aK) (k u:Nat) (f d:aM),s=[.slice PA k u]/\bO y f 217 1 PA k u (m.map slT)/\bO f d eT 1 A n c (yv l)/\m.length=k/\0<k/\g.le d/\(∀ i s,m[i]? = some s->s.2.1<=s.2.2/\Mw d s.1 s.2.1 (Jl i:Int))/\2^(k-1)<=2*xn,fun s _=>match s with|[.slice _ n _]=>xn-n|_=>0,⟨[(some ⟨B,0,none⟩,1,1)],_,1,1,h1,g1,rfl,⟨by simp,by simp,.inr ⟨b2,[.slice (some ⟨B,0,none⟩) 1 1],rfl,S,rfl,by simp,by simp⟩⟩,p1,rfl,o,l1,w1,o⟩,?_⟩
   rintro PA k u y ⟨m,PA',k',ah,f,d,hs,z,C,E,ai,D,t,ak⟩
   obtain ⟨rfl,rfl,rfl⟩:=hs
   have j:k<=26:=by
    by_cases L:k<=26
    ·exact L
    ·have h1:2^26<=2^(k-1):=aI dc o
     omega
   refine C0 (fun aj=>?_) (fun _=>split z C E D t j)
   have X:C3 ((k:Int)-1)=((k-1:Nat):Int):=by rw [B9 o o];omega
   obtain ⟨a,ha,L⟩:=z.slV.at (i:=k-1) gz0
   rw [List.getElem_map] at L
   obtain ⟨h4,Mk⟩:=t (k-1) (m[k-1]'o) (bD o)
   generalize m[k-1]'o=s at *
   simp only [X,aC,aV]
   refine ⟨a,ha,o,o,_,_,_,L,?_⟩
   have ae:=Mk.tenP_ge
   have am:=Mk.tenP_le
   have e2:C3 (2*(s.2.1:Int))=2*(s.2.1:Int):=B9 o o
   refine C0 (fun h5=>?_) (fun _=>split z C E D t j)
   refine ⟨a,ha,o,o,_,_,_,L,?_⟩
   refine z.call (C.call ?_)
   refine H9 Mk Mk h4 h4 o o ?_
   intro A2 m2 c2 g2 l2 k2 M2 ad ac ag T
   refine ⟨_,_,_,rfl,?_⟩
   refine Cs A3f T rfl rfl o o ?_
   intro A3 c3 h3 g3 F p3
   obtain ⟨g4,Q,V⟩:=ac.after F
   have hm:2^k=2*2^(k-1):=by
    obtain ⟨i,rfl⟩:∃ i,k=i+1:=⟨k-1,o⟩
    grind
   refine ⟨⟨m++[(A2,m2,c2)],A3,k+1,c3,g3,g4,rfl,?_,V,gz0,o,B0 D (B0 l2 Q),?_,?_⟩,?_⟩
   ·rw [cR];exact p3
   ·refine Yk (fun i s e=>⟨(t i s e).1,(t i s e).2.mono (B0 l2 Q)⟩) ⟨k2,?_⟩
    rw [E,show Jl k=Jl (k-1)*Jl (k-1) by rw [<- Yj];grind,cG]
    exact M2.mono Q
   ·grind
   omega
def B01{z:Int}{s:Bool}{xn xc m:Nat}(i:ZI h s XA xn xc z)(hz:ZB m z)(hm:m<=100000000):xn<=10000000:=by
 obtain ⟨k,hk⟩:∃ k,k=10000000:=⟨_,rfl⟩
 rw [<- hk]
 refine i.mag.len_le dc ?_
 rw [Ix]
 have a:(z.natAbs:Int)<2^m:=by
  have:((z.natAbs:Nat):Int)<((2^m:Nat):Int):=Int.ofNat_lt.2 hz
  assumption
 have b:=D5 (B:=2) dc (show m<=64*k from o)
 omega
def Fx{s:Bool}{xn xc:Nat}{z:Int}(gp:Gp g)(p:bO h g eT 1 A n c (yv l))(i:ZI g s XA xn xc z){m:Nat}(hz:ZB m z)(hm:m<=100000000)(hn:n<=100000000)
 (hK:∀ A' n' c' e3 g' h',Ext g eT A n c l (Nc z) A' n' c' e3 g' h'->K (.slice A' n' c') h'):aH prog 222 #[.agg #[.bool s,.slice XA xn xc],.slice A n c] h K:=by
 have d:=B01 i hz hm
 refine (fnk func222 (own:=[2])) ?_
 refine Br.of (fun e=>?_) (fun e=>?_)
 ·have a:z<0:=by have:=i.sgn;grind
  rw [Pp a] at hK
  refine Eo (ch:=45) rfl p o ?_
  intro A1 u c1 t r f b
  have:=b.len
  refine Fk (gp.mono b.le) b.priv (i.mag.mono b.le) i.cap d gz0 ?_
  intro A2 y c2 w q k j
  exact ⟨_,_,_,rfl,hK _ _ _ _ _ _ (b.trans j)⟩
 ·have a:¬ z<0:=by have:=i.sgn;grind
  rw [Ju a] at hK
  refine Fk gp p i.mag i.cap d o ?_
  grind
def Xt{s:Bool}{xn xc:Nat}{z:Int}(gp:Gp h)(i:ZI h s XA xn xc z){m:Nat}(hz:ZB m z)(hm:m<=100000000)(hK:K (.string (bs (Nc z))) h):aH prog 221 #[.agg #[.bool s,.slice XA xn xc]] h K:=by
 refine FCall.pure ((fnk func221 (own:=[1])) ?_)
 refine Fx (l:=[]) (eT:=5) gp (Priv.nil _ _ _ _) i hz hm o ?_
 intro A' a c e d b x
 refine ⟨_,_,_,rfl,?_⟩
 have f:=x.len
 refine Hg Di.und Bh U1 x.priv.slV gz0 ⟨_,rfl,?_⟩
 exact ⟨B0 x.le x.priv.le,hK⟩
def A1b{s:Bool}{xn xc:Nat}{z:Int}(i:ZI h s XA xn xc z)(hK1: -9223372036854775808<=z->z<9223372036854775808->K (.tuple #[I z,.bool true]) h)(hK0:¬ (-9223372036854775808<=z/\z<9223372036854775808)->K (.tuple #[I 0,.bool false]) h):aH prog 220 #[.agg #[.bool s,.slice XA xn xc]] h K:=by
 have A:=i.zeroIff
 have l:=Dk i.sgn
 refine (fnk func220 (own:=[1])) ?_
 refine D8 (fun e=>?_) (fun e=>?_)
 ·grind
 ·obtain ⟨g,a,m,y,u,b⟩:=i.mag
  refine m.load a o o ?_
  rw [show ((0:Int)).toNat=0 from rfl]
  refine C0 (fun k=>?_) (fun k=>?_)
  ·refine hK0 ?_
   have j:=i.mag.ge dc o
   have t:b64^1<=b64^(xn-1):=D5 dc o
   grind
  ·obtain ⟨w,rfl⟩:∃ w,g=[w]:=by
    rcases g with _|⟨w,_|⟨q,r⟩⟩
    ·grind
    ·grind
    grind
   rw [W5] at b
   have p:[w].getD 0 0=w:=rfl
   rcases l with ⟨rfl,n⟩|⟨rfl,n⟩
   ·refine Br.of (fun _=>?_) (fun f=>by cases f)
    refine C0 (fun c=>?_) (fun c=>?_)
    ·have:C3 (C7 (0-w))=z:=by rw [F1,A6j o o];omega
     grind
    ·refine Br.of (fun d=>by cases d) (fun _=>?_)
     grind
   ·refine Br.of (fun f=>by cases f) (fun _=>?_)
    refine Br.of (fun _=>?_) (fun d=>by cases d)
    refine C0 (fun c=>?_) (fun c=>?_)
    ·have:C3 w=z:=by rw [B9 o o];omega
     grind
    grind
end
def B3t(q:Rat)(f:Int):(q-f).num=q.num-f*q.den/\(q-f).den=q.den:=by
 have b:aQ (q.num-f*q.den).natAbs q.den=1:=by
  have a:aR (q.num-f*q.den) q.den=aR q.num q.den:=Int.gcd_sub_mul_right_left _ _ _
  have c:aR q.num q.den=1:=by
   have:=q.reduced
   assumption
  rw [c] at a
  assumption
 have e:q-f=⟨q.num-f*q.den,q.den,q.den_nz,b⟩:=by
  rw [Rat.sub_def',Rat.mk_eq_mkRat];simp
 grind
def A8a(a b:Rat):(a*b).num=a.num.tdiv (aQ a.num.natAbs b.den:Nat)*b.num.tdiv (aQ b.num.natAbs a.den:Nat)/\(a*b).den=a.den/(aQ b.num.natAbs a.den)*(b.den/(aQ a.num.natAbs b.den)):=by
 show (Rat.mul a b).num=_/\(Rat.mul a b).den=_
 delta Rat.mul
 simp only [Int.divExact_eq_tdiv,Nat.divExact_eq_div,and_self]
def Uy(a b:Rat)(h:a.den.gcd b.den=1):(a+b).num=a.num*b.den+b.num*a.den/\(a+b).den=a.den*b.den:=by
 show (cV a b).num=_/\(cV a b).den=_
 delta cV
 grind
def Ux(a b:Rat)(h:a.den.gcd b.den≠1){g r:Nat}{z:Int}(hg:g=a.den.gcd b.den)(hz:z=a.num*(b.den/g:Nat)+b.num*(a.den/g:Nat))(hr:r=z.natAbs.gcd g):(a+b).num=z.tdiv r/\(a+b).den=a.den/g*(b.den/r):=by
 subst hg hz
 have c:r∣b.den:=by rw [hr];exact Nat.dvd_trans (bX ..) (bX ..)
 show (cV a b).num=_/\(cV a b).den=_
 delta cV
 simp only [h,dif_neg,not_false_eq_true]
 rw [Rat.maybeNormalize_eq]
 subst hr
 refine ⟨?_,Nat.mul_div_assoc _ c⟩
 simp only [Int.divExact_eq_tdiv]
def Lw(a:Rat)(z:Int):(a+z).num=z*a.den+a.num/\(a+z).den=a.den:=by
 have:=B3t a (-z)
 have e:a - -(z:Rat)=a+z:=gz0
 grind
def Up{q:Rat}(h:q.den=1):q=(q.num:Rat):=by
 apply Rat.ext
 ·simp
 assumption
abbrev dgt(c:UInt8):Bool:=decide (I0 c)
def Jx(l:List UInt8):∀ c∈l.takeWhile dgt,I0 c:=by
 induction l with
 | nil=>simp
 | cons d r ih=>
  intro c b
  by_cases a:I0 d
  ·simp [a] at b
   grind
  simp_all
def B15(l:List UInt8):Bool:=decide ([45] <+: l)
def Hv(l:List UInt8):List UInt8:=if [45] <+: l then l.drop 1 else l
def A3r(l:List UInt8):l=(if B15 l then [45] else [])++Hv l:=by
 unfold B15 Hv
 by_cases h:[45] <+: l
 ·obtain ⟨t,rfl⟩:=h;simp
 grind
def A7r(l:List UInt8):B15 l=(l.head? == some 45):=by
 unfold B15
 cases l with
 | nil=>simp
 | cons c r=>
  grind
def Form.parts{l:List UInt8}{neg:Bool}{a b:List UInt8}(f:Form l neg a b):neg=B15 l/\a=(Hv l).takeWhile dgt/\(if b=[] then [] else 47::b)=(Hv l).dropWhile dgt:=by
 have j:neg=B15 l:=by rw [A7r];exact f.head
 have e:=A3r l
 have i:=e.symm.trans f.eq
 have g:∀ c,(if b=[] then [] else 47::b:List UInt8).head? = some c->¬ I0 c:=by
  intro c d
  split at d
  ·grind
  ·simp at d;subst d;decide
 have:=Ej f.da g
 grind
section
variable {h g:aM} {K:VP} {l:List UInt8}
def Ih(hl:l.length<=1000000000)(hK:K (.tuple #[.string (bs (l.takeWhile dgt)),.string (bs (l.dropWhile dgt))]) h):aH prog 187 #[.string (bs l)] h K:=by
 refine (fnk func187 [(2,[4],[],[I 0])] (cs:=[(4,[4],[],[I 0])])) ?_
 simp only [I7]
 refine ⟨fun L d=>L=[I (((l.takeWhile dgt).length:Nat):Int)]/\d=h,?_,?_⟩
 ·refine ⟨fun L d=>∃ k:Nat,L=[I k]/\d=h/\k<=l.length/\(∀ c∈l.take k,I0 c),fun L _=>l.length-(iAt L 0).toNat,⟨0,rfl,rfl,o,by simp⟩,?_⟩
  rintro n d ⟨k,w,rfl,z,f⟩
  obtain rfl:n=(k:Int):=gz0
  have a:(∀ c,(l.drop k).head? = some c->¬ I0 c)->[I (k:Int)]=[I (((l.takeWhile dgt).length:Nat):Int)]/\d=d:=by
   intro u
   have:=Ej f u
   simp_all
  refine C0 (fun s=>?_) (fun s=>?_)
  ·have hkl:k<l.length:=o
   have b:(bs l)[(k:Int).toNat]? = some l[k]:=by rw [aC,Uu,bD hkl]
   have m:(l.drop k).head? = some l[k]:=by simp_all
   refine ⟨l[k],⟨o,b⟩,C0 (fun i=>?_) (fun i=>?_)⟩
   ·refine ⟨l[k],⟨o,b⟩,C0 (fun q=>?_) (fun q=>?_)⟩
    ·rw [B9 o o]
     refine ⟨⟨k+1,rfl,rfl,o,?_⟩,by simp only [iAt,aE];omega⟩
     rw [bJ hkl]
     intro c e
     rcases List.mem_append.1 e with j|j
     ·grind
     ·rw [List.mem_singleton.1 j];exact ⟨o,o⟩
    ·exact a (fun c e=>by rw [m] at e;cases e;intro f;exact q (by have:=f.2;omega))
   ·exact a (fun c e=>by rw [m] at e;cases e;intro f;exact i (by have:=f.1;omega))
  grind
 ·rintro n d ⟨w,rfl⟩
  obtain rfl:n=(((l.takeWhile dgt).length:Nat):Int):=gz0
  have r:(l.takeWhile dgt).length<=l.length:=(List.takeWhile_sublist _).length_le
  have g:l.take (l.takeWhile dgt).length=l.takeWhile dgt:=by
   conv=>lhs;rw [<- bK (p:=dgt) (l:=l)]
   rw [bK,List.prefix_iff_eq_take.1 (List.takeWhile_prefix _)]
   grind
  have y:l.drop (l.takeWhile dgt).length=l.dropWhile dgt:=by
   have t:l.takeWhile dgt++l.drop (l.takeWhile dgt).length=l.takeWhile dgt++l.dropWhile dgt:=by
    rw [bK]
    conv=>lhs;lhs;rw [<- g]
    exact cH _ _
   exact List.append_cancel_left t
  refine ⟨⟨o,o⟩,⟨o,o⟩,?_⟩
  rw [aC,N2,N2,aX,bC,g,y,aG gz0]
  exact hK
def Y5(a:List UInt8):((bs a).toList==({ data:=#[] }:ByteArray).toList)=decide (a=[]):=Ij a []
def Nh(hl:l.length<=1000000000)(hK1:∀ neg a b,Form l neg a b->K (.tuple #[.agg #[.bool neg,.string (bs a),.string (bs b)],.bool true]) h)(hK0:(∀ neg a b,¬ Form l neg a b)->∀ neg a b,K (.tuple #[.agg #[.bool neg,.string (bs a),.string (bs b)],.bool false]) h):aH prog 140 #[.string (bs l)] h K:=by
 refine (fnk func140 (cs:=[(8,[31],[],[.bool false])]) (own:=[2,4])) ?_
 refine Ti (q:=[45]) ⟨_,_,rfl,?_⟩
 have aa:(Hv l).length<=l.length:=by unfold Hv;grind
 show aH prog 187 #[.string (bs (Hv l))] h _
 refine Ih o ⟨_,_,rfl,?_⟩
 show Br _ _ _
 have y:Hv l=(Hv l).takeWhile dgt++(Hv l).dropWhile dgt:=List.takeWhile_append_dropWhile.symm
 have A:∀ c∈(Hv l).takeWhile dgt,I0 c:=Jx _
 have j:∀ neg a b,Form l neg a b->neg=B15 l/\a=(Hv l).takeWhile dgt/\(if b=[] then [] else 47::b)=(Hv l).dropWhile dgt:=fun neg a b f=>f.parts
 have G:=A3r l
 show Br _ _ _
 have B:decide ([45] <+: l)=B15 l:=rfl
 rw [B]
 generalize B15 l=neg at *
 generalize (Hv l).takeWhile dgt=a at *
 generalize (Hv l).dropWhile dgt=r at *
 generalize Hv l=t at *
 subst y
 have N:((bs a).toList==({ data:=#[48] }:ByteArray).toList)=decide (a=[48]):=Ij a [48]
 rw [N,Y5,Y5]
 refine C0 (fun S=>?_) (fun S=>?_)
 ·subst S
  refine Br.not (Br.of (fun hn=>?_) (fun hn=>?_))
  ·refine hK0 ?_ _ _ []
   intro C p g f
   obtain ⟨rfl,rfl,_⟩:=j _ _ _ f
   rcases f.ha with d|d
   ·grind
   grind
  ·subst hn
   by_cases hr:r=[]
   ·subst hr
    refine hK1 false [48] [] ⟨by assumption,o,by simp,by simp,.inr ⟨rfl,rfl,rfl⟩,by simp,by simp⟩
   ·rw [decide_eq_false hr]
    refine hK0 ?_ _ _ []
    intro C p g f
    obtain ⟨rfl,rfl,w⟩:=j _ _ _ f
    rcases f.ha with d|d
    ·grind
    grind
 ·refine ⟨fun L W=>L=[.bool (decide (a=[]\/a.head? = some 48))]/\W=h,?_,?_⟩
  ·refine C0 (fun d=>⟨by simp [d],rfl⟩) (fun d=>?_)
   obtain ⟨c,i,rfl⟩:=aW d
   refine ⟨c,⟨o,by rfl⟩,?_,rfl⟩
   congr 2
   rw [Bool.eq_iff_iff,beq_iff_eq,decide_eq_true_iff]
   simp only [reduceCtorEq,false_or,cT,aT]
   constructor
   ·intro e;apply UInt8.toNat_inj.1;grind
   ·rintro rfl;rfl
  rintro H W ⟨hL,rfl⟩
  obtain rfl:H=decide (a=[]\/a.head? = some 48):=gz0
  refine C0 (fun d=>?_) (fun d=>?_)
  ·refine hK0 ?_ _ _ []
   intro C p g f
   obtain ⟨rfl,rfl,_⟩:=j _ _ _ f
   rcases d with d|d
   ·exact f.ne d
   ·rcases f.ha with w|w
    ·grind
    grind
  ·have k:a≠[]:=fun e=>d (.inl e)
   have u:a.head? ≠ some 48:=fun e=>d (.inr e)
   refine C0 (fun w=>?_) (fun w=>?_)
   ·exact hK1 neg a [] ⟨gz0,A,by simp,k,.inl u,by simp,by simp⟩
   ·obtain ⟨c,i,rfl⟩:=aW w
    refine ⟨c,⟨o,by rfl⟩,E6 (fun R=>?_) (fun R=>?_)⟩
    ·refine hK0 ?_ _ _ []
     intro C p g f
     obtain ⟨rfl,rfl,m⟩:=j _ _ _ f
     by_cases E:g=[]
     ·grind
     ·rw [iN E] at m
      simp at m
      exact R (by rw [<- m.1];rfl)
    ·have hc:c=47:=by apply UInt8.toNat_inj.1;grind
     subst hc
     refine ⟨⟨o,by rw [I7];grind⟩,?_⟩
     rw [N2,show ((1:Int)).toNat=1 from rfl,I7,aG (by simp),List.drop_succ_cons,aX]
     refine Ih gz0 ⟨_,_,rfl,?_⟩
     have V:i=i.takeWhile dgt++i.dropWhile dgt:=List.takeWhile_append_dropWhile.symm
     have F:∀ c∈i.takeWhile dgt,I0 c:=Jx _
     have Q:∀ g:List UInt8,(∀ c∈g,I0 c)->g=i->i.takeWhile dgt=g/\i.dropWhile dgt=[]:=by
      intro g hd e
      have:=Ej (r:=[]) hd (by simp)
      grind
     generalize i.takeWhile dgt=b at *
     generalize i.dropWhile dgt=s at *
     have no:(s≠[]\/b=[]\/b.head? = some 48\/b=[49])->∀ neg' p g,¬ Form (((if neg=true then [45] else [])++(a++47::i))) neg' p g:=by
      rintro z C p g f
      rw [<- G] at f
      obtain ⟨rfl,rfl,m⟩:=j _ _ _ f
      by_cases E:g=[]
      ·grind
      ·rw [iN E] at m
       simp at m
       obtain ⟨e6,e7⟩:=Q g f.db m
       subst e6
       rcases z with n|n|n|n
       ·grind
       ·grind
       ·exact f.hb n
       ·exact f.b1 n
     rw [Y5,Y5]
     have M:((bs b).toList==({ data:=#[49] }:ByteArray).toList)=decide (b=[49]):=Ij b [49]
     rw [M]
     refine C0 (fun n=>?_) (fun n=>hK0 gz0 _ _ _)
     refine Br.not (C0 (fun T=>hK0 gz0 _ _ _) (fun T=>?_))
     obtain ⟨c,D,rfl⟩:=aW T
     refine ⟨c,⟨o,by rfl⟩,E6 (fun X=>?_) (fun X=>?_)⟩
     ·by_cases O:c::D=[49]
      ·rw [decide_eq_true O]
       exact hK0 gz0 _ _ _
      ·rw [decide_eq_false O]
       refine hK1 neg a (c::D) ⟨gz0,A,F,k,.inl u,?_,O⟩
       intro e;simp at e;exact X (by rw [e];rfl)
     ·have hh:(c::D).head? = some 48:=by
       simp only [cT,aT]
       apply UInt8.toNat_inj.1;grind
      grind
end
def B26:(prog.info? 310).map (fun i=>i.zero)=some (some (.agg (bG 48 (.int .u8 0)))):=by kernel_rfl
def A0i{x y:Int}(hy:0<y):(bV x y).num=x.tdiv (aR x y)/\((bV x y).den:Int)=y.tdiv (aR x y):=by
 have b:(aR x y:Int)∣x:=Int.gcd_dvd_left ..
 have a:(aR x y:Int)∣y:=Int.gcd_dvd_right ..
 constructor
 ·rw [Rat.num_divInt,dB hy,Int.one_mul,Int.gcd_comm,cY b]
 ·rw [Rat.den_divInt,iN o,Int.gcd_comm,Int.natCast_ediv,Int.natAbs_of_nonneg o,cY a]
def Vi{q:Rat}(h:q.den=1):E7 q=Nc q.num:=by unfold E7;grind
def Yc{q:Rat}(h:q.den≠1):E7 q=Nc q.num++[47]++Nc (q.den:Int):=by
 unfold E7;rw [iN h,Ju (i:=(q.den:Int)) o,Int.natAbs_natCast];simp
section
variable {h g:aM} {K:VP} {l:List UInt8}
def B9a{k:Nat}(h:k<=18):10^k<=1000000000000000000:=bI (aI dc h) dc
def Fi(hd:∀ c∈l,I0 c)(hl:l.length<=18)(hK:K (I (J7 l:Int)) h):aH prog 184 #[.string (bs l)] h K:=by
 refine (fnk func184 [(3,[3,7],[],[I 0,I 0])]) ?_
 simp only [I7]
 refine ⟨fun L d=>∃ k:Nat,L=[I (J7 (l.take k):Int),I k]/\d=h/\k<=l.length,fun L _=>l.length-(iAt L 1).toNat,⟨0,rfl,rfl,o⟩,?_⟩
 rintro n q d ⟨k,i,rfl,j⟩
 obtain ⟨rfl,rfl⟩:=i
 refine C0 (fun f=>?_) (fun f=>?_)
 ·have hkl:k<l.length:=o
  have b:=hd l[k] (bZ hkl)
  have a:=Ev (l:=l.take (k+1)) (fun c g=>hd c (bM g))
  rw [bL,cF o] at a
  have p:=B9a (k:=k+1) o
  have m:J7 (l.take (k+1))=10*J7 (l.take k)+(l[k].toNat-48):=by rw [bJ hkl,Gm]
  unfold I0 at b
  refine ⟨l[k],⟨o,by rw [aC,Uu,bD hkl]⟩,?_⟩
  have e:C3 (C3 (10*((J7 (l.take k):Nat):Int))+C3 (wu8 (((l[k].toNat:Nat):Int)-48)))=((J7 (l.take (k+1)):Nat):Int):=by
   rw [Tp o o,B9 (n:=((l[k].toNat:Nat):Int)-48) o o,B9 (n:=10*((J7 (l.take k):Nat):Int)) o o,B9 o o]
   omega
  rw [e,B9 (n:=(k:Int)+1) o o]
  exact ⟨⟨k+1,rfl,rfl,o⟩,by simp only [iAt,aE,aF];omega⟩
 grind
def Yh{a b:Nat}(hK:K (I (aQ a b:Int)) h):aH prog 185 #[I (a:Int),I (b:Int)] h K:=by
 refine (fnk func185 [(1,[0,1],[],[I 0,I 0])]) ?_
 refine ⟨fun L c=>∃ x y:Nat,L=[I x,I y]/\c=h/\aQ x y=aQ a b,fun L _=>(iAt L 1).toNat,⟨a,b,rfl,rfl,rfl⟩,?_⟩
 rintro i g c ⟨x,y,l,rfl,k⟩
 obtain ⟨rfl,rfl⟩:i=(x:Int)/\g=(y:Int):=gz0
 refine E6 (fun d=>?_) (fun d=>?_)
 ·have j:y≠0:=o
  refine C0 (fun e=>absurd e d) (fun _=>?_)
  have f:=Nat.mod_lt x (Nat.pos_of_ne_zero j)
  refine ⟨⟨y,x%y,rfl,rfl,?_⟩,by assumption⟩
  rw [<- k,Nat.gcd_comm x y,Nat.gcd_rec y x,Nat.gcd_comm]
 simp_all
def Cr(hK1:∀ q,l=E7 q->q.num.natAbs<1000000000->q.den<1000000000->K (.tuple #[.agg #[I q.num,I (q.den:Int)],.bool true]) h)(hK0:K (.tuple #[.agg #[I 0,I 0],.bool false]) h):aH prog 139 #[.string (bs l)] h K:=by
 refine (fnk func139 (cs:=[(5,[29],[],[.bool false]),(11,[],[(2,2),(6,2)],[I 0,I 0,I 0,I 0]),(13,[],[(6,2)],[I 0,I 0])]) (own:=[2,4,6])) ?_
 rw [I7]
 refine C0 (fun _=>hK0) (fun N=>?_)
 refine Nh o ?_ ?_
 ·intro neg a b f
  refine ⟨_,_,_,_,rfl,?_⟩
  simp only [I7]
  refine ⟨fun L i=>L=[.bool (decide (a.length>9\/b.length>9))]/\i=h,Br.of (fun e=>by cases e) (fun _=>C0 (fun n=>⟨?_,rfl⟩) (fun n=>⟨?_,rfl⟩)),?_⟩
  ·grind
  ·by_cases z:b.length>9
   ·grind
   grind
  rintro g i ⟨B,rfl⟩
  obtain rfl:g=decide (a.length>9\/b.length>9):=gz0
  refine C0 (fun _=>hK0) (fun n=>?_)
  have r:(Sx neg a).natAbs=J7 a:=by unfold Sx;omega
  have C:=Ev f.da
  have t:=Ev f.db
  have F:∀ k,k<=9->10^k<=1000000000:=fun k w=>bI (aI dc w) dc
  have E:=F a.length o
  refine Fi f.da o ⟨_,rfl,?_⟩
  refine ⟨fun L d=>L=[I 0,I 0,I (J7 a:Int),I (Mm b:Int)]/\d=i/\aQ (J7 a) (Mm b)=1,?_,?_⟩
  ·rw [Y5]
   refine Br.not (C0 (fun s=>?_) (fun s=>?_))
   ·subst s;exact ⟨rfl,rfl,by unfold Mm;simp⟩
   ·refine Fi f.db o ⟨_,rfl,Yh ⟨_,rfl,E6 (fun _=>hK0) (fun M=>?_)⟩⟩
    have G:Mm b=J7 b:=by unfold Mm;grind
    grind
  ·rintro D A H Q j ⟨m,rfl,u⟩
   obtain ⟨_,_,rfl,rfl⟩:=m
   obtain ⟨q,y⟩:=f.isNum.2 u
   have c:=f.of_txt y
   have p:Mm b<1000000000:=by unfold Mm;grind
   refine ⟨fun L d=>L=[I q.num,I (q.den:Int)]/\d=j,Br.of (fun e=>?_) (fun e=>?_),?_⟩
   ·rw [c.1,c.2,e,B9 o o]
    exact ⟨by unfold Sx;simp,rfl⟩
   ·rw [c.1,c.2,e]
    exact ⟨by rfl,rfl⟩
   grind
 ·intro O neg a b
  refine ⟨_,_,_,_,rfl,?_⟩
  refine ⟨fun L i=>L=[.bool true]/\i=h,Br.not ⟨rfl,rfl⟩,?_⟩
  rintro g i ⟨B,rfl⟩
  obtain rfl:g=true:=gz0
  exact Br.of (fun _=>hK0) (fun e=>by cases e)
def Gc{l':List UInt8}(hK1:∀ p q,l=E7 p->l'=E7 q->p.num.natAbs<1000000000->p.den<1000000000->q.num.natAbs<1000000000->q.den<1000000000->K (.tuple #[.agg #[I p.num,I (p.den:Int)],.agg #[I q.num,I (q.den:Int)],.bool true]) h)(hK0:K (.tuple #[.agg #[I 0,I 0],.agg #[I 0,I 0],.bool false]) h):aH prog 166 #[.string (bs l),.string (bs l')] h K:=by
 refine (fnk func166 (own:=[4,5,7,9])) ?_
 refine Cr ?_ ⟨_,_,_,rfl,Br.not hK0⟩
 intro p a e c
 refine ⟨_,_,_,rfl,Br.not ?_⟩
 refine Cr ?_ ⟨_,_,_,rfl,Br.not hK0⟩
 intro q b f d
 exact ⟨_,_,_,rfl,Br.not (hK1 p q a b e c f d)⟩
def Ae{num den:Int}(gp:Gp h)(hd:den≠0)(h1:num.natAbs<4000000000000000000)(h2:den.natAbs<4000000000000000000)(hK:K (.string (bs (E7 (bV num den)))) h):aH prog 167 #[I num,I den] h K:=by
 refine FCall.pure ((fnk func167 (cs:=[(3,[0,1],[],[I 0,I 0]),(6,[0,1],[],[I 0,I 0])]) (wr:=[216])) ?_)
 refine ⟨fun L t=>t=h/\∃ n d:Int,L=[I n,I d]/\0<d/\bV n d=bV num den/\n.natAbs=num.natAbs/\d.natAbs=den.natAbs,C0 (fun j=>⟨rfl,-num,-den,?_,o,Rat.neg_divInt_neg num den,o,o⟩) (fun j=>⟨rfl,num,den,rfl,o,rfl,rfl,rfl⟩),?_⟩
 ·rw [B9 o o,B9 o o,Int.zero_sub,Int.zero_sub]
 rintro f m t ⟨rfl,n,d,M,p,H,hn,T⟩
 obtain ⟨rfl,rfl⟩:=M
 rw [<- H] at hK
 have g:=A0i (x:=f) p
 have O:=Sb (a:=f) (b:=m) o
 generalize bV f m=q at *
 refine ⟨fun L s=>s=t/\L=[I q.num,I (q.den:Int)],E6 (fun j=>?_) (fun j=>?_),?_⟩
 ·have z:(if (C3 (0-f))>f then C3 (0-f) else f)=((f.natAbs:Nat):Int):=by
   rw [B9 o o];omega
  obtain ⟨k,rfl⟩:∃ k:Nat,m=k:=⟨m.toNat,o⟩
  rw [z]
  refine Yh ⟨_,rfl,?_⟩
  have V:0<aQ f.natAbs k:=Nat.gcd_pos_of_pos_right _ o
  refine C0 (fun e=>o) (fun _=>C0 (fun e=>o) (fun _=>⟨rfl,?_⟩))
  have A:cM f ((aQ f.natAbs k:Nat):Int)=q.num:=g.1.symm
  have e4:cM (k:Int) ((aQ f.natAbs k:Nat):Int)=(q.den:Int):=g.2.symm
  rw [A,e4,B9 o o,B9 o o]
 ·subst j
  have F:aR f 1=1:=by simp
  rw [F] at g
  grind
 rintro n2 d2 l ⟨rfl,w⟩
 obtain ⟨rfl,rfl⟩:=w
 refine D8 (fun j=>?_) (fun j=>?_)
 ·rw [Vi o] at hK
  exact Cv gp o o ⟨_,rfl,B6 _,hK⟩
 ·rw [Yc o] at hK
  refine Ck B26 ?_
  intro b D
  refine ⟨_,rfl,⟨o,o⟩,?_⟩
  have W:bO (l.put b (.cells (aD 48 (aN .u8 0)).toArray 310)) l 310 1 (some ⟨b,0,none⟩) 0 48 (yv []):=⟨by simp [yv],o,.inr ⟨b,aD 48 (aN .u8 0),rfl,D,rfl,by simp,by simp [yv]⟩⟩
  refine Ik gp W o o o ?_
  intro A1 aa c1 z g1 R u
  refine ⟨_,_,_,rfl,?_⟩
  have X:(Nc q.num).length<=20:=by
   unfold Nc
   have:(Q3 q.num.natAbs).length<=19:=(Ln dc).2 (aP (show q.num.natAbs<10000000000000000000 from o) dc)
   grind
  have N:=u.len
  refine Eo (ch:=47) rfl u.priv o ?_
  intro A2 C c2 e2 g2 Q y
  have i:=u.trans y
  have r:=i.len
  rw [aJ,cI] at r
  refine Ik (gp.mono i.le) y.priv o o o ?_
  intro A3 G c3 A g3 S E
  refine ⟨_,_,_,rfl,?_⟩
  have c:=i.trans E
  have B:=c.len
  refine Hg Di.und Bh U1 c.priv.slV gz0 ⟨_,rfl,?_⟩
  refine ⟨B0 c.le c.priv.le,?_⟩
  assumption
end
structure RQ (h:aM) (w:QV) (q:Rat):Prop where
 num:ZI h w.s w.A w.n w.c q.num
 den:ZI h w.s2 w.A2 w.n2 w.c2 (if q.den=1 then 0 else (q.den:Int))
def ZB.gcd{m:Nat}{x y:Int}(hy:y≠0)(h:ZB m y):ZB m (aR x y:Int):=by
 refine h.le ?_
 exact cW o (Int.natAbs_dvd_natAbs.2 (Int.gcd_dvd_right x y))
section
variable {h h':aM} {K:VP} {A B:Option aK} {n c n' c':Nat} {s s':Bool} {x y z:Int} {m:Nat} {p q:Rat} {a b w:QV} {l:List UInt8}
def RQ.mono(hl:h.le h')(i:RQ h w q):RQ h' w q:=⟨i.num.mono hl,i.den.mono hl⟩
def RQ.whole(i:ZI h s A n c z):RQ h ⟨s,A,n,c,false,none,0,0⟩ (z:Rat):=⟨by assumption,by simpa using ZI.zero⟩
def RQ.zero:RQ h ⟨false,none,0,0,false,none,0,0⟩ 0:=⟨ZI.zero,ZI.zero⟩
def U4(i:RQ h w q)(hK:K (.bool (decide (q.den=1))) h):aH prog 201 #[.agg #[.bool w.s2,.slice w.A2 w.n2 w.c2]] h K:=by
 refine F5 i.den ?_
 have:=q.den_nz
 simp_all
def T8(i:ZI h s A n c z)(j:ZI h s' B n' c' y)(h1:q.num=z)(h2:(q.den:Int)=y)(hK:∀ w,RQ h w q->K w.v h):aH prog 219 #[.agg #[.bool s,.slice A n c],.agg #[.bool s',.slice B n' c']] h K:=by
 subst h1 h2
 refine (fnk func219 (own:=[2,3,4])) ?_
 refine Q9 j ⟨_,rfl,C0 (fun e=>?_) (fun e=>?_)⟩
 ·exact hK ⟨s,A,n,c,false,none,0,0⟩ ⟨i,by rw [iP o];exact ZI.zero⟩
 ·exact hK ⟨s,A,n,c,s',B,n',c'⟩ ⟨i,gz0⟩
def Kl(i:RQ h w q)(hK:∀ s A n c h',h.le h'->ZI h' s A n c (q.den:Int)->K (.agg #[.bool s,.slice A n c]) h'):aH prog 224 #[w.v] h K:=by
 refine (fnk func224 (own:=[1,2])) ?_
 refine U4 i ⟨_,rfl,C0 (fun e=>?_) (fun e=>?_)⟩
 ·refine Dd dc dc ?_
  grind
 ·have:=i.den
  rw [iN e] at this
  exact hK _ _ _ _ _ (B6 _) this
def Sj(gl:Gtz h)(i:ZI h s A n c x)(j:ZI h s' B n' c' y)(hx:ZB m x)(hy:ZB m y)(hm:m<=6400000000)(hy0:0<y)(hK:∀ s1 A1 n1 c1 s2 A2 n2 c2 h',h.le h'->ZI h' s1 A1 n1 c1 (x.tdiv (aR x y))->ZI h' s2 A2 n2 c2 (y.tdiv (aR x y))->K (.tuple #[.agg #[.bool s1,.slice A1 n1 c1],.agg #[.bool s2,.slice A2 n2 c2]]) h'):aH prog 223 #[.agg #[.bool s,.slice A n c],.agg #[.bool s',.slice B n' c']] h K:=by
 refine (fnk func223 (os:=[(4,[0,1,3,4,2,5,6,7])]) (own:=[2,3,4,5,6])) ?_
 refine Q9 j ⟨_,rfl,C0 (fun e=>?_) (fun e=>?_)⟩
 ·subst e
  have k:aR x 1=1:=by simp
  rw [k] at hK
  exact hK _ _ _ _ _ _ _ _ _ (B6 _) gz0 (by assumption)
 ·refine Bf gl i j hx hy hm ?_
  intro A1 n1 c1 t d g
  have k:=Int.gcd_pos_of_ne_zero_right x (show y≠0 from o)
  have a:ZB m (aR x y:Int):=ZB.gcd o hy
  refine ⟨_,_,_,_,rfl,Q8 (i.mono d) g hx a hm o ?_⟩
  intro s2 A2 n2 c2 r b p
  refine ⟨_,_,_,_,rfl,b,Q8 (j.mono (B0 d b)) (g.mono b) hy a hm o ?_⟩
  intro q A3 w c3 u f l
  exact ⟨_,_,_,_,rfl,f,hK _ _ _ _ _ _ _ _ _ (B0 d (B0 b f)) (p.mono f) l⟩
def A52(i:RQ h w q)(hK:∀ w',RQ h w' (-q)->K w'.v h):aH prog 261 #[w.v] h K:=by
 refine B5o _ _ _ _ _ _ _ _ ?_
 refine Be i.num ?_
 intro a b
 exact ⟨_,_,_,_,rfl,B6 _,hK ⟨a,w.A,w.n,w.c,w.s2,w.A2,w.n2,w.c2⟩ ⟨by assumption,by simpa using i.den⟩⟩
def A1s(i:RQ h w q)(hK:K (I q.num.sign) h):aH prog 246 #[w.v] h K:=by
 refine B2c _ _ _ _ _ _ _ _ ?_
 exact Mq i.num ⟨_,rfl,hK⟩
def Bz(i:RQ h w q)(hK:K (.bool (decide (q=0))) h):aH prog 208 #[w.v] h K:=by
 refine (fnk func208 (own:=[1])) ?_
 refine F5 i.num ⟨_,rfl,?_⟩
 simp_all
def Tz(gl:Gtz h)(i:RQ h a p)(j:RQ h b q)(hp:Sz m p)(hq:Sz m q)(hm:2*m+1<=6400000000)(hK:∀ w h',h.le h'->RQ h' w (p+q)->K w.v h'):aH prog 169 #[a.v,b.v] h K:=by
 have ar:=q.den_nz
 have M:∀ {z:Int},ZB m z->ZB (2*m+1) z:=fun B=>B.mono o
 refine B5r _ _ _ _ _ _ _ _ _ _ _ _ _ _ _ _ ?_
 refine ⟨fun L hp=>L=[.bool (decide (p.den=1/\q.den=1))]/\hp=h,U4 i ⟨_,rfl,C0 (fun e=>?_) (fun e=>?_)⟩,?_⟩
 ·exact U4 j ⟨_,rfl,by simp [e],rfl⟩
 ·grind
 rintro ag aj ⟨hL,rfl⟩
 obtain rfl:ag=decide (p.den=1/\q.den=1):=gz0
 refine C0 (fun e=>?_) (fun e=>?_)
 ·refine Jn i.num j.num hp.num hq.num o ?_
  intro s1 A1 n1 c1 h1 k X
  refine ⟨_,_,_,_,rfl,hK ⟨s1,A1,n1,c1,false,none,0,0⟩ _ k ?_⟩
  have:=RQ.whole X
  rw [Rat.intCast_add,<- Up e.1,<- Up e.2] at this
  exact this
 ·refine ⟨fun L hp=>L=[.bool (decide (p.den=1))]/\hp=aj,U4 i ⟨_,rfl,rfl,rfl⟩,?_⟩
  rintro ae av ⟨hL,rfl⟩
  obtain rfl:ae=decide (p.den=1):=gz0
  refine C0 (fun O=>?_) (fun O=>?_)
  ·have am:q.den≠1:=fun W=>e ⟨O,W⟩
   have jd:=j.den
   rw [iN am] at jd
   refine O6 i.num jd hp.num hq.den o ?_
   intro s1 A1 n1 c1 h1 k X
   refine ⟨_,_,_,_,rfl,k,Jn (m:=2*m+1) X (j.num.mono k) ((hp.num.mul hq.den).mono o) (M hq.num) hm ?_⟩
   intro s2 A2 n2 c2 h2 l i2
   have c:=Lw q p.num
   rw [<- Up O,Rat.add_comm] at c
   refine ⟨_,_,_,_,rfl,l,hK ⟨s2,A2,n2,c2,b.s2,b.A2,b.n2,b.c2⟩ _ (B0 k l) ⟨gz0,?_⟩⟩
   rw [c.2]
   exact j.den.mono (B0 k l)
  ·refine U4 j ⟨_,rfl,C0 (fun W=>?_) (fun W=>?_)⟩
   ·have f:=i.den
    rw [iN O] at f
    refine O6 j.num f hq.num hp.den o ?_
    intro s1 A1 n1 c1 h1 k X
    refine ⟨_,_,_,_,rfl,k,Jn (m:=2*m+1) X (i.num.mono k) ((hq.num.mul hp.den).mono o) (M hp.num) hm ?_⟩
    intro s2 A2 n2 c2 h2 l i2
    have c:=Lw p q.num
    rw [<- Up W] at c
    refine ⟨_,_,_,_,rfl,l,hK ⟨s2,A2,n2,c2,a.s2,a.A2,a.n2,a.c2⟩ _ (B0 k l) ⟨gz0,?_⟩⟩
    rw [c.2]
    exact i.den.mono (B0 k l)
   ·have f:=i.den
    have s:=j.den
    rw [iN O] at f
    rw [iN W] at s
    refine Bf gl f s hp.den hq.den o ?_
    intro A1 n1 c1 h1 k F
    rw [cZ] at F
    obtain ⟨g,hg⟩:∃ g,g=p.den.gcd q.den:=⟨_,rfl⟩
    rw [<- hg] at F
    have af:0<g:=gz0
    have ad:g∣q.den:=by rw [hg];exact bX ..
    have u:ZB m (g:Int):=hq.den.le (by simpa using cW o ad)
    refine ⟨_,_,_,_,rfl,Q8 (s.mono k) F hq.den u o o ?_⟩
    intro s2 A2 n2 c2 h2 l il
    rw [<- aZ] at il
    refine ⟨_,_,_,_,rfl,l,Q8 (f.mono (B0 k l)) (F.mono l) hp.den u o o ?_⟩
    intro s3 A3 n3 c3 h3 N ir
    rw [<- aZ] at ir
    have E:ZB m ((q.den/g:Nat):Int):=hq.den.le (by exact aS _ _)
    have t:ZB m ((p.den/g:Nat):Int):=hp.den.le (by exact aS _ _)
    have D:=B0 k (B0 l N)
    refine ⟨_,_,_,_,rfl,N,O6 (i.num.mono D) (il.mono N) hp.num E o ?_⟩
    intro s4 A4 n4 c4 h4 C i4
    refine ⟨_,_,_,_,rfl,C,O6 (j.num.mono (B0 D C)) (ir.mono C) hq.num t o ?_⟩
    intro s5 A5 n5 c5 h5 G i5
    refine ⟨_,_,_,_,rfl,G,Jn (m:=2*m) (i4.mono G) i5 ((hp.num.mul E).mono o) ((hq.num.mul t).mono o) o ?_⟩
    intro s6 A6 n6 c6 h6 V H
    obtain ⟨z,B⟩:∃ z,z=p.num*((q.den/g:Nat):Int)+q.num*((p.den/g:Nat):Int):=⟨_,rfl⟩
    rw [<- B] at H
    have Q:ZB (2*m+1) z:=by
     rw [B]
     exact ((hp.num.mul E).mono (show m+m<=2*m from o)).add ((hq.num.mul t).mono (show m+m<=2*m from o))
    have d:=B0 D (B0 C (B0 G V))
    refine ⟨_,_,_,_,rfl,V,F5 H ⟨_,rfl,C0 (fun R=>?_) (fun R=>?_)⟩⟩
    ·have:p+q=0:=by
      rw [<- cQ]
      by_cases ac:p.den.gcd q.den=1
      ·have:=(Uy p q ac).1
       grind
      ·have:=(Ux p q ac hg B rfl).1
       rw [this,R];simp
     rw [this] at hK
     exact hK ⟨false,none,0,0,false,none,0,0⟩ _ d RQ.zero
    ·refine Q9 (F.mono (B0 l (B0 N (B0 C (B0 G V))))) ⟨_,rfl,C0 (fun ah=>?_) (fun ah=>?_)⟩
     ·have n:g=1:=o
      have c:=Uy p q o
      rw [n,Nat.div_one,Nat.div_one] at B
      refine O6 (f.mono d) (s.mono d) hp.den hq.den o ?_
      intro s7 A7 n7 c7 h7 y S
      refine ⟨_,_,_,_,rfl,y,T8 (q:=p+q) (H.mono y) S o o ?_⟩
      intro w iw
      exact ⟨_,_,_,_,_,_,_,_,rfl,B6 _,hK _ _ (B0 d y) iw⟩
     ·have n:p.den.gcd q.den≠1:=o
      obtain ⟨r,hr⟩:∃ r,r=z.natAbs.gcd g:=⟨_,rfl⟩
      have c:=Ux p q n hg B hr
      have au:0<r:=gz0
      have aw:r<=g:=by rw [hr];exact cW af (bX ..)
      have al:=F.mono (B0 l (B0 N (B0 C (B0 G V))))
      refine Bf (gl.mono d) H al Q (M u) hm ?_
      intro A7 n7 c7 h7 y S
      have e7:aR z (g:Int)=r:=hr.symm
      rw [e7] at S
      have aa:ZB m (r:Int):=u.le o
      refine ⟨_,_,_,_,rfl,Q8 (H.mono y) S Q (M aa) hm o ?_⟩
      intro s8 A8 n8 c8 h8 T i8
      refine ⟨_,_,_,_,rfl,T,Q8 (s.mono (B0 d (B0 y T))) (S.mono T) hq.den aa o o ?_⟩
      intro s9 A9 n9 c9 h9 l9 i9
      rw [<- aZ] at i9
      have ak:ZB m ((q.den/r:Nat):Int):=hq.den.le (by exact aS _ _)
      refine ⟨_,_,_,_,rfl,l9,O6 (ir.mono (B0 C (B0 G (B0 V (B0 y (B0 T l9)))))) i9 t ak o ?_⟩
      intro ao A10 aq an ap A ai
      refine ⟨_,_,_,_,rfl,A,T8 (q:=p+q) (i8.mono (B0 l9 A)) ai c.1 o ?_⟩
      intro w iw
      exact ⟨_,_,_,_,_,_,_,_,rfl,B6 _,hK _ _ (B0 d (B0 y (B0 T (B0 l9 A)))) iw⟩
def A4z(gl:Gtz h)(i:RQ h a p)(j:RQ h b q)(hp:Sz m p)(hq:Sz m q)(hm:2*m+1<=6400000000)(hK:∀ w h',h.le h'->RQ h' w (p-q)->K w.v h'):aH prog 213 #[a.v,b.v] h K:=by
 refine B5n _ _ _ _ _ _ _ _ _ _ _ _ _ _ _ _ ?_
 refine A52 j ?_
 intro d c
 refine ⟨_,_,_,_,_,_,_,_,rfl,B6 _,Tz gl i c hp hq.neg hm ?_⟩
 grind
end
structure Gl (h:aM):Prop where
 tz:Gtz h
 p10:Gp h
def Gl.mono{h h':aM}(g:Gl h)(l:h.le h'):Gl h':=⟨g.tz.mono l,g.p10.mono l⟩
section
variable {h h':aM} {K:VP} {A B:Option aK} {n c n' c':Nat} {s s':Bool} {x y z:Int} {m:Nat} {p q:Rat} {a b w:QV} {l:List UInt8}
def Tv(gl:Gtz h)(i:RQ h a p)(j:RQ h b q)(hp:Sz m p)(hq:Sz m q)(hm:m<=6400000000)(hK:∀ w h',h.le h'->RQ h' w (p*q)->K w.v h'):aH prog 171 #[a.v,b.v] h K:=by
 have X:=p.den_nz
 have T:=q.den_nz
 refine B5p _ _ _ _ _ _ _ _ _ _ _ _ _ _ _ _ ?_
 refine ⟨fun L hp=>L=[.bool (decide (p.num=0\/q.num=0))]/\hp=h,F5 i.num ⟨_,rfl,C0 (fun e=>?_) (fun e=>?_)⟩,?_⟩
 ·grind
 ·exact F5 j.num ⟨_,rfl,by simp [e],rfl⟩
 rintro n t ⟨Q,rfl⟩
 obtain rfl:n=decide (p.num=0\/q.num=0):=gz0
 refine C0 (fun e=>?_) (fun e=>?_)
 ·have:p*q=0:=by
   rw [cQ,cQ] at e
   grind
  rw [this] at hK
  exact hK ⟨false,none,0,0,false,none,0,0⟩ _ (B6 _) RQ.zero
 ·refine ⟨fun L hp=>L=[.bool (decide (p.den=1/\q.den=1))]/\hp=t,U4 i ⟨_,rfl,C0 (fun e=>?_) (fun e=>?_)⟩,?_⟩
  ·exact U4 j ⟨_,rfl,by simp [e],rfl⟩
  ·grind
  rintro l M ⟨Q,rfl⟩
  obtain rfl:l=decide (p.den=1/\q.den=1):=gz0
  refine C0 (fun e=>?_) (fun e=>?_)
  ·refine O6 i.num j.num hp.num hq.num hm ?_
   intro C A1 D c1 O f W
   refine ⟨_,_,_,_,rfl,hK ⟨C,A1,D,c1,false,none,0,0⟩ _ f ?_⟩
   have:=RQ.whole W
   rw [Rat.intCast_mul,<- Up e.1,<- Up e.2] at this
   exact this
  ·have r:=A8a p q
   refine Kl j ?_
   intro C A1 D c1 O f S
   refine ⟨_,_,_,_,rfl,f,Sj (gl.mono f) (i.num.mono f) S hp.num hq.den hm o ?_⟩
   intro s2 A2 n2 c2 s3 A3 n3 c3 h2 E A u
   have c:=B0 f E
   refine ⟨_,_,_,_,_,_,_,_,rfl,E,Kl (i.mono c) ?_⟩
   intro s4 A4 n4 c4 h4 d z
   refine ⟨_,_,_,_,rfl,d,Sj (gl.mono (B0 c d)) (j.num.mono (B0 c d)) z hq.num hp.den hm o ?_⟩
   intro s5 A5 n5 c5 s6 A6 n6 c6 h5 g B y
   have e1:aR p.num (q.den:Int)=aQ p.num.natAbs q.den:=rfl
   have R:aR q.num (p.den:Int)=aQ q.num.natAbs p.den:=rfl
   rw [e1] at A u
   rw [R] at B y
   rw [<- aZ] at u y
   refine ⟨_,_,_,_,_,_,_,_,rfl,g,O6 (A.mono (B0 d g)) B hp.num.tdiv hq.num.tdiv hm ?_⟩
   intro s7 A7 n7 c7 h7 k N
   have G:ZB m ((p.den/aQ q.num.natAbs p.den:Nat):Int):=hp.den.le (by exact aS _ _)
   have V:ZB m ((q.den/aQ p.num.natAbs q.den:Nat):Int):=hq.den.le (by exact aS _ _)
   refine ⟨_,_,_,_,rfl,k,O6 (y.mono k) (u.mono (B0 d (B0 g k))) G V hm ?_⟩
   intro s8 A8 n8 c8 h8 s H
   refine ⟨_,_,_,_,rfl,s,T8 (q:=p*q) (N.mono s) H r.1 o ?_⟩
   intro w F
   exact ⟨_,_,_,_,_,_,_,_,rfl,B6 _,hK _ _ (B0 c (B0 d (B0 g (B0 k s)))) F⟩
def Vq(i:RQ h w q)(hK:∀ w h',h.le h'->RQ h' w q⁻¹->K w.v h'):aH prog 282 #[w.v] h K:=by
 refine (fnk func282 (os:=[(5,[0,3,4,1,2,5,6,7]),(6,[0,2,3,1,4,5])]) (own:=[1,2])) ?_
 refine Mq i.num ⟨_,rfl,D8 (fun e=>?_) (fun e=>?_)⟩
 ·have:q⁻¹=0:=by simp_all
  rw [this] at hK
  exact hK ⟨false,none,0,0,false,none,0,0⟩ _ (B6 _) RQ.zero
 ·have g:q.num≠0:=fun r=>e gz0
  refine D8 (fun f=>?_) (fun f=>?_)
  ·have j:q.num<0:=Int.sign_neg_iff.1 o
   refine Kl i ?_
   intro p A1 l c1 n a c
   refine ⟨_,_,_,_,rfl,a,Be c ?_⟩
   intro t m
   refine ⟨_,_,_,_,rfl,B6 _,Be (i.num.mono a) ?_⟩
   intro s k
   refine ⟨_,_,_,_,rfl,B6 _,T8 (q:=q⁻¹) m k ?_ ?_ ?_⟩
   ·rw [Rat.num_inv,f];omega
   ·rw [Rat.den_inv,iN g];omega
   ·intro w d
    exact ⟨_,_,_,_,_,_,_,_,rfl,B6 _,hK _ _ a d⟩
  ·have b:0<q.num:=by
    grind
   refine Kl i ?_
   intro p A1 l c1 n a c
   refine ⟨_,_,_,_,rfl,a,T8 (q:=q⁻¹) c (i.num.mono a) ?_ ?_ ?_⟩
   ·rw [Rat.num_inv,dB b,Int.one_mul]
   ·rw [Rat.den_inv,iN g];omega
   ·intro w d
    exact ⟨_,_,_,_,_,_,_,_,rfl,B6 _,hK _ _ a d⟩
def Tw(gl:Gtz h)(i:RQ h a p)(j:RQ h b q)(hp:Sz m p)(hq:Sz m q)(hm1:1<=m)(hm:m<=6400000000)(hK:∀ w h',h.le h'->RQ h' w (p/q)->K w.v h'):aH prog 247 #[a.v,b.v] h K:=by
 refine B5q _ _ _ _ _ _ _ _ _ _ _ _ _ _ _ _ ?_
 refine Vq j ?_
 intro g l c e
 refine ⟨_,_,_,_,_,_,_,_,rfl,c,Tv (gl.mono c) (i.mono c) e hp (hq.inv hm1) hm ?_⟩
 intro n k d f
 exact ⟨_,_,_,_,_,_,_,_,rfl,d,hK _ _ (B0 c d) f⟩
def Xa{t:List UInt8}{k:Nat}(h:∀ c∈t,I0 c)(hk:t.length<=k):ZB (4*k) (J7 t:Int):=by
 exact aP (Bn h) (aI dc o)
def Form.lens{neg:Bool}{a b:List UInt8}(f:Form l neg a b):a.length<=l.length/\b.length<=l.length:=by
 have:=congrArg List.length f.eq
 grind
def Nj(gl:Gtz h)(hl:l.length<=100000000)(hK1:∀ q,l=E7 q->∀ w h',h.le h'->RQ h' w q->K (.tuple #[w.v,.bool true]) h')(hK0:¬ IsNum l->∀ (w:QV) h',h.le h'->RQ h' w 0->K (.tuple #[w.v,.bool false]) h'):aH prog 207 #[.string (bs l)] h K:=by
 refine (fnk func207 (cs:=[(7,[],[(6,4)],[.bool false,.slice none 0 0,.bool false,.slice none 0 0])]) (own:=[2,4,6])) ?_
 refine Nh o ?_ ?_
 ·intro neg a b f
  refine ⟨_,_,_,_,rfl,Br.not ?_⟩
  have H:=f.lens
  refine Hj f.da o ?_
  intro A1 R c1 G s i1
  refine ⟨_,_,_,_,rfl,?_⟩
  refine ⟨fun L hp=>∃ i:Bool,L=[.bool i,.slice A1 R c1,.bool false,.slice none 0 0]/\hp=G/\ZI G i A1 R c1 (Sx neg a),Br.of (fun e=>?_) (fun e=>?_),?_⟩
  ·refine Be i1 ?_
   intro i t
   exact ⟨_,_,_,_,rfl,i,rfl,rfl,by unfold Sx;grind⟩
  ·exact ⟨false,rfl,rfl,by unfold Sx;grind⟩
  rintro D p n d x2 W aa ac V ⟨i,M,rfl,t⟩
  simp only [List.cons.injEq,Value.slice.injEq,Value.bool.injEq,and_true] at M
  obtain ⟨rfl,⟨rfl,rfl,rfl⟩,rfl,rfl,rfl,rfl⟩:=M
  have j:(Sx neg a).natAbs=J7 a:=by unfold Sx;omega
  rw [Y5]
  refine C0 (fun u=>?_) (fun u=>?_)
  ·subst u
   obtain ⟨q,g⟩:=f.isNum.2 (by unfold Mm;simp)
   obtain ⟨F,A⟩:=f.of_txt g
   refine hK1 q g ⟨D,p,n,d,false,none,0,0⟩ _ s ⟨gz0,?_⟩
   rw [A,show Mm []=1 from rfl,iP rfl];exact ZI.zero
  ·refine Hj f.db o ?_
   intro A4 S c4 h4 m N
   have C:ZB (4*l.length) (Sx neg a):=(Xa f.da (k:=l.length) o).le o
   refine ⟨_,_,_,_,rfl,Bf (gl.mono (B0 s m)) (t.mono m) N C (Xa f.db (k:=l.length) o) o ?_⟩
   intro A5 n5 c5 h5 r T
   refine ⟨_,_,_,_,rfl,Q9 T ⟨_,rfl,?_⟩⟩
   have c:Mm b=J7 b:=by unfold Mm;grind
   have z:aR (Sx neg a) (J7 b:Int)=aQ (J7 a) (Mm b):=by
    rw [c];show aQ (Sx neg a).natAbs (J7 b)=_;rw [j]
   rw [z]
   refine Br.not (C0 (fun Q=>?_) (fun Q=>?_))
   ·obtain ⟨q,g⟩:=f.isNum.2 o
    obtain ⟨F,A⟩:=f.of_txt g
    have y:Mm b≠1:=by
     intro X
     have O:=Lo f.db u (.inl f.hb)
     rw [<- c,X] at O
     apply f.b1
     rw [<- O];simp [Q3,Dt,K5,dch]
    refine hK1 q g ⟨D,p,n,d,false,A4,S,c4⟩ _ (B0 s (B0 m r)) ⟨by rw [F];exact t.mono (B0 m r),?_⟩
    rw [A,iN y,c];exact N.mono r
   ·refine hK0 ?_ ⟨false,none,0,0,false,none,0,0⟩ _ (B0 s (B0 m r)) RQ.zero
    intro B
    exact Q (by rw [f.isNum.1 B];rfl)
 ·intro hf neg a b
  refine ⟨_,_,_,_,rfl,Br.not ?_⟩
  refine hK0 ?_ ⟨false,none,0,0,false,none,0,0⟩ _ (B6 _) RQ.zero
  intro B
  obtain ⟨E,a',b',f⟩:=B.form
  grind
def Au(gl:Gtz h)(hl:l.length<=100000000)(hK:∀ w h',h.le h'->RQ h' w (rv l)->K w.v h'):aH prog 168 #[.string (bs l)] h K:=by
 refine (fnk func168 (own:=[2,3])) ?_
 refine Nj gl hl ?_ ?_
 ·intro q e w c b a
  exact ⟨_,_,_,_,_,_,_,_,_,rfl,hK w c b (by rw [e,F9];exact a)⟩
 ·intro d w c b a
  exact ⟨_,_,_,_,_,_,_,_,_,rfl,hK w c b (by rw [B2k d];exact a)⟩
def By(gp:Gp h)(i:RQ h w q)(hq:Sz m q)(hm:m<=40000000)(hK:K (.string (bs (E7 q))) h):aH prog 170 #[w.v] h K:=by
 refine FCall.pure ((fnk func170 (own:=[1])) ?_)
 refine U4 i ⟨_,rfl,C0 (fun e=>?_) (fun e=>?_)⟩
 ·rw [Vi e] at hK
  refine A1b i.num (fun f j=>?_) (fun f=>?_)
  ·refine ⟨_,_,rfl,Br.of (fun _=>(fnk func163) ?_) (fun e=>by cases e)⟩
   exact Cv gp f j ⟨_,rfl,_,rfl,B6 _,hK⟩
  ·refine ⟨_,_,rfl,Br.of (fun e=>by cases e) (fun _=>?_)⟩
   exact Xt gp i.num hq.num o ⟨_,rfl,B6 _,hK⟩
 ·rw [Yc e] at hK
  have c:=i.den
  rw [iN e] at c
  refine Fx (l:=[]) (eT:=5) gp (Priv.nil _ _ _ _) i.num hq.num o o ?_
  intro A1 D c1 B z f g
  refine ⟨_,_,_,rfl,?_⟩
  have s:(Nc q.num).length<=50000000:=by
   unfold Nc
   have:=Bo hq.num
   grind
  have r:=g.len
  refine Eo (ch:=47) rfl g.priv o ?_
  intro A2 E c2 y u j k
  have b:=g.trans k
  have d:=b.len
  rw [aJ,cI] at d
  refine Fx (gp.mono b.le) k.priv (c.mono b.le) hq.den o o ?_
  intro A3 t c3 C F A p
  refine ⟨_,_,_,rfl,?_⟩
  have a:=b.trans p
  have n:=a.len
  refine Hg Di.und Bh U1 a.priv.slV gz0 ⟨_,rfl,?_⟩
  refine ⟨B0 a.le a.priv.le,?_⟩
  assumption
end
structure Tx (m:Nat) (l:List UInt8):Prop where
 len:l.length<=100000000
 sz:Sz m (rv l)
def B06{m:Nat}{z:Int}(h:ZB m z):(Nc z).length<=m+2:=by
 have:=Bo h
 unfold Nc;grind
def Vh{m:Nat}{q:Rat}(h:Sz m q):(E7 q).length<=2*m+4:=by
 have a:=B06 h.num
 have b:=Bo (n:=q.den) (m:=m) (by have:=h.den;assumption)
 unfold E7
 grind
def Tx.of{m:Nat}{q:Rat}(h:Sz m q)(hm:m<=40000000):Tx m (E7 q):=⟨by have:=Vh h;omega,by rw [F9];exact h⟩
def Ot{x y:Int}(hx:x.natAbs<1000000000)(hy:y.natAbs<1000000000):(x*y).natAbs<1000000000000000000:=by
 rw [Int.natAbs_mul]
 exact Nat.mul_lt_mul'' hx hy
def A6o(q:Rat):∃ c r,E7 q=c::r/\(c=45↔q<0):=by
 have f:=Dg q
 have a:E7 q≠[]:=by
  intro e
  have:=f.eq
  rw [e] at this
  have d:=f.ne
  have:=congrArg List.length this
  simp only [aJ,List.length_nil] at this
  exact d (aL o)
 obtain ⟨c,r,e⟩:=aW a
 refine ⟨c,r,e,?_⟩
 have b:=f.head
 rw [e,cT,Bool.eq_iff_iff,decide_eq_true_iff,beq_iff_eq,aT] at b
 rw [<- b,Rat.lt_iff];simp
def A3b{q:Rat}(h:q<0):E7 q=45::E7 (-q):=by
 have a:q.num<0:=by have:=(Rat.lt_iff q 0).1 h;simp_all
 unfold E7
 rw [Rat.neg_num,Rat.neg_den,Pp a,Ju (i:= -q.num) o,Int.natAbs_neg];simp
def B66:E7 0=[48]:=by rfl
section
variable {h:aM} {K:VP} {m:Nat} {a b:List UInt8}
def Nb(gl:Gl h)(hl:a.length<=100000000)(hK1:IsNum a->K (.bool true) h)(hK0:¬ IsNum a->K (.bool false) h):aH prog 104 #[.string (bs a)] h K:=by
 refine FCall.pure ((fnk func104 (os:=[(7,[0,1,3,4,2,5,6,7,8])]) (own:=[3,5])) ?_)
 refine Cr ?_ ?_
 ·intro q e _ _
  exact ⟨_,_,_,rfl,Br.of (fun _=>⟨B6 _,hK1 ⟨q,e⟩⟩) (fun e=>by cases e)⟩
 ·refine ⟨_,_,_,rfl,Br.of (fun e=>by cases e) (fun _=>?_)⟩
  refine Nh o ?_ ?_
  ·intro neg x y f
   refine ⟨_,_,_,_,rfl,Br.of (fun e=>by cases e) (fun _=>?_)⟩
   have j:=f.lens
   rw [Y5]
   refine C0 (fun e=>?_) (fun e=>?_)
   ·subst e
    exact ⟨B6 _,hK1 (f.isNum.2 (by unfold Mm;simp))⟩
   ·refine Hj f.da o ?_
    intro A1 C c1 z d r
    refine ⟨_,_,_,_,rfl,d,Hj f.db o ?_⟩
    intro A2 D c2 s b m
    refine ⟨_,_,_,_,rfl,b,Bf (gl.tz.mono (B0 d b)) (r.mono b) m (Xa f.da (k:=a.length) o) (Xa f.db (k:=a.length) o) o ?_⟩
    intro A3 u c3 B l p
    refine ⟨_,_,_,_,rfl,l,Q9 p ⟨_,rfl,B6 _,B0 d (B0 b l),?_⟩⟩
    rw [cZ]
    have g:Mm y=J7 y:=by unfold Mm;grind
    by_cases n:aQ (J7 x) (J7 y)=1
    ·rw [decide_eq_true o]
     exact hK1 (f.isNum.2 gz0)
    ·rw [decide_eq_false o]
     exact hK0 (fun c=>n (by rw [<- g];exact f.isNum.1 c))
  ·intro A neg x y
   refine ⟨_,_,_,_,rfl,Br.of (fun _=>⟨B6 _,hK0 ?_⟩) (fun e=>by cases e)⟩
   intro c
   obtain ⟨i,w,t,f⟩:=c.form
   grind
def A6s(gl:Gl h)(hl:a.length<=100000000)(hK:K (.string (bs (E7 (-rv a)))) h):aH prog 112 #[.string (bs a)] h K:=by
 refine (fnk func112) ?_
 have d:((bs a).toList==({ data:=#[48] }:ByteArray).toList)=decide (a=[48]):=Ij a [48]
 rw [d]
 refine C0 (fun e=>?_) (fun e=>?_)
 ·subst e;assumption
 ·refine Nb gl hl ?_ ?_
  ·rintro ⟨q,rfl⟩
   rw [F9] at hK
   have k:q≠0:=by rintro rfl;exact e B66
   obtain ⟨c,r,i,l⟩:=A6o q
   refine ⟨_,rfl,Br.not ?_⟩
   refine ⟨c,⟨o,by rw [Uu,i];rfl⟩,D8 (fun f=>?_) (fun f=>?_)⟩
   ·have g:c=45:=by apply UInt8.toNat_inj.1;grind
    have b:=A3b (l.1 g)
    rw [b,I7]
    refine ⟨⟨o,gz0⟩,?_⟩
    rw [N2,show ((1:Int)).toNat=1 from rfl,aG (by simp),List.drop_succ_cons,aX]
    exact hK
   ·have g:¬ q<0:=fun n=>f (by simp_all)
    have j: -q<0:=by
     grind
    rw [A3b j,Rat.neg_neg] at hK
    refine ⟨?_,?_⟩
    ·show (((bs [45]).size+(bs (E7 q)).size:Nat):Int)<=_
     rw [I7,I7];grind
    assumption
  ·intro m
   rw [B2k m,Rat.neg_zero,B66] at hK
   exact ⟨_,rfl,Br.not hK⟩
def Jy(gl:Gl h)(ta:Tx m a)(tb:Tx m b)(hm:2*m+1<=40000000)(hK:K (.string (bs (E7 (rv a+rv b)))) h):aH prog 117 #[.string (bs a),.string (bs b)] h K:=by
 refine FCall.pure ((fnk func117 (own:=[5,6])) ?_)
 refine Gc ?_ ?_
 ·intro p q u l g j i B
  rw [u,l,F9,F9,Dz] at hK
  refine ⟨_,_,_,_,_,rfl,Br.of (fun _=>?_) (fun e=>by cases e)⟩
  have y:=Ot g (show ((q.den:Nat):Int).natAbs<1000000000 from o)
  have C:=Ot i (show ((p.den:Nat):Int).natAbs<1000000000 from o)
  have A:=Ot (show ((p.den:Nat):Int).natAbs<1000000000 from o) (show ((q.den:Nat):Int).natAbs<1000000000 from o)
  rw [B9 (n:=p.num*q.den) o o,B9 (n:=q.num*p.den) o o,B9 (n:=(p.den:Int)*q.den) o o,B9 o o]
  exact Ae gl.p10 (cU (den_ne p) (den_ne q)) o o ⟨_,rfl,B6 _,hK⟩
 ·refine ⟨_,_,_,_,_,rfl,Br.of (fun e=>by cases e) (fun _=>?_)⟩
  refine Au gl.tz ta.len ?_
  intro w g d t
  refine ⟨_,_,_,_,_,_,_,_,rfl,Au (gl.tz.mono d) tb.len ?_⟩
  intro D j f k
  refine ⟨_,_,_,_,_,_,_,_,rfl,Tz (gl.tz.mono (B0 d f)) (t.mono f) k ta.sz tb.sz o ?_⟩
  intro z i r s
  have c:=B0 d (B0 f r)
  exact ⟨_,_,_,_,_,_,_,_,rfl,By (gl.p10.mono c) s (ta.sz.add tb.sz) o ⟨_,rfl,c,hK⟩⟩
def Yd(gl:Gl h)(ta:Tx m a)(tb:Tx m b)(hm:2*m+1<=40000000)(hK:K (.string (bs (E7 (rv a-rv b)))) h):aH prog 164 #[.string (bs a),.string (bs b)] h K:=by
 refine FCall.pure ((fnk func164 (own:=[5,6])) ?_)
 refine Gc ?_ ?_
 ·intro p q w l g j i C
  have t:p-q=bV (p.num*q.den-q.num*p.den) (p.den*q.den):=by
   rw [Rat.sub_eq_add_neg,Dz,Rat.neg_num,Rat.neg_den,Int.neg_mul,<- Int.sub_eq_add_neg]
  rw [w,l,F9,F9,t] at hK
  refine ⟨_,_,_,_,_,rfl,Br.of (fun _=>?_) (fun e=>by cases e)⟩
  have z:=Ot g (show ((q.den:Nat):Int).natAbs<1000000000 from o)
  have D:=Ot i (show ((p.den:Nat):Int).natAbs<1000000000 from o)
  have B:=Ot (show ((p.den:Nat):Int).natAbs<1000000000 from o) (show ((q.den:Nat):Int).natAbs<1000000000 from o)
  rw [B9 (n:=p.num*q.den) o o,B9 (n:=q.num*p.den) o o,B9 (n:=(p.den:Int)*q.den) o o,B9 o o]
  exact Ae gl.p10 (cU (den_ne p) (den_ne q)) o o ⟨_,rfl,B6 _,hK⟩
 ·refine ⟨_,_,_,_,_,rfl,Br.of (fun e=>by cases e) (fun _=>?_)⟩
  refine Au gl.tz ta.len ?_
  intro y g d u
  refine ⟨_,_,_,_,_,_,_,_,rfl,Au (gl.tz.mono d) tb.len ?_⟩
  intro E j f k
  refine ⟨_,_,_,_,_,_,_,_,rfl,A4z (gl.tz.mono (B0 d f)) (u.mono f) k ta.sz tb.sz o ?_⟩
  intro A i r s
  have c:=B0 d (B0 f r)
  exact ⟨_,_,_,_,_,_,_,_,rfl,By (gl.p10.mono c) s (ta.sz.sub tb.sz) o ⟨_,rfl,c,hK⟩⟩
def Dh(gl:Gl h)(ta:Tx m a)(tb:Tx m b)(hm:2*m<=40000000)(hK:K (.string (bs (E7 (rv a*rv b)))) h):aH prog 118 #[.string (bs a),.string (bs b)] h K:=by
 refine FCall.pure ((fnk func118 (own:=[5,6])) ?_)
 refine Gc ?_ ?_
 ·intro p q k t g l i z
  rw [k,t,F9,F9,Hm] at hK
  refine ⟨_,_,_,_,_,rfl,Br.of (fun _=>?_) (fun e=>by cases e)⟩
  have y:=Ot g i
  have C:=Ot (show ((p.den:Nat):Int).natAbs<1000000000 from o) (show ((q.den:Nat):Int).natAbs<1000000000 from o)
  rw [B9 (n:=p.num*q.num) o o,B9 (n:=(p.den:Int)*q.den) o o]
  exact Ae gl.p10 (cU (den_ne p) (den_ne q)) o o ⟨_,rfl,B6 _,hK⟩
 ·refine ⟨_,_,_,_,_,rfl,Br.of (fun e=>by cases e) (fun _=>?_)⟩
  refine Au gl.tz ta.len ?_
  intro w g d j
  refine ⟨_,_,_,_,_,_,_,_,rfl,Au (gl.tz.mono d) tb.len ?_⟩
  intro B l f s
  refine ⟨_,_,_,_,_,_,_,_,rfl,Tv (gl.tz.mono (B0 d f)) (j.mono f) s ta.sz tb.sz o ?_⟩
  intro A i u r
  have c:=B0 d (B0 f u)
  exact ⟨_,_,_,_,_,_,_,_,rfl,By (gl.p10.mono c) r (ta.sz.mul tb.sz) o ⟨_,rfl,c,hK⟩⟩
end
def C17(h:aM)(r:bN)(h':aM):Prop:=r= .bool true/\h.le h'
end Go.Proofs.YtkfhdoblhajcbaaGreatDoor
namespace Go.Proofs.YtkfhdoblhajcbaaGreatDoor
set_option maxRecDepth 20000
open Go Go.RowKit
def memOf(W:World):aM:=fun b=>W.heap[b]?
def frame_of{P:cL}{f:FuncId}{args:Array bN}{W:World}(x:aH P f args (memOf W) (C17 (memOf W))):Calls P f args W fun e w'=>e= .returned (.bool true)/\Below W.heap.size W w':=by
 refine (x W (fun b o e=>e)).mono ?_
 rintro e W' ⟨r,l,i,⟨j,c⟩,a⟩
 subst j
 refine ⟨i,a.os,a.tape,a.output,a.size,fun k g=>?_⟩
 have d:memOf W k=some W.heap[k]:=Array.getElem?_eq_getElem g
 have:=a.sim k _ (c k _ d)
 rw [this];exact d.symm
def Nr{W:World}{a:aK}{v:bN}(e:W.cell? a=some v):(memOf W).cell? a=some v:=by
 unfold World.cell? at e
 unfold Heap.cell? memOf
 exact e
def row_of{W:World}{a:Option aK}{len cap:Nat}{zs:List Int}(w:(a=none/\len=0/\cap=0/\zs=[])\/
 ∃ x,a=some x/\len<=cap/\cap<=maxLen/\zs.length=cap/\(∀ i,i<zs.length->W.cell? (x.add i)=some (.int .i64 (zs.getD i 0)))/\∀ n∈zs,(Lit.int .i64 n).wf=true):∃ xs:List Int,len=xs.length/\len<=cap/\SlI .i64 (memOf W) a xs/\∀ n∈xs,(Lit.int .i64 n).wf=true:=by
 rcases w with ⟨rfl,rfl,rfl,rfl⟩|⟨x,rfl,e,j,k,d,f⟩
 ·exact ⟨[],rfl,bH _,SlI.nil,by simp⟩
 ·refine ⟨zs.take len,by simp;omega,e,.inr ⟨x,rfl,fun i v b=>?_⟩,fun n g=>f n (bM g)⟩
  rw [List.getElem?_map] at b
  cases hz:(zs.take len)[i]? with
  | none=>rw [hz] at b;cases b
  | some n=>
   rw [hz] at b
   cases b
   rw [List.getElem?_take] at hz
   split at hz
   ·have c:i<zs.length:=by
     by_cases c:i<zs.length
     ·exact c
     ·rw [List.getElem?_eq_none o] at hz;cases hz
    have:=Nr (d i c)
    rw [this]
    simp only [List.getD,hz,Option.getD_some]
   ·cases hz
def A45{P:cL}{W:World}{x:String × DataW Unit}{rest:List (String × DataW Unit)}(h:laidMet P (x::rest) W):laidMet P rest W:=by
 obtain ⟨n,d⟩:=x
 obtain ⟨ps,⟨g,t,cs,a,p,q,l,j,m,k,f,rfl⟩,c,e⟩:=h
 exact ⟨q,f,(List.nodup_append.1 c).2.1,fun b off i=>e b off (List.mem_append_right _ i)⟩
def B9b:List Int:=[0,1,28,2,29,14,24,3,30,22,20,15,25,17,4,8,31,27,13,23,21,19,16,7,26,12,18,6,11,5,10,9]
def B0d:List Int:=[0,1,56,2,57,49,28,3,61,58,42,50,38,29,17,4,62,47,59,36,45,43,51,22,53,39,33,30,24,18,12,5,63,55,48,27,60,41,37,16,46,35,44,21,52,32,23,11,54,26,40,15,34,20,31,10,25,14,19,9,13,8,7,6]
def B3r:List Int:=[1,10,100,1000,10000,100000,1000000,10000000,100000000,1000000000,10000000000,100000000000,1000000000000,10000000000000,100000000000000,1000000000000000,10000000000000000,100000000000000000,1000000000000000000,10000000000000000000]
def B34:prog.globalNamed "math/bits.deBruijn64tab" = some 0:=by kernel_rfl
def B35:prog.globalNamed "internal/strconv.uint64pow10" = some 3:=by kernel_rfl
def tabs_gl{W:World}(h:laidMet prog [("math/bits.deBruijn32tab",Rows.laid_math_bits_deBruijn32tab),("math/bits.deBruijn64tab",Rows.laid_math_bits_deBruijn64tab),("internal/strconv.uint64pow10",Rows.laid_internal_strconv_uint64pow10)] W):Gl (memOf W):=by
 have i:=A45 h
 have j:=A45 i
 have e:Lib.TabIs prog W "math/bits.deBruijn64tab" .u8 B0d:=Lib.tabIs_of_head (rest:=[("internal/strconv.uint64pow10",Rows.laid_internal_strconv_uint64pow10)]) B34 (by kernel_rfl) underlying379 underlying5 (by kernel_rfl) (by kernel_rfl) i
 have g:Lib.TabIs prog W "internal/strconv.uint64pow10" .u64 B3r:=Lib.tabIs_of_head (rest:=[]) B35 (by kernel_rfl) underlying383 underlying195 (by kernel_rfl) (by kernel_rfl) j
 have d:∀ k,k<64->A1j k<B0d.length/\B0d.getD (A1j k) 0=(k:Int):=by decide +kernel
 have f:∀ k,k<20->B3r.getD k 0=((10^k:Nat):Int):=by decide +kernel
 refine ⟨fun k c=>?_,fun k c=>?_⟩
 ·obtain ⟨a,b⟩:=d k c
  have:=Nr (e.cell B34 (A1j k) a)
  rw [D6,aV,bU,this,b]
 ·have:=Nr (g.cell B35 k (by show k<20;exact c))
  rw [D6,aV,bU,this,f k c]
def A8i(zs:List Int)(k:IntKind):Obj->Obj
 | .cells _ t frozen=>.cells (zs.map (aN k)).toArray t frozen
 | o=>o
def layTabs(a:Array Obj):Array Obj:=((a.modify 4 (A8i B9b .u8)).modify 0 (A8i B0d .u8)).modify 3 (A8i B3r .u64)
