/- A part. -/
import Derived.Test.YtdphgbjaijlckaaGreatDoorG18
import Derived.Test.YtdphgbjaijlckaaGreatDoorRows
import Derived.Lib.LaidTab
open Go.Proofs.Tryz
set_option linter.all false
open _root_.Array renaming replicate->bI
open _root_.Go.Builtin renaming zeroCells->aR,append_->aY
open _root_.ByteArray renaming size->cF
open Int renaming toNat_natCast->aC,ofNat_tmod->aU,tmod->bU,natCast_mul->bY,ofNat_tdiv->cD,gcd->cG,mul_le_mul_of_nonneg_right->cJ,pow_succ->cO
open List renaming replicate->aD,getElem?_cons_zero->aE,getElem?_cons_succ->aF,take_of_length_le->aH,length_append->aI,eq_nil_of_length_eq_zero->aK,exists_cons_of_ne_nil->aT,getElem?_eq_getElem->aX,take_succ_eq_append_getElem->bC,drop_zero->bD,takeWhile_append_dropWhile->bF,length_take->bG,drop_eq_getElem_cons->bL,append_assoc->bM,length_drop->bN,getElem_mem->bO,drop_of_length_le->bV,take_append_drop->bZ,mem_of_mem_take->cC,map_append->cL,head?_cons->cM,getLast?_singleton->cN
open Nat renaming pow_le_pow_right->aG,lt_of_lt_of_le->aP,mul_one->aS,sub_zero->aV,gcd->aW,le_refl->aZ,le_trans->bB,zero_add->bJ,min_eq_left->bW,div_le_self->bX,pow_le_pow_left->cH,pow_mul->cK
open Option.some renaming injEq->aQ
open _root_.Go.Value renaming int->aO
open _root_.Go renaming Addr->aJ,TypeId->aN,Value->bH,Program->cI
open _root_.Go.Proofs.YtdphgbjaijlckaaGreatDoor renaming Heap->aL,FCall->aM,Priv->bK
namespace Go.Proofs.YtdphgbjaijlckaaGreatDoor
set_option maxRecDepth 20000
open Go
section
variable {h g:aL} {K:VP} {A B:Option aJ} {s s':Bool} {an ac bn bc m:Nat} {x y:Int}
def V8(hs:s=decide (x<0)):(s=true/\x= -(x.natAbs:Int))\/(s=false/\x=(x.natAbs:Int)):=by
 grind
def A0j(a b:Nat):(a:Int).tdiv b=((a/b:Nat):Int)/\(-(a:Int)).tdiv (-(b:Int))=((a/b:Nat):Int)/\(-(a:Int)).tdiv b= -((a/b:Nat):Int)/\(a:Int).tdiv (-(b:Int))= -((a/b:Nat):Int):=by
 simp_all
def A0f(a b:Nat):(a:Int).tmod b=((a%b:Nat):Int)/\(-(a:Int)).tmod (-(b:Int))= -((a%b:Nat):Int)/\(-(a:Int)).tmod b= -((a%b:Nat):Int)/\(a:Int).tmod (-(b:Int))=((a%b:Nat):Int):=by
 refine ⟨(aU a b).symm,?_,?_,?_⟩
 ·rw [Int.neg_tmod,Int.tmod_neg,aU]
 ·rw [Int.neg_tmod,aU]
 ·rw [Int.tmod_neg,aU]
def My(i:ZI h s A an ac x)(j:ZI h s' B bn bc y)(hx:ZB m x)(hy:ZB m y)(hm:m<=6400000000)(hy0:y≠0)(hK:∀ s1 A1 n1 c1 s2 A2 n2 c2 h',h.le h'->ZI h' s1 A1 n1 c1 (x.tdiv y)->ZI h' s2 A2 n2 c2 (x.tmod y)->K (.tuple #[.agg #[.bool s1,.slice A1 n1 c1],.agg #[.bool s2,.slice A2 n2 c2]]) h'):aM prog 193 #[.agg #[.bool s,.slice A an ac],.agg #[.bool s',.slice B bn bc]] h K:=by
 have p:=i.len hx hm
 have r:=j.len hy hm
 have u:=j.zeroIff
 have a:=V8 i.sgn
 have b:=V8 j.sgn
 refine (fnk func193 (os:=[(4,[0,1,2,3,4,5,7,8,9,6,10,11,12])]) (own:=[2,3,4,5])) ?_
 refine D5 (fun e=>o) (fun _=>?_)
 refine M0 i.mag j.mag i.cap j.cap o o o ?_
 intro A1 q c1 A2 k c2 l f c d M1 M2
 refine ⟨_,_,_,_,_,_,rfl,?_⟩
 refine O9 (neg:= !(s==s')) M1 c ?_
 intro s1 g
 refine ⟨_,_,_,_,rfl,B3 _,?_⟩
 refine O9 (neg:=s) M2 d ?_
 intro s2 n
 refine ⟨_,_,_,_,rfl,B3 _,hK _ _ _ _ _ _ _ _ _ f ?_ ?_⟩
 ·have e:(if (!(s==s'))=true then -((x.natAbs/y.natAbs:Nat):Int) else ((x.natAbs/y.natAbs:Nat):Int))=x.tdiv y:=by
   have t:=A0j x.natAbs y.natAbs
   rcases a with ⟨rfl,hx'⟩|⟨rfl,hx'⟩<;>rcases b with ⟨rfl,hy'⟩|⟨rfl,hy'⟩<;>rw [<- hx',<- hy'] at t
   ·exact t.2.1.symm
   ·exact t.2.2.1.symm
   ·exact t.2.2.2.symm
   grind
  grind
 ·have e:(if s=true then -((x.natAbs%y.natAbs:Nat):Int) else ((x.natAbs%y.natAbs:Nat):Int))=x.tmod y:=by
   have t:=A0f x.natAbs y.natAbs
   rcases a with ⟨rfl,hx'⟩|⟨rfl,hx'⟩<;>rcases b with ⟨rfl,hy'⟩|⟨rfl,hy'⟩<;>rw [<- hx',<- hy'] at t
   ·exact t.2.1.symm
   ·exact t.2.2.1.symm
   ·exact t.2.2.2.symm
   grind
  grind
def F7(i:ZI h s A an ac x)(hK:K (.bool (decide (x=0))) h):aM prog 121 #[.agg #[.bool s,.slice A an ac]] h K:=by
 have a:=i.zeroIff
 refine (fnk func121 (own:=[1])) ?_
 have:((an:Int)==0)=decide (x=0):=by
  grind
 grind
def N2(i:ZI h s A an ac x)(hK:K (.bool (decide (x=1))) h):aM prog 118 #[.agg #[.bool s,.slice A an ac]] h K:=by
 have d:=V8 i.sgn
 have p:=i.zeroIff
 have M:=i.mag
 refine (fnk func118 (own:=[1])) ?_
 rcases d with ⟨rfl,g⟩|⟨rfl,g⟩
 ·refine Br.of (fun e=>by cases e) (fun _=>?_)
  rw [show decide (x=1)=false from gz0] at hK;exact hK
 ·refine Br.of (fun _=>?_) (fun e=>by cases e)
  obtain ⟨c,a,f,n,m,b⟩:=M
  refine D5 (fun e=>?_) (fun e=>?_)
  ·obtain ⟨w,rfl⟩:∃ w,c=[w]:=by
    rcases c with _|⟨w,_|⟨k,r⟩⟩
    ·grind
    ·grind
    grind
   refine f.load a o o ?_
   rw [O5] at b
   grind
  ·have:¬ x=1:=by
    rintro rfl
    have l:=i.mag.len_le (j:=1) dc dc
    omega
   grind
def S6(i:ZI h s A an ac x)(j:ZI h s' B bn bc y)(hx:ZB m x)(hy:ZB m y)(hm:m<=6400000000)(hy0:y≠0)(hK:∀ s1 A1 n1 c1 h',h.le h'->ZI h' s1 A1 n1 c1 (x.tdiv y)->K (.agg #[.bool s1,.slice A1 n1 c1]) h'):aM prog 139 #[.agg #[.bool s,.slice A an ac],.agg #[.bool s',.slice B bn bc]] h K:=by
 refine (fnk func139 (own:=[2,3,4,5,6])) ?_
 refine N2 j ⟨_,rfl,B5 (fun e=>?_) (fun e=>?_)⟩
 ·subst e
  exact hK _ _ _ _ _ (B3 _) gz0
 ·refine My i j hx hy hm hy0 ?_
  grind
def Px(i:ZI h s A an ac x)(j:ZI h s' B bn bc y)(hx:ZB m x)(hm:m<=6400000000)(hK:K (.bool (decide (x=y))) h):aM prog 252 #[.agg #[.bool s,.slice A an ac],.agg #[.bool s',.slice B bn bc]] h K:=by
 have d:=i.len hx hm
 have c:=i.sgn
 have b:=j.sgn
 refine (fnk func252 (own:=[2,3])) ?_
 refine Br.of (fun e=>?_) (fun e=>?_)
 ·refine H2 i.mag j.mag o ⟨_,rfl,?_⟩
  have:(Jh (x.natAbs:Int) y.natAbs==0)=decide (x=y):=by
   by_cases a:x=y
   ·subst a;unfold Jh;simp
   ·unfold Jh
    grind
  grind
 ·have:¬ x=y:=gz0
  grind
def Dr{n:Int}(h1: -9223372036854775808<=n)(h2:n<=9223372036854775807)(hK:∀ s1 A1 n1 c1 h',h.le h'->ZI h' s1 A1 n1 c1 n->K (.agg #[.bool s1,.slice A1 n1 c1]) h'):aM prog 187 #[I n] h K:=by
 refine (fnk func187 (own:=[2])) ?_
 refine B5 (fun d=>?_) (fun d=>?_)
 ·have e:C1 (0-C1 n)=(n.natAbs:Int):=by rw [E9,E9];omega
  rw [e]
  refine S0 o ?_
  intro A1 c c1 h1 b a M1
  exact ⟨_,_,_,rfl,hK _ _ _ _ _ b ⟨a,M1,gz0⟩⟩
 ·have e:C1 n=(n.natAbs:Int):=by rw [E9];omega
  rw [e]
  refine S0 o ?_
  intro A1 c c1 h1 b a M1
  exact ⟨_,_,_,rfl,hK _ _ _ _ _ b ⟨a,M1,gz0⟩⟩
end
def Tv{P:cI}{t d e:aN}(ht:P.underlying t=some .string)(hd:P.underlying d=some (.slice e))(he:P.underlying e=some (.int .u8)){h:aL}{l:List UInt8}{K:VP}
 (x:∀ A c h',h.le h'->l.length<=c->SlV h' A (yv l)->K (.slice A l.length c) h'):wpH P (convert t d (.string (bs l))) K h:=by
 unfold convert
 simp only [C0,D3 ht,D3 hd,D3 he]
 unfold Conv.stringToBytes
 simp only [C0]
 refine V4 rfl (fun p=>?_)
 have m:(bs l).size=l.length:=by rfl
 have a:l.length<=(Question.appendCap (bs l).size 0 e).cut p:=by
  simp only [Question.cut];omega
 generalize (Question.appendCap (bs l).size 0 e).cut p=cap at *
 intro b r
 generalize hcs:((bs l).data.map (fun b=>aO .u8 b.toNat)++bI (cap-(bs l).size) (aO .u8 0))=cs
 have g:h.le (h.put b (.cells cs e (cs.size,cs.size+1))):=Heap.le_put _ r
 have j:(h.put b (.cells cs e)).freeze { block:=b,off:=cs.size } 1=h.put b (.cells cs e (cs.size,cs.size+1)):=by
  unfold Heap.freeze
  rw [iN dc]
  funext k
  by_cases f:k=b
  ·subst f
   simp only [if_true,B8,Option.map_some]
   rfl
  ·rw [iN f,B4 _ _ f,B4 _ _ f]
 refine ⟨cs,e,_,B8 _ _ _,?_⟩
 refine ⟨⟨_,B8 _ _ _⟩,?_⟩
 show K (.slice (some ⟨b,0,none⟩) (bs l).size cap) ((h.put b (.cells cs e)).freeze { block:=b,off:=cs.size } 1)
 rw [j,m]
 refine x _ _ _ g a (.inr ⟨_,rfl,?_⟩)
 intro i v n
 have s:i<l.length:=by
  have:=(List.getElem?_eq_some_iff.1 n).1
  simpa [yv] using this
 have q:Addr.add ⟨b,0,none⟩ i=⟨b,i,none⟩:=by rw [D4,bJ]
 rw [q,D6,<- hcs,Array.getElem?_append_left (by simp_all)]
 rw [<- n]
 simp [yv,bs]
def ZB.tdiv{m:Nat}{x y:Int}(h:ZB m x):ZB m (x.tdiv y):=by
 unfold ZB at *
 rw [Int.natAbs_tdiv]
 exact Nat.lt_of_le_of_lt (bX _ _) h
section
variable {h g:aL} {K:VP} {A B:Option aJ} {s s':Bool} {an ac bn bc m:Nat} {x y:Int}
end
def Uo{ws:List Int}{k:Nat}(d:Dig b64 ws)(hl:ws.length=k+1)(h:b64^k<=val b64 ws):Norm ws:=by
 intro e
 have:=(S2 (B:=b64) dc d hl).1
 grind
section
variable {h g:aL} {K:VP} {A B:Option aJ} {ac bc:Nat}
def A1o{Invv:LP}{muv:LN}{d1:ByteArray}{n c:Nat}{chunk base:Int}{us:List Int}{hp hp2:aL}(p:Pw hp2 g A n c us)(hn:n=us.length)(du:Dig b64 us)(nu:Norm us)(hl:n<=9000000000000)(hch:0<=chunk/\chunk<18446744073709551616)(hba:1<=base/\base<18446744073709551616)
 (hK:∀ A' n' c' us' h' g',g.le g'->Pw h' g' A' n' c' us'->n'=us'.length->n'<=n+1->Dig b64 us'->Norm us'->val b64 us'=chunk+base*val b64 us->Invv [.string ((d1).extract ((B7 ((bU (B7 (((cF d1:Nat):Int)-(1:Int))) (19:Int))+(1:Int))).toNat) ((d1).size)),.slice A' n' c'] h'/\muv [.string ((d1).extract ((B7 ((bU (B7 (((cF d1:Nat):Int)-(1:Int))) (19:Int))+(1:Int))).toNat) ((d1).size)),.slice A' n' c'] h'<muv [.string d1,.slice A n c] hp):
 T5 prog Invv muv d1 A n c chunk base hp hp2:=by
 have F:=C3 dc du
 refine ⟨fun l q=>∃ (k:Nat) (e:Int) (d:List Int),l=[U e,I k]/\k<=n/\(0<=e/\e<18446744073709551616)/\d.length=us.length/\Dig b64 d/\Pw q g A n c d/\d.drop k=us.drop k/\val b64 (d.take k)+b64^k*e=chunk+base*val b64 (us.take k),fun l _=>n-(iAt l 1).toNat,⟨0,chunk,us,rfl,o,hch,rfl,du,p,rfl,by simp [val]⟩,?_⟩
 rintro e i q ⟨k,E,d,aa,hk,j,s,t,pw,y,z⟩
 obtain ⟨rfl,rfl⟩:e=E/\i=(k:Int):=gz0
 refine B5 (fun X=>?_) (fun X=>?_)
 ·have N:=J3 t k
  have D:=D7 y
  have S:=C2 b64 us k
  have C:d≠[]:=by rintro rfl;simp at s;omega
  obtain ⟨b,O,w,hc⟩:=Y8 pw C
  refine w.sl.load o o o ?_
  simp only [aC]
  generalize hx:d.getD k 0=x at *
  refine L8 N o j ⟨_,_,rfl,?_⟩
  obtain ⟨a,Q,_⟩:=SlV.at w.sl (i:=k) (by simp_all)
  refine ⟨a,Q,o,o,w.storeN E6 Q o ?_⟩
  intro h4 R
  have V:=Em N (show 0<=base/\base<18446744073709551616 from o) j
  have kP:=Og (x*base+e)
  have W:B7 ((k:Int)+1)=((k+1:Nat):Int):=by rw [B6 o o];omega
  rw [W]
  have G:=R.priv (m:=n) (c:=c) (by simp_all) (by simp_all) (by simp_all)
  rw [aH (by simp_all)] at G
  refine ⟨⟨k+1,_,_,rfl,o,V,by simp_all,t.set (W6 _),G,?_,?_⟩,by simp only [iAt,aE,aF];omega⟩
  ·rw [C8 o];exact D0 y
  ·rw [C5 o,D8,bG,bW o,cO,S,<- D,kP]
   grind
 ·obtain rfl:k=n:=o
  rw [aH (show d.length<=k from o),aH (show us.length<=k from o)] at z
  refine K8 (fun L=>?_) (fun L=>?_)
  ·refine U6 K0 pw rfl rfl o o ?_
   intro A5 c5 h5 g5 T H
   rw [<- List.map_singleton (f:=aO .u64),<- cL] at H
   refine hK A5 (k+1) c5 (d++[e]) h5 g5 T H (by simp_all) o (t.append (Dig.one j)) ?_ ?_
   ·unfold Norm;simp_all
   ·rw [D8,<- z,s,<- hn]
  ·subst L
   rw [Int.mul_zero,Int.add_zero] at z
   refine hK A k c d q g (B3 _) pw o o t ?_ z
   rcases us with _|⟨u,r⟩
   ·simp_all
   ·refine Uo (k:=r.length) t o ?_
    have M:Mw hp2 A k (val b64 (u::r)):=⟨_,hn,p.slV,du,nu,rfl⟩
    have B:=M.ge dc (by simp_all)
    rw [show k-1=r.length by simp_all] at B
    have:1*val b64 (u::r)<=base*val b64 (u::r):=cJ hba.1 F
    omega
end
section
variable {h g:aL} {K:VP} {A B:Option aJ} {ac bc:Nat}
def A23{k:Nat}(h:k<=19):10^k<=10000000000000000000:=bB (aG dc h) dc
def Vf{Invv:LP}{muv:LN}{d1:ByteArray}{n c tn:Nat}{T:Option aJ}{l:List UInt8}{hp hp1:aL}(sv:SlV hp1 T (yv l))(ht:tn=l.length)(hd:∀ c∈l,F4 c)(h19:l.length<=19)
 (hK:(0<=B7 ((bU (B7 (((cF d1:Nat):Int)-(1:Int))) (19:Int))+(1:Int))/\B7 ((bU (B7 (((cF d1:Nat):Int)-(1:Int))) (19:Int))+(1:Int))<=(((d1).size:Nat):Int))/\T5 prog Invv muv d1 A n c (G8 l:Int) ((10^l.length:Nat):Int) hp hp1):
 Db prog Invv muv d1 A n c T tn hp1 hp:=by
 refine ⟨fun s hp=>hp=hp1/\∃ k:Nat,s=[U (G8 (l.take k)),U ((10^k:Nat):Int),I k]/\k<=l.length,fun s _=>l.length-(iAt s 2).toNat,⟨rfl,0,by rfl,o⟩,?_⟩
 rintro z B i x ⟨rfl,k,f,y⟩
 obtain ⟨rfl,rfl,rfl⟩:=f
 refine B5 (fun u=>?_) (fun u=>?_)
 ·have b:k<l.length:=o
  obtain ⟨a,r,j⟩:=SlV.at sv (i:=k) (by rw [Bj];omega)
  have g:=hd l[k] (bO b)
  have e:=U8 (l:=l.take k) (fun c j=>hd c (cC j))
  rw [bG,bW o] at e
  have q:=A23 (k:=k+1) o
  have d:10^(k+1)=10^k*10:=Nat.pow_succ _ _
  refine ⟨a,r,o,o,((l[k].toNat:Nat):Int),?_,?_⟩
  ·rw [aC,aS,j];simp [yv]
  ·unfold F4 at g
   have m:C1 (wu8 (((l[k].toNat:Nat):Int)-48))=((l[k].toNat-48:Nat):Int):=by
    rw [Js o o,B9 o o];omega
   have w:C1 (C1 (10*((G8 (l.take k):Nat):Int))+C1 (wu8 (((l[k].toNat:Nat):Int)-48)))=((G8 (l.take (k+1)):Nat):Int):=by
    rw [m,B9 (n:=10*((G8 (l.take k):Nat):Int)) o o,B9 o o,bC b,Bu];omega
   have p:C1 (((10^k:Nat):Int)*10)=((10^(k+1):Nat):Int):=by rw [B9 o o,d];simp
   have t:B7 ((k:Int)+1)=((k+1:Nat):Int):=by rw [B6 o o];omega
   rw [w,p,t]
   exact ⟨⟨rfl,k+1,rfl,o⟩,by simp only [iAt,aE,aF];omega⟩
 grind
def Ha{l:List UInt8}(hd:∀ c∈l,F4 c)(hl:l.length<=140737488351232)(hK:∀ A n c h',h.le h'->n<=c->Mw h' A n (G8 l:Int)->K (.slice A n c) h'):aM prog 257 #[.string (bs l)] h K:=by
 refine Jd _ ?_
 refine ⟨fun s D=>∃ (e a:List UInt8) (b:List Int) (A:Option aJ) (n c:Nat) (g:aL),s=[.string (bs a),.slice A n c]/\l=e++a/\h.le g/\Pw D g A n c b/\n=b.length/\Dig b64 b/\Norm b/\val b64 b=(G8 e:Int)/\19*n<=e.length+18/\(n=0\/a.length%19=0),fun s _=>match s with|[.string d,_]=>d.size|_=>0,⟨[],l,[],none,0,0,h,rfl,rfl,B3 h,Priv.nil _ _ _ _,rfl,Dig.nil,Norm.nil,rfl,o,.inl rfl⟩,?_⟩
 rintro d1 A1 n1 c1 D ⟨e,a,b,A2,n2,c2,g,W,f,B,p,G,z,F,H,V,L⟩
 obtain ⟨rfl,rfl,rfl,rfl⟩:=W
 have C:l.length=e.length+a.length:=gz0
 rw [G7]
 refine B5 (fun Q=>?_) (fun Q=>?_)
 ·obtain ⟨sz,hsz⟩:∃ sz,sz=(a.length-1)%19+1:=⟨_,rfl⟩
  have x:B7 (bU (B7 ((a.length:Int)-1)) 19+1)=(sz:Int):=by
   rw [B6 (n:=(a.length:Int)-1) o o,Int.tmod_eq_emod_of_nonneg o,B6 o o];omega
  rw [x,aC,J7]
  refine ⟨⟨o,o⟩,Tv O6 Ah.und V5 ?_⟩
  intro T tc h2 X ab E
  refine ⟨_,_,_,rfl,?_⟩
  have S:(a.drop 0).take (sz-0)=a.take sz:=by simp
  rw [S] at E ⊢
  have y:(a.take sz).length=sz:=gz0
  obtain ⟨g2,j,N⟩:=p.after X
  refine Vf E rfl (fun c hc=>hd c gz0) o ?_
  rw [G7,x]
  refine ⟨⟨o,o⟩,?_⟩
  have i:=U8 (l:=a.take sz) (fun c hc=>hd c gz0)
  rw [y] at i ⊢
  have ht:=A23 (k:=sz) o
  refine A1o N G z F o o o ?_
  intro A' M O q h' R m p' u aa t w r
  rw [G7,x,aC,J7,aH gz0]
  refine ⟨⟨e++a.take sz,a.drop sz,q,A',M,O,R,rfl,by simp_all,A0 B (A0 j m),p',u,t,w,?_,?_,?_⟩,?_⟩
  ·rw [r,H,Ab,y,Int.natCast_add,bY,Int.mul_comm];omega
  ·rw [aI,y];omega
  ·rw [bN];omega
  ·simp only [G7,bN];omega
 ·have:a=[]:=aK o
  subst this
  rw [List.append_nil] at f
  subst f
  exact hK _ _ _ _ (A0 B p.le) p.2.1 ⟨b,G,p.slV,z,F,H⟩
end
def zb(l:List UInt8):List Int:=l.map fun c=>(c.toNat:Int)
def Bh(l:List UInt8):(zb l).length=l.length:=by simp [zb]
def Mz(a b:List UInt8):zb (a++b)=zb a++zb b:=by simp [zb]
def A53(l:List UInt8):(zb l).map (aO .u8)=yv l:=by simp [zb,yv]
def Ud:∀ v,v<100->G2[2*v+1]? = some (dch (v%10))/\G2[2*v]? = some (dch (v/10)):=by decide +kernel
def Ni(a:Nat):bU (a:Int) 100=((a%100:Nat):Int):=(aU a 100).symm
def tm4(a:Nat):bU (a:Int) 10000=((a%10000:Nat):Int):=(aU a 10000).symm
def tm8(a:Nat):bU (a:Int) 100000000=((a%100000000:Nat):Int):=(aU a 100000000).symm
def Qg(a:Nat):Int.tdiv (a:Int) 100=((a/100:Nat):Int):=(cD a 100).symm
def td4(a:Nat):Int.tdiv (a:Int) 10000=((a/10000:Nat):Int):=(cD a 10000).symm
def td8(a:Nat):Int.tdiv (a:Int) 100000000=((a/100000000:Nat):Int):=(cD a 100000000).symm
def Bc{a:Nat}(h:a<4294967296):F6 (a:Int)=a:=J8 o o
def Ek(a:Nat):(a:Int)*2=((2*a:Nat):Int):=o
def Rv(a:Nat):(a:Int)+1=((a+1:Nat):Int):=o
def FBI(g:aL)(b:Nat)(e:aN)(A:Option aJ)(pre post:List bH)(N u0 nd u:Nat)(hp:aL):Prop:=
 ∃ (ys:List Int) (t:List UInt8),Win .u8 hp g b e A pre (ys++zb t) post/\ys.length=nd/\nd+t.length=N/\pad N u0=pad nd u++t/\u<10^nd
section
variable {P:cI} {h g:aL} {K:VP} {A:Option aJ} {b:Nat} {e:aN} {pre post:List bH}
def Dg(one:P.cellsOf 5=1/\(P.info? 5).isSome=true){N u0 j u:Nat}(f:FBI g b e A pre post N u0 (j+2) u h){E1 E0 I1 I2:Int}(h1:E1=((2*(u%100)+1:Nat):Int))(h0:E0=((2*(u%100):Nat):Int))(hI1:I1=((j+1:Nat):Int))(hI2:I2=(j:Int)){C:aL->Prop}(hC:∀ h',FBI g b e A pre post N u0 j (u/100) h'->C h'):
 ∃ (t:UInt8),(0<=E1/\G2[E1.toNat]? = some t)/\∃ (t0:UInt8),(0<=E0/\G2[E0.toNat]? = some t0)/\∃ a1,A=some a1/\0<=I1/\I1<((N:Nat):Int)/\wpH P (Instr.storeAt 5 (.pointer (some (Addr.add a1 (I1.toNat*1)))) (Y ((t.toNat:Nat):Int))) (fun _ hp1=>∃ a2,A=some a2/\0<=I2/\I2<((N:Nat):Int)/\wpH P (Instr.storeAt 5 (.pointer (some (Addr.add a2 (I2.toNat*1)))) (Y ((t0.toNat:Nat):Int))) (fun _ hp2=>C hp2) hp1) h:=by
 subst h1 h0 hI1 hI2
 obtain ⟨c,t,w,y,E,i,D⟩:=f
 obtain ⟨n,m⟩:=Ud (u%100) o
 have r:∃ a,A=some a:=by
  rcases w.at_ with h0|h0
  ·simp_all
  grind
 obtain ⟨a,d⟩:=r
 have k:(c++zb t).length=N:=by rw [aI,Bh];omega
 refine ⟨_,⟨o,by exact n⟩,_,⟨o,by exact m⟩,a,d,o,o,?_⟩
 refine w.storeN one d o ?_
 intro z q
 refine ⟨a,d,o,o,?_⟩
 refine q.storeN one d gz0 ?_
 intro p B
 refine hC p ⟨c.take j,[dch (u/10%10),dch (u%10)]++t,?_,gz0,gz0,?_,?_⟩
 ·have x:((c++zb t).set (j+1) ((dch (u%100%10)).toNat:Int)).set j ((dch (u%100/10)).toNat:Int)=c.take j++zb ([dch (u/10%10),dch (u%10)]++t):=by
   have s:c=c.take j++[c[j]'o,c[j+1]'o]:=by
    conv=>lhs;rw [<- bZ j c]
    congr 1
    rw [bL o,bL o,bV o]
   have l:(c.take j).length=j:=gz0
   rw [s,show u%100%10=u%10 from o,show u%100/10=u/10%10 from o]
   generalize c[j]'_=y0
   generalize c[j+1]'_=y1
   rw [List.take_append_of_le_length o,aH (show (c.take j).length<=j from o)]
   generalize c.take j=zs at *
   rw [bM,List.set_append_right _ _ o,List.set_append_right _ _ o,l,Mz]
   simp [zb]
  grind
 ·rw [i,A43];simp
 grind
end
section
variable {h g:aL} {K:VP} {A:Option aJ} {b:Nat} {e:aN} {pre post:List bH}
def Dw:prog.cellsOf 5=1/\(prog.info? 5).isSome=true:=Uc
def A6z{N u0 nd x:Nat}(hN:N<=24)(f:FBI g b e A pre post N u0 nd x h)(hn:nd<2)(hK:∀ h',Win .u8 h' g b e A pre (zb (pad N u0)) post->K (.tuple #[]) h'):Az prog A N K nd x h:=by
 obtain ⟨c,t,w,l,hN,i,B⟩:=f
 refine B5 (fun n=>?_) (fun n=>?_)
 ·obtain rfl:nd=1:=o
  obtain ⟨y,rfl⟩:∃ y,c=[y]:=by
   rcases c with _|⟨y,_|⟨z,r⟩⟩
   ·grind
   ·grind
   grind
  have s:∃ a,A=some a:=by
   rcases w.at_ with p|p
   ·grind
   grind
  obtain ⟨a,j⟩:=s
  refine ⟨a,j,o,o,?_⟩
  refine w.storeN Dw j (by simp) ?_
  intro m q
  refine hK m ?_
  have d:x<10:=o
  have k:wu8 (F6 (48+(x:Int)))=((dch x).toNat:Int):=by
   rw [J8 o o,Js o o,X5 d];omega
  rw [k] at q
  have u:pad 1 x=[dch x]:=by
   rw [Hl,Xi _ o,show x%10=x from o];rfl
  rw [i,u,Mz]
  assumption
 ·obtain rfl:nd=0:=o
  have:c=[]:=aK l
  subst this
  have d:x=0:=o
  refine hK h ?_
  rw [i,Xi _ d]
  assumption
def A6y{N u0 nd x:Nat}(hN:N<=24)(f:FBI g b e A pre post N u0 nd x h)(hn:nd<4)(hK:∀ h',Win .u8 h' g b e A pre (zb (pad N u0)) post->K (.tuple #[]) h'):Ba prog A N K nd x h:=by
 have u:x<10000:=by
  obtain ⟨_,_,_,_,_,_,n⟩:=f
  exact aP n (bB (aG dc (show nd<=4 from o)) dc)
 refine ⟨fun l d=>∃ nd x:Nat,l=[I nd,U32 x]/\FBI g b e A pre post N u0 nd x d/\nd<2,B5 (fun m=>?_) (fun m=>?_),?_⟩
 ·obtain ⟨j,rfl⟩:∃ j,nd=j+2:=⟨nd-2,o⟩
  refine Dg Dw f ?_ ?_ (by rw [B6 o o];omega) (by rw [B6 o o];omega) ?_
  ·simp (disch:=omega) only [Ni,Bc,Ek,Rv]
  ·simp (disch:=omega) only [Ni,Bc,Ek]
  ·intro t i
   refine ⟨j,x/100,?_,i,o⟩
   rw [B6 o o,Qg,Bc o]
   grind
 ·grind
 ·rintro c r d ⟨q,p,s,k,a⟩
  obtain ⟨rfl,rfl⟩:c=(q:Int)/\r=(p:Int):=gz0
  exact A6z hN k a hK
def Q1{u an ac:Nat}{xs:List Int}(w:Win .u8 h g b e A pre xs post)(hn:an=xs.length)(hN:an<=24)(hu:u<10^an)(hu2:u<18446744073709551616)(hK:∀ h',Win .u8 h' g b e A pre (zb (pad an u)) post->K (.tuple #[]) h'):aM prog 241 #[.slice A an ac,U (u:Int)] h K:=by
 refine Hj _ _ _ _ ?_
 refine ⟨fun l d=>∃ a v:Nat,l=[U v,I a]/\FBI g b e A pre post an u a v d/\v<=u,fun l _=>(iAt l 1).toNat,⟨an,u,rfl,⟨xs,[],by simpa [zb] using w,hn.symm,by simp,by simp,hu⟩,aZ _⟩,?_⟩
 rintro C i d ⟨a,v,O,f,Q⟩
 obtain ⟨rfl,rfl⟩:C=(v:Int)/\i=(a:Int):=gz0
 have M:a<=an:=by obtain ⟨_,_,_,_,hN,_,_⟩:=f;omega
 refine B5 (fun t=>?_) (fun t=>?_)
 ·obtain ⟨j,rfl⟩:∃ j,a=j+8:=⟨a-8,o⟩
  refine Dg (j:=j+6) Dw f ?_ ?_ (by rw [B6 o o];omega) (by rw [B6 o o];omega) ?_
  ·simp (disch:=omega) only [tm8,tm4,Ni,Bc,Ek,Rv];omega
  ·simp (disch:=omega) only [tm8,tm4,Ni,Bc,Ek];omega
  intro p H
  refine Dg (j:=j+4) Dw H ?_ ?_ (by rw [B6 o o];omega) (by rw [B6 o o];omega) ?_
  ·simp (disch:=omega) only [tm8,tm4,Qg,Bc,Ek,Rv];omega
  ·simp (disch:=omega) only [tm8,tm4,Qg,Bc,Ek];omega
  intro F c
  refine Dg (j:=j+2) Dw c ?_ ?_ (by rw [B6 o o];omega) (by rw [B6 o o];omega) ?_
  ·simp (disch:=omega) only [tm8,Ni,td4,Bc,Ek,Rv];omega
  ·simp (disch:=omega) only [tm8,Ni,td4,Bc,Ek];omega
  intro s n
  refine Dg (j:=j) Dw n ?_ ?_ (by rw [B6 o o];omega) (by rw [B6 o o];omega) ?_
  ·simp (disch:=omega) only [tm8,Qg,td4,Bc,Ek,Rv];omega
  ·simp (disch:=omega) only [tm8,Qg,td4,Bc,Ek];omega
  intro N D
  have L:B7 (((j+8:Nat):Int)-8)=(j:Int):=by rw [B6 o o];omega
  have z:C1 (Int.tdiv (v:Int) 100000000)=((v/100/100/100/100:Nat):Int):=by
   rw [td8,B9 o o];omega
  rw [L,z]
  exact ⟨⟨j,_,rfl,D,o⟩,by simp only [iAt,aE,aF];omega⟩
 ·have y:v<100000000:=by
   obtain ⟨_,_,_,_,_,_,hu⟩:=f
   exact aP hu (bB (aG dc (show a<=8 from o)) dc)
  refine ⟨fun l d=>∃ a x:Nat,l=[I a,U32 x]/\FBI g b e A pre post an u a x d/\a<4,B5 (fun p=>?_) (fun p=>?_),?_⟩
  ·obtain ⟨j,rfl⟩:∃ j,a=j+4:=⟨a-4,o⟩
   refine Dg (j:=j+2) Dw f ?_ ?_ (by rw [B6 o o];omega) (by rw [B6 o o];omega) ?_
   ·simp (disch:=omega) only [tm4,Ni,Bc,Ek,Rv];omega
   ·simp (disch:=omega) only [tm4,Ni,Bc,Ek];omega
   intro F c
   refine Dg (j:=j) Dw c ?_ ?_ (by rw [B6 o o];omega) (by rw [B6 o o];omega) ?_
   ·simp (disch:=omega) only [tm4,Qg,Bc,Ek,Rv];omega
   ·simp (disch:=omega) only [tm4,Qg,Bc,Ek];omega
   intro s n
   refine ⟨j,v/100/100,?_,n,o⟩
   rw [B6 o o,Bc o,td4,Bc o]
   grind
  ·exact ⟨a,v,by rw [Bc o],f,o⟩
  ·rintro m G B ⟨r,q,E,c,k⟩
   obtain ⟨rfl,rfl⟩:m=(r:Int)/\G=(q:Int):=gz0
   exact A6y hN c k hK
end
def Ik{P:cI}{h:aL}{l:List UInt8}{m:Nat}{ys:List bH}(hy:ys=yv l)(hm:m=l.length){K:Array bH->aL->Prop}(x:K ys.toArray h):wpH P (Builtin.firstCells 1 m (.string (bs l))) K h:=by
 show K _ h
 have e:((bs l).extract 0 l.length).data.map (fun b=>aO .u8 b.toNat)=(yv l).toArray:=by
  apply Array.toList_inj.1
  simp [bs,yv]
 grind
def Ja{P:cI}{t e e' ty:aN}{z:bH}{bytes:Nat}(st:SliceT P t e z 1 bytes){h g:aL}{A:Option aJ}{n c:Nat}{xs:List bH}(p:bK h g e' 1 A n c xs)
 {B:Option aJ} {m d:Nat} {ys:List bH} (hy:ys.length=m) (hc:SlV h B ys) (h1:∀ v∈ys,Qx v=true) (hb:(2*(n+m)+192)*bytes<=281474976710656) (hm:n+m<=9223372036854775807) {K:VP}
 (x1:n+m<=c->∀ h',bK h' g e' 1 A (n+m) c (xs++ys)->K (.slice A (n+m) c) h') (x2:c<n+m->∀ A' c' h' g',g.le g'->bK h' g' e 1 A' (n+m) c' (xs++ys)->K (.slice A' (n+m) c') h'):
 wpH P (aY #[t,t] ty #[.slice A n c,.slice B m d]) K h:=by
 obtain ⟨i,x,W,H,w⟩:=st.parts
 have R:=p.1
 unfold aY
 simp only [List.getElem?_toArray,aE,aF,C0,D3 st.und,H1 x,F3,Bool.false_eq_true,if_false,Builtin.lenOf,H,Bool.not_false,if_true]
 by_cases f:n+m<=c
 ·simp only [f,if_true,C0]
  refine G9 o hc ?_
  rcases p.2.2 with ⟨E,S⟩|⟨b,N,V,O,X,C,F⟩
  ·have Q:n=0:=o
   subst Q;subst S
   have G:ys=[]:=aK o
   have r:K (.slice A (0+m) c) h:=x1 f h ⟨gz0,o,.inl ⟨E,rfl⟩⟩
   subst G
   cases A with
   | none=>exact r
   | some a=>exact r
  ·subst V
   simp only [C0,D4,bJ]
   rw [X]
   rw [aS] at C F ⊢
   refine G1 ys.toArray.toList n 0 N ?_ (fun v hv=>h1 v o) ?_
   ·grind
   ·refine x1 f _ ⟨gz0,f,.inr ⟨b,_,rfl,O,rfl,?_,?_⟩⟩
    ·simp only [H0,aI,bG,bN,C,hy];omega
    ·unfold H0
     grind
 ·have q:c<n+m:=o
  simp only [f,if_false,C0,E4 x,w]
  have L:=Cm q
  have aa:Builtin.nextslicecap (n+m) c*bytes<=281474976710656:=bB (Nat.mul_le_mul_right _ L) hb
  rw [iN (by rintro ⟨h',_⟩;simp only [IntKind.max,IntKind.signed,IntKind.bits] at h';omega)]
  simp only [C0,E4 x,w]
  rw [iN o]
  simp only [F3,C0]
  refine V4 rfl fun tt=>?_
  simp only [S8,E4 x]
  have u:xs=[]\/∃ a,A=some a/\∀ j v,xs[j]? = some v->h.cell? (a.add j)=some v:=p.slV
  refine G9 p.1 u ?_
  refine G9 o hc ?_
  simp only [I8 x W,O4]
  intro b k
  have y:∃ l,(Question.appendCap (n+m) c e).cut tt=l/\n+m<=l:=⟨_,rfl,by simp only [Question.cut];omega⟩
  obtain ⟨l,M,D⟩:=y
  rw [M]
  have s:=p.le
  refine x2 q _ l _ h s ⟨gz0,D,.inr ⟨b,xs++ys++(aR z.cells (l-(n+m))).toList,rfl,k,?_,?_,?_⟩⟩
  ·congr 1;simp
  ·have T:(aR z.cells (l-(n+m))).toList.length=l-(n+m):=by simp [aR,st.cells]
   grind
  grind
def Vi{P:cI}{t e e' ty t2:aN}{z:bH}{bytes:Nat}(st:SliceT P t e z 1 bytes)(hu:P.underlying t2=some .string){h g:aL}{A:Option aJ}{n c:Nat}{xs:List bH}(p:bK h g e' 1 A n c xs)
 {m:Nat} {l:List UInt8} {ys:List bH} (hly:ys=yv l) (hm0:m=l.length) (hy:ys.length=m) (h1:∀ v∈ys,Qx v=true) (hb:(2*(n+m)+192)*bytes<=281474976710656) (hm:n+m<=9223372036854775807) {K:VP}
 (x1:n+m<=c->∀ h',bK h' g e' 1 A (n+m) c (xs++ys)->K (.slice A (n+m) c) h') (x2:c<n+m->∀ A' c' h' g',g.le g'->bK h' g' e 1 A' (n+m) c' (xs++ys)->K (.slice A' (n+m) c') h'):
 wpH P (aY #[t,t2] ty #[.slice A n c,.string (bs l)]) K h:=by
 obtain ⟨i,x,V,G,w⟩:=st.parts
 have Q:=p.1
 unfold aY
 simp only [List.getElem?_toArray,aE,aF,C0,D3 st.und,D3 hu,H1 x,F3,Bool.false_eq_true,if_false,Builtin.lenOf,G,Bool.not_false,if_true,G7,<- hm0]
 by_cases d:n+m<=c
 ·simp only [d,if_true,C0]
  refine Ik hly hm0 ?_
  rcases p.2.2 with ⟨D,R⟩|⟨b,M,T,N,W,B,E⟩
  ·have O:n=0:=o
   subst O;subst R
   have F:ys=[]:=aK o
   have r:K (.slice A (0+m) c) h:=x1 d h ⟨gz0,o,.inl ⟨D,rfl⟩⟩
   subst F
   cases A with
   | none=>exact r
   | some a=>exact r
  ·subst T
   simp only [C0,D4,bJ]
   rw [W]
   rw [aS] at B E ⊢
   refine G1 ys.toArray.toList n 0 M ?_ (fun v hv=>h1 v o) ?_
   ·grind
   ·refine x1 d _ ⟨gz0,d,.inr ⟨b,_,rfl,N,rfl,?_,?_⟩⟩
    ·simp only [H0,aI,bG,bN,B,hy];omega
    ·unfold H0
     grind
 ·have q:c<n+m:=o
  simp only [d,if_false,C0,E4 x,w]
  have H:=Cm q
  have aa:Builtin.nextslicecap (n+m) c*bytes<=281474976710656:=bB (Nat.mul_le_mul_right _ H) hb
  rw [iN (by rintro ⟨h',_⟩;simp only [IntKind.max,IntKind.signed,IntKind.bits] at h';omega)]
  simp only [C0,E4 x,w]
  rw [iN o]
  simp only [F3,C0]
  refine V4 rfl fun X=>?_
  simp only [S8,E4 x]
  have u:xs=[]\/∃ a,A=some a/\∀ j v,xs[j]? = some v->h.cell? (a.add j)=some v:=p.slV
  refine G9 p.1 u ?_
  refine Ik hly hm0 ?_
  simp only [I8 x V,O4]
  intro b f
  have y:∃ k,(Question.appendCap (n+m) c e).cut X=k/\n+m<=k:=⟨_,rfl,by simp only [Question.cut];omega⟩
  obtain ⟨k,L,C⟩:=y
  rw [L]
  have s:=p.le
  refine x2 q _ k _ h s ⟨gz0,C,.inr ⟨b,xs++ys++(aR z.cells (k-(n+m))).toList,rfl,f,?_,?_,?_⟩⟩
  ·congr 1;simp
  ·have S:(aR z.cells (k-(n+m))).toList.length=k-(n+m):=by simp [aR,st.cells]
   grind
  grind
def Lj(l:List UInt8):∀ v∈yv l,Qx v=true:=by
 intro v a
 simp only [yv,List.mem_map] at a
 obtain ⟨c,_,rfl⟩:=a
 rfl
def Fa{P:cI}{t:aN}{z v:bH}(hz:(P.info? t).map (fun i=>i.zero)=some (some z)){K:VP}{h:aL}(x:∀ b,h b=none->K (.pointer (some ⟨b,0,none⟩)) (h.put b (.cells z.cells t))):wpH P (Instr.alloc t true v) K h:=by
 cases hi:P.info? t with
 | none=>rw [hi] at hz;cases hz
 | some i=>
  rw [hi] at hz
  simp only [Option.map_some,aQ] at hz
  unfold Instr.alloc
  simp only [C0,I8 hi hz]
  exact x
def Tq:(prog.info? 280).map (fun i=>i.zero)=some (some (.agg (bI 24 (.int .u8 0)))):=by kernel_rfl
def Gp(h:aL):Prop:=∀ k,k<20->h.cell? (Addr.add ⟨0,0,none⟩ (k*1))=some (U ((10^k:Nat):Int))
def Gp.mono{h h':aL}(g:Gp h)(l:h.le h'):Gp h':=fun k a=>C4 l (g k a)
section
variable {h g:aL} {K:VP}
def Jv{i:Nat}(hi:i<100)(hK:K (.string (bs (J2 i))) h):aM prog 239 #[I i] h K:=by
 refine Zw _ ?_
 have key:∀ i:Nat,i<100->(i<10->Ll.extract i (i+1)=bs (J2 i))/\(¬ i<10->G2.extract (2*i) (2*i+2)=bs (J2 i)):=by
  intro i hi
  revert i
  decide +kernel
 obtain ⟨b,c⟩:=key i hi
 refine B5 (fun d=>?_) (fun d=>?_)
 ·have a:B7 ((i:Int)+1)=((i+1:Nat):Int):=by rw [B6 o o];omega
  rw [a,aC,aC,b o]
  exact ⟨⟨o,by show _<=((36:Nat):Int);omega⟩,⟨o,o⟩,hK⟩
 ·have a:B7 ((i:Int)*2)=((2*i:Nat):Int):=by rw [B6 o o];omega
  have e:B7 (((2*i:Nat):Int)+2)=((2*i+2:Nat):Int):=by rw [B6 o o];omega
  rw [a,e,aC,aC,c o]
  exact ⟨⟨o,by show _<=((200:Nat):Int);omega⟩,⟨o,o⟩,hK⟩
def U7{d:Nat}(gp:Gp h)(h0:d≠0)(hd:d<18446744073709551616)(hK:K (I ((dd d).length:Int)) h):aM prog 240 #[U (d:Int)] h K:=by
 refine (fnk func240) ?_
 have e:K3 d<=64:=By hd
 obtain ⟨_,_,c⟩:=A2f (K3 d) o
 refine Tc hd ⟨_,rfl,(fnk func268) ?_⟩
 have b:Int.fdiv (B7 ((K3 d:Int)*78913)) (2^(min ((18:Int)).toNat 64))=((ndg (K3 d):Nat):Int):=by
  rw [show (2:Int)^(min ((18:Int)).toNat 64)=262144 from dc,Int.fdiv_eq_ediv_of_nonneg _ dc,B6 o o]
  rfl
 rw [b]
 refine ⟨_,rfl,⟨o,o⟩,_,by rw [aC];exact gp _ o,(fnk func269) ?_⟩
 rw [A6s h0 hd] at hK
 refine B5 (fun a=>⟨_,rfl,?_⟩) (fun a=>⟨_,rfl,?_⟩)
 ·rw [iP o] at hK
  rw [B6 o o]
  exact hK
 ·rw [iN o] at hK
  rw [B6 o o]
  exact hK
def Jb{e':aN}{A:Option aJ}{n c i:Nat}{l:List UInt8}(gp:Gp h)(p:bK h g e' 1 A n c (yv l))(hi:i<18446744073709551616)(hn:n<=1000000000000)
 (hK:∀ A' c' e2 h' g',g.le g'->bK h' g' e2 1 A' (n+(J2 i).length) c' (yv (l++J2 i))->(n+(J2 i).length<=c->A'=A/\c'=c/\e2=e')->(e'=5->e2=5)->K (.slice A' (n+(J2 i).length:Nat) c') h'):aM prog 243 #[.slice A n c,U (i:Int),I 10] h K:=by
 refine (fnk func243 (wr:=[241])) ?_
 refine D5 (fun _=>?_) (fun e=>absurd rfl e)
 have w:(J2 i).length<=20:=(Ho dc).2 oo
 refine B5 (fun G=>?_) (fun G=>?_)
 ·rw [B6 oo oo]
  refine Jv oo ⟨_,rfl,?_⟩
  refine Vi Ah O6 p (l:=J2 i) rfl rfl (Bj _) (Lj _) oo oo ?_ ?_
  ·intro t h' a
   rw [<- N4] at a
   exact ⟨_,_,_,rfl,hK _ _ _ _ _ (B3 _) a (fun _=>⟨rfl,rfl,rfl⟩) id⟩
  ·intro t A' c' h' g' C a
   rw [<- N4] at a
   grind
 ·refine Fa Tq ?_
  intro b d
  have H:(Value.agg (bI 24 (.int .u8 0))).cells=((aD 24 (0:Int)).map (aO .u8)).toArray:=by rfl
  rw [H]
  have E:Win .u8 (h.put b (.cells ((aD 24 (0:Int)).map (aO .u8)).toArray 280)) h b 280 (some ⟨b,0,none⟩) [] (aD 24 (0:Int)) []:=⟨d,by simp,.inr rfl⟩
  generalize (h.put b (.cells ((aD 24 (0:Int)).map (aO .u8)).toArray 280))=h1' at *
  refine ⟨_,rfl,U7 (gp.mono E.le) oo hi ⟨_,rfl,?_⟩⟩
  have f:J2 i=dd i:=U3 oo
  rw [f] at w hK
  refine ⟨⟨oo,oo⟩,?_⟩
  rw [aC,aV]
  have z:=E.sub (l:=0) (m:=(dd i).length) (c:=24) oo gz0 (by simp)
  have u:((aD 24 (0:Int)).drop 0).take ((dd i).length-0)=aD (dd i).length 0:=by
   grind
  rw [u] at z
  have j:i<10^(dd i).length:=K7.1 (aZ _)
  refine Q1 z (by simp) oo j hi ?_
  intro B y
  refine ⟨rfl,⟨oo,oo⟩,?_⟩
  have x:pad (dd i).length i=dd i:=by simp [pad]
  rw [x] at y
  have L:SlV B (N3 (some ⟨b,0,none⟩) 24 0 1) (yv (dd i)):=by
   have:=y.sl
   unfold SlI at this
   rw [A53] at this
   exact this
  have s:=y.eq
  obtain ⟨o,ho⟩:∃ o,B=h.put b o:=⟨_,s⟩
  subst ho
  have F:=p.put d o
  have r:g.le (g.put b o):=by
   intro k M D
   have q:k≠b:=by
    rintro rfl
    rw [p.le k M D] at d;cases d
   rw [B4 _ _ q];exact D
  refine Ja Ah F (Bj _) L (Lj _) oo oo ?_ ?_
  ·intro t h' a
   rw [<- N4] at a
   grind
  ·intro t A' c' h' g' C a
   rw [<- N4] at a
   exact ⟨_,_,_,rfl,hK _ _ _ _ _ (A0 r C) a (fun e=>oo) (fun _=>rfl)⟩
end
structure Ext (g:aL) (e':aN) (A:Option aJ) (n c:Nat) (l t:List UInt8) (A':Option aJ) (n' c':Nat) (e2:aN) (g' h':aL):Prop where
 le:g.le g'
 priv:bK h' g' e2 1 A' n' c' (yv (l++t))
 len:n'=n+t.length
 fit:n+t.length<=c->A'=A/\c'=c/\e2=e'
 tag:e'=5->e2=5
def Ext.trans{g g1 g2 h1 h2:aL}{e' e1 e2:aN}{A A1 A2:Option aJ}{n c n1 c1 n2 c2:Nat}{l t s:List UInt8}(x:Ext g e' A n c l t A1 n1 c1 e1 g1 h1)(y:Ext g1 e1 A1 n1 c1 (l++t) s A2 n2 c2 e2 g2 h2):Ext g e' A n c l (t++s) A2 n2 c2 e2 g2 h2:=by
 refine ⟨A0 x.le y.le,?_,?_,?_,fun e=>y.tag (x.tag e)⟩
 ·have:=y.priv;grind
 ·rw [y.len,x.len,aI];omega
 ·intro a
  rw [aI] at a
  obtain ⟨rfl,rfl,rfl⟩:=x.fit o
  have b:=x.len
  exact y.fit o
section
variable {h g:aL} {K:VP} {A:Option aJ} {n c:Nat} {e':aN} {l:List UInt8}
def Al{i:Nat}(gp:Gp h)(p:bK h g e' 1 A n c (yv l))(hi:i<18446744073709551616)(hn:n<=1000000000000)
 (hK:∀ A' n' c' e2 g' h',Ext g e' A n c l (J2 i) A' n' c' e2 g' h'->K (.slice A' n' c') h'):aM prog 237 #[.slice A n c,U (i:Int),I 10] h K:=by
 refine (fnk func237) ?_
 refine Jb gp p hi hn ?_
 intro A' c' e2 h' g' b d a e
 exact ⟨_,_,_,rfl,hK _ _ _ _ _ _ ⟨b,d,rfl,a,e⟩⟩
def Eh{ch:UInt8}{v:Int}(hv:v=(ch.toNat:Int))(p:bK h g e' 1 A n c (yv l))(hn:n<=1000000000000){KK:Option aJ->Nat->Nat->aL->Prop}
 (x:∀ A' n' c' e2 g' h',Ext g e' A n c l [ch] A' n' c' e2 g' h'->KK A' n' c' h'):
 wpH prog (Instr.buildSlice 166 1 #[(0,Y v)]) (fun v1 hp1=>∃ (A1:Option aJ) (n1 c1:Nat),v1= .slice A1 n1 c1/\wpH prog (aY #[166,166] 166 #[.slice A n c,.slice A1 n1 c1]) (fun v2 hp2=>∃ (A2:Option aJ) (n2 c2:Nat),v2= .slice A2 n2 c2/\KK A2 n2 c2 hp2) hp1) h:=by
 subst hv
 refine N9 Ah rfl ?_
 intro b a
 refine ⟨_,_,_,rfl,?_⟩
 have s:=p.put a (.cells #[Y (ch.toNat:Int)] 5)
 have d:g.le (g.put b (.cells #[Y (ch.toNat:Int)] 5)):=by
  intro k w q
  have i:k≠b:=by
   rintro rfl
   rw [p.le k w q] at a;cases a
  rw [B4 _ _ i];exact q
 have t:SlV (h.put b (.cells #[Y (ch.toNat:Int)] 5)) (some ⟨b,0,none⟩) (yv [ch]):=by
  refine .inr ⟨_,rfl,fun j u z=>?_⟩
  rw [D4,D6]
  match j with
  | 0=>assumption
  | j+1=>assumption
 refine Ja Ah s (m:=1) (ys:=yv [ch]) rfl t (Lj _) o o ?_ ?_
 ·intro r h' f
  rw [<- N4] at f
  exact ⟨_,_,_,rfl,x _ _ _ _ _ _ ⟨d,f,rfl,fun _=>⟨rfl,rfl,rfl⟩,id⟩⟩
 ·intro r A' c' h' g' y f
  rw [<- N4] at f
  exact ⟨_,_,_,rfl,x _ _ _ _ _ _ ⟨A0 d y,f,rfl,fun e=>gz0,fun _=>rfl⟩⟩
def Se{i:Int}(h:i<0):Fk i=[45]++J2 i.natAbs:=by unfold Fk;grind
def Kq{i:Int}(h:¬ i<0):Fk i=J2 i.natAbs:=by unfold Fk;grind
def Nb{b:Nat}{e:aN}{B:Option aJ}{pre post:List bH}{s:List UInt8}(w:Win .u8 h g b e B pre (zb s) post):SlV h B (yv s):=by
 have:=w.sl
 unfold SlI at this
 rw [A53] at this
 exact this
def Jl{i:Int}(gp:Gp h)(h1: -9223372036854775808<=i)(h2:i<9223372036854775808)(hK:K (.string (bs (Fk i))) h):aM prog 131 #[I i,I 10] h K:=by
 refine FCall.pure ((fnk func131) ?_)
 refine (fnk func191 (cs:=[(3,[17],[],[.bool false])]) (wr:=[241])) ?_
 refine D5 (fun _=>?_) (fun e=>absurd rfl e)
 refine ⟨fun L j=>L=[.bool (decide (0<=i/\i<100))]/\j=h,B5 (fun n=>⟨by simp [n],rfl⟩) (fun n=>⟨by simp [n],rfl⟩),?_⟩
 rintro t j ⟨N,rfl⟩
 obtain rfl:t=decide (0<=i/\i<100):=gz0
 refine B5 (fun n=>?_) (fun n=>?_)
 ·obtain ⟨k,rfl⟩:∃ k:Nat,i=k:=⟨i.toNat,o⟩
  refine Jv o ⟨_,rfl,⟨_,rfl,B3 _,?_⟩⟩
  assumption
 ·refine Fa Tq ?_
  intro b F
  have G:(Value.agg (bI 24 (.int .u8 0))).cells=((aD 24 (0:Int)).map (aO .u8)).toArray:=by rfl
  rw [G]
  have r:Win .u8 (j.put b (.cells ((aD 24 (0:Int)).map (aO .u8)).toArray 280)) j b 280 (some ⟨b,0,none⟩) [] (aD 24 (0:Int)) []:=⟨F,by simp,.inr rfl⟩
  generalize (j.put b (.cells ((aD 24 (0:Int)).map (aO .u8)).toArray 280))=hp1 at *
  refine ⟨_,rfl,?_⟩
  obtain ⟨u,hu⟩:∃ u:Nat,u=i.natAbs:=⟨_,rfl⟩
  have a:u≠0:=o
  have z:J2 u=dd u:=U3 a
  have M:(dd u).length<=20:=K7.2 o
  have B:B7 (1+(((dd u).length:Nat):Int))=((1+(dd u).length:Nat):Int):=by rw [B6 o o];omega
  have s:=r.sub (l:=1) (m:=1+(dd u).length) (c:=24) o gz0 (by simp)
  have y:((aD 24 (0:Int)).drop 1).take (1+(dd u).length-1)=aD (dd u).length 0:=by
   grind
  rw [y] at s
  have f:u<10^(dd u).length:=K7.1 (aZ _)
  have q:pad (dd u).length u=dd u:=by simp [pad]
  have g:1+(dd u).length-1=(dd u).length:=o
  refine B5 (fun p=>?_) (fun p=>?_)
  ·rw [Se p,<- hu,z] at hK
   have e:C1 (0-C1 i)=(u:Int):=by rw [E9,E9];omega
   rw [e]
   refine U7 (gp.mono r.le) a o ⟨_,rfl,?_⟩
   dsimp only;rw [B,aC]
   refine ⟨⟨o,o⟩,⟨o,o⟩,?_⟩
   rw [show ((1:Int)).toNat=1 from rfl,g]
   refine Q1 s (by simp) o f o ?_
   intro x d
   rw [q] at d
   refine ⟨rfl,B5 (fun _=>?_) (fun w=>absurd p w)⟩
   have E:=r.whole (l:=1) (m:=1+(dd u).length) o gz0 (by rw [Bh];omega) d
   refine ⟨⟨o,o⟩,?_⟩
   rw [show ((0:Int)).toNat=0 from rfl]
   refine E.storeN Dw rfl (by simp) ?_
   intro H A
   refine ⟨⟨o,o⟩,?_⟩
   have C:=A.sub (l:=0) (m:=1+(dd u).length) (c:=24) o (by simp [Bh];omega) (by simp [Bh];omega)
   have D:((((aD 24 (0:Int)).take 1++zb (dd u)++(aD 24 (0:Int)).drop (1+(dd u).length)).set 0 45).drop 0).take (1+(dd u).length-0)=zb ([45]++dd u):=by
    rw [bD,List.take_replicate,show min 1 24=1 from rfl,show aD 1 (0:Int)=[0] from rfl,bM,List.singleton_append,List.set_cons_zero,aV,Nat.add_comm 1,List.take_succ_cons,List.take_left' (Bh _)]
    rfl
   rw [D] at C
   refine Dy Ah.und V5 O6 (Nb C) gz0 ⟨_,rfl,_,rfl,?_,hK⟩
   exact A.le
  ·rw [Kq p,<- hu,z] at hK
   have e:C1 i=(u:Int):=by rw [E9];omega
   rw [e]
   refine U7 (gp.mono r.le) a o ⟨_,rfl,?_⟩
   dsimp only;rw [B,aC]
   refine ⟨⟨o,o⟩,⟨o,o⟩,?_⟩
   rw [show ((1:Int)).toNat=1 from rfl,g]
   refine Q1 s (by simp) o f o ?_
   intro x d
   rw [q] at d
   refine ⟨rfl,B5 (fun w=>absurd w p) (fun _=>?_)⟩
   refine ⟨⟨o,o⟩,⟨o,o⟩,?_⟩
   exact Dy Ah.und V5 O6 (Nb d) rfl ⟨_,rfl,_,rfl,d.le,hK⟩
def Jm{s q:List UInt8}(hK:K (.tuple #[.string (bs (if q <+: s then s.drop q.length else s)),.bool (decide (q <+: s))]) h):aM prog 183 #[.string (bs s),.string (bs q)] h K:=by
 refine (fnk func183) ?_
 refine (fnk func227) ?_
 have b:aM prog 256 #[.string (bs s),.string (bs q)] h (fun r b=>r= .bool (decide (q <+: s))/\b=h):=by
  refine (fnk func256) ?_
  simp only [G7]
  refine B5 (fun a=>?_) (fun a=>?_)
  ·refine ⟨⟨o,o⟩,?_,trivial⟩
   rw [aC,J7,Gu]
   congr 1
   rw [decide_eq_decide,bD,aV,List.prefix_iff_eq_take]
   exact eq_comm
  grind
 refine b.mono ?_
 rintro r c ⟨rfl,rfl⟩
 refine ⟨_,rfl,Br.not (B5 (fun a=>?_) (fun a=>?_))⟩
 ·rw [iP a,decide_eq_true a] at hK
  have:=a.length_le
  simp only [G7]
  refine ⟨⟨o,o⟩,_,_,rfl,?_⟩
  rw [aC,J7,aH gz0]
  exact hK
 grind
end
abbrev cB:Int:=10000000000000000000
section
variable {h g:aL} {K:VP} {A B:Option aJ} {ac bc:Nat}
def A7b{Invv:LP}{muv:LN}{WA CA:Option aJ}{wn wc cn cc:Nat}{us:List Int}{hp1 g1:aL}(p:Pw hp1 g1 WA wn wc us)(hne:us≠[])(hwn:wn=us.length)(du:Dig b64 us)(hl:wn<=100000000)
 (hK:∀ (ws:List Int) (m:Nat) (r:Int) (hp2:aL),Pw hp2 g1 WA m wc (ws.take m)->m=(ws.take m).length->m<=wn->Norm (ws.take m)->Dig b64 (ws.take m)->val b64 us=val b64 (ws.take m)*cB+r->(0<=r/\r<cB)->
  wpH prog (Instr.buildSlice 89 1 #[(0,U r)]) (fun v hp6=>∃ (t44A:Option aJ) (t44n:Nat) (t44c:Nat),v= .slice t44A t44n t44c/\wpH prog (aY #[89,89] 89 #[.slice CA cn cc,.slice t44A t44n t44c]) (fun v1 hp7=>∃ (t45A:Option aJ) (t45n:Nat) (t45c:Nat),v1= .slice t45A t45n t45c/\Invv [.slice WA m wc,.slice t45A t45n t45c] hp7/\muv [.slice WA m wc,.slice t45A t45n t45c] hp7<muv [.slice WA wn wc,.slice CA cn cc] hp1) hp6) hp2):
 Ce prog Invv muv WA wn wc CA cn cc hp1:=by
 obtain ⟨b,g,F,S⟩:=Y8 p hne
 refine ⟨fun s E=>∃ (k:Nat) (r:Int) (ws:List Int),s=[U r,I ((k:Int)-1)]/\k<=wn/\(0<=r/\r<cB)/\ws.length=us.length/\Dig b64 ws/\Win .u64 E g1 b 230 WA [] ws g/\ws.take k=us.take k/\val b64 (us.drop k)=val b64 (ws.drop k)*cB+r,fun s _=>(iAt s 1+1).toNat,⟨wn,0,us,by rw [B6 o o],o,dc,rfl,du,F,rfl,by rw [bV o];rfl⟩,?_⟩
 rintro c i hp2 ⟨k,r,ws,R,O,n,B,l,w,d,M⟩
 obtain ⟨rfl,rfl⟩:c=r/\i=(k:Int)-1:=gz0
 refine B5 (fun D=>?_) (fun D=>?_)
 ·obtain ⟨j,rfl⟩:∃ j,k=j+1:=⟨k-1,o⟩
  have e:((j+1:Nat):Int)-1=(j:Int):=o
  rw [e]
  have L:=J3 l j
  refine w.sl.load o o o ?_
  rw [aC]
  refine Hn (y:=10000000000000000000) n L dc ⟨_,_,rfl,?_⟩
  have G:us.getD j 0=ws.getD j 0:=by
   have H:(ws.take (j+1)).getD j 0=(us.take (j+1)).getD j 0:=by rw [d]
   grind
  generalize hx:ws.getD j 0=x at *
  have A:0<=c/\c<10000000000000000000:=n
  have C:0<=(c*18446744073709551616+x)/10000000000000000000/\(c*18446744073709551616+x)/10000000000000000000<18446744073709551616:=o
  obtain ⟨a,t,_⟩:=SlV.at w.sl (i:=j) gz0
  refine ⟨a,t,o,o,w.storeN E6 t o ?_⟩
  intro Q u
  rw [B6 o o]
  refine ⟨⟨j,_,_,rfl,o,gz0,gz0,l.set C,u,?_,?_⟩,by simp only [iAt,aE,aF];omega⟩
  ·rw [List.take_set_of_le o]
   have H:=congrArg (List.take j) d
   grind
  ·rw [O2 o,Dv b64 o,M,G]
   simp only [val]
   grind
 ·obtain rfl:k=0:=o
  rw [show wn=ws.length from o] at hK ⊢
  refine V3 w.sl o o ?_
  intro m q N z
  refine ⟨_,_,_,rfl,?_⟩
  have f:ws≠[]:=gz0
  exact hK ws m c hp2 (w.priv f o q) gz0 q N (l.take m) gz0 n
end
def nv:List Nat->Nat
 | []=>0
 | c::r=>c+10^19*nv r
def Xq(ns:List Nat)(c:Nat):((nv (ns++[c]):Nat):Int)=(nv ns:Int)+cB^ns.length*(c:Int):=by
 induction ns with
 | nil=>simp [nv]
 | cons d r ih=>
  have e:((10^19:Nat):Int)=cB:=dc
  simp only [List.cons_append,nv,List.length_cons,cO,Int.natCast_add,bY,ih,e]
  grind
def A8r{ns:List Nat}(h:∀ c∈ns,c<10^19):nv ns<10^(19*ns.length):=by
 induction ns with
 | nil=>simp [nv]
 | cons d r ih=>
  have a:=h d (by simp)
  simp only [nv,List.length_cons]
  grind
def A8q{ns:List Nat}(hne:ns≠[])(h:ns.getLast? ≠ some 0):nv ns≠0:=by
 induction ns with
 | nil=>grind
 | cons d r ih=>
  cases r with
  | nil=>simp at h;assumption
  | cons e s=>
   have:=ih (by simp) (by assumption)
   simp only [nv] at this ⊢
   omega
def A19{c:Nat}:aD (19-(J2 c).length) 48++J2 c=pad 19 c:=by
 unfold J2 pad
 split
 ·rename_i h;subst h;rw [I3];rfl
 ·rfl
def Xj{c w:Nat}(h:c≠0):aD (w-(J2 c).length) 48++J2 c=pad w c:=by
 unfold J2 pad;grind
def Um{w n k:Nat}(h:n<10^k):(pad w n).length<=w+k:=by
 unfold pad
 have:=K7.2 h
 grind
def Vo(W:Nat)(ns:List Nat)(k:Nat):List UInt8:=if k<ns.length then pad (W-19*k) (nv (ns.drop k)) else []
def A0e{W:Nat}{ns:List Nat}(h:∀ c∈ns,c<10^19)(k:Nat):(Vo W ns k).length<=W+19*ns.length:=by
 unfold Vo
 split
 ·have:=Um (w:=W-19*k) (A8r (ns:=ns.drop k) fun c a=>h c (List.mem_of_mem_drop a))
  grind
 ·simp
def Wd{W:Nat}{ns:List Nat}(hb:∀ c∈ns,c<10^19)(ht:ns.getLast? ≠ some 0){j:Nat}(hj:j<ns.length):Vo W ns j=Vo W ns (j+1)++(aD ((if j+1=ns.length then max (J2 ns[j]).length (W-19*j) else 19)-(J2 ns[j]).length) 48++J2 ns[j]):=by
 have e:ns.drop j=ns[j]::ns.drop (j+1):=bL hj
 unfold Vo
 rw [iP hj,e]
 by_cases h:j+1=ns.length
 ·rw [iN o,iP h,List.nil_append,bV o]
  have a:ns[j]≠0:=by
   grind
  rw [show max (J2 ns[j]).length (W-19*j)-(J2 ns[j]).length=(W-19*j)-(J2 ns[j]).length from o,Xj a]
  simp [nv]
 ·rw [iP o,iN h,A19]
  have d:nv (ns.drop (j+1))≠0:=by
   apply A8q
   ·intro b;have:=congrArg List.length b;grind
   grind
  have:=Ny (w:=W-19*j) (h:=nv (ns.drop (j+1))) (l:=ns[j]) (k:=19) (hb _ (bO hj)) (.inl d)
  rw [Nat.sub_sub] at this
  rw [show 19*(j+1)=19*j+19 from o,<- this]
  congr 1
  simp only [nv];omega
def Priv.clear{h g:aL}{e:aN}{A:Option aJ}{n c:Nat}{xs:List bH}(p:bK h g e 1 A n c xs):bK h g e 1 A 0 c []:=by
 obtain ⟨a,b,d⟩:=p
 refine ⟨by simp,o,?_⟩
 grind
def nz(ns:List Nat):List Int:=ns.map fun (x:Nat)=>(x:Int)
def Bx(g:aL)(eT:aN)(A:Option aJ)(n c:Nat)(l:List UInt8)(p:aJ)(CA:Option aJ)(ns:List Nat)(bl t:List UInt8)(tA:Option aJ)(tn tc:Nat)(hp:aL):Prop:=
 ∃ e2 gA gB,Ext g eT A n c l t tA tn tc e2 gA hp/\bK gA gB 311 1 (some p) bl.length 20 (yv bl)/\g.le gB/\SlI .u64 gB CA (nz ns)
section
variable {h g:aL} {K:VP} {A CA:Option aJ} {n c:Nat} {eT:aN} {l:List UInt8} {p:aJ} {ns:List Nat}
def Rz{bl t s:List UInt8}{tA tA':Option aJ}{tn tc tn' tc':Nat}{e2 e3:aN}{gA gB g' hp hp':aL}(x:Ext g eT A n c l t tA tn tc e2 gA hp)(q:bK gA gB 311 1 (some p) bl.length 20 (yv bl))(lg:g.le gB)(sc:SlI .u64 gB CA (nz ns))(y:Ext gA e2 tA tn tc (l++t) s tA' tn' tc' e3 g' hp'):Bx g eT A n c l p CA ns bl (t++s) tA' tn' tc' hp':=by
 obtain ⟨a,b,d⟩:=q.after y.le
 exact ⟨e3,g',a,x.trans y,d,A0 lg b,sc.mono b⟩
def A1t{Invv2:LP}{muv2:LN}{tA:Option aJ}{tn tc q:Nat}{first:Bool}{i1 size:Int}{bl t:List UInt8}{hp9 hp11:aL}(x:Bx g eT A n c l p CA ns bl t tA tn tc hp11)(hq:B7 (size-((bl.length:Nat):Int))=(q:Int))(hb:n+t.length+q+bl.length<=100000000000)
 (hK:∀ tA' tn' tc' hp',Bx g eT A n c l p CA ns bl (t++(aD q 48++bl)) tA' tn' tc' hp'->Invv2 [.slice tA' tn' tc',.bool false,I (B7 (i1-1))] hp'/\muv2 [.slice tA' tn' tc',.bool false,I (B7 (i1-1))] hp'<muv2 [.slice tA tn tc,.bool first,I i1] hp9):
 Aw prog Invv2 muv2 tA tn tc first i1 (some p) bl.length 20 size hp9 hp11:=by
 refine ⟨fun s j=>∃ (k:Nat) (tA:Option aJ) (tn tc:Nat),s=[.slice tA tn tc,I k]/\k<=q/\Bx g eT A n c l p CA ns bl (t++aD k 48) tA tn tc j,fun s _=>q-(iAt s 1).toNat,⟨0,tA,tn,tc,rfl,o,gz0⟩,?_⟩
 rintro B C G L u ⟨k,N,M,F,H,Q,S,T,R,ex,d,i,m⟩
 obtain ⟨⟨rfl,rfl,rfl⟩,rfl⟩:=H
 have a:=ex.len
 rw [aI,List.length_replicate] at a
 refine B5 (fun z=>?_) (fun z=>?_)
 ·refine Eh (ch:=48) rfl ex.priv o ?_
  intro A' O w V D r y
  rw [B6 o o]
  refine ⟨⟨k+1,_,_,_,rfl,o,?_⟩,by simp only [iAt,aE,aF];omega⟩
  have:=Rz ex d i m y
  rwa [bM,<- List.replicate_succ'] at this
 ·obtain rfl:k=q:=o
  refine ⟨fun s j=>∃ (tA:Option aJ) (tn tc:Nat),s=[.slice tA tn tc]/\Bx g eT A n c l p CA ns bl (t++(aD k 48++bl)) tA tn tc j,?_,?_⟩
  ·refine Ja Ah ex.priv (Bj bl) (SlV.mono ex.priv.le d.slV) (Lj _) o o ?_ ?_
   ·intro E r b
    rw [<- N4] at b
    refine ⟨_,_,_,rfl,_,_,_,rfl,?_⟩
    have:=Rz ex d i m (s:=bl) ⟨B3 _,b,rfl,fun _=>⟨rfl,rfl,rfl⟩,id⟩
    grind
   ·intro E A' w r D f b
    rw [<- N4] at b
    refine ⟨_,_,_,rfl,_,_,_,rfl,?_⟩
    have:=Rz ex d i m (s:=bl) ⟨f,b,rfl,fun e=>o,fun _=>rfl⟩
    grind
  grind
def A1r{W tn tc:Nat}{tA:Option aJ}{t:List UInt8}{e2:aN}{gA hp9:aL}(x:Ext g eT A n c l t tA tn tc e2 gA hp9)(hW:W<=10000000000)(hb:tn<=10000000000)(hK:∀ A' n' c' e3 g' h',Ext g eT A n c l (t++aD W 48) A' n' c' e3 g' h'->K (.slice A' n' c') h'):Au prog (W:Int) K tA tn tc hp9:=by
 refine ⟨fun s b=>∃ (k:Nat) (tA:Option aJ) (tn' tc:Nat) (e3:aN) (g':aL),s=[.slice tA tn' tc,I k]/\k<=W/\tn'=tn+k/\Ext g eT A n c l (t++aD k 48) tA tn' tc e3 g' b,fun s _=>W-(iAt s 1).toNat,⟨0,tA,tn,tc,e2,gA,rfl,o,rfl,gz0⟩,?_⟩
 rintro r u p f a ⟨k,w,e,i,e3,g',z,B,j,ex⟩
 obtain ⟨⟨rfl,rfl,rfl⟩,rfl⟩:=z
 refine B5 (fun q=>?_) (fun q=>?_)
 ·refine Eh (ch:=48) rfl ex.priv o ?_
  intro A' n' c' m d h' y
  rw [B6 o o]
  refine ⟨⟨k+1,_,_,_,m,d,rfl,o,?_,?_⟩,by simp only [iAt,aE,aF];omega⟩
  ·have:=y.len;grind
  ·have:=ex.trans y
   rwa [bM,<- List.replicate_succ'] at this
 grind
def A1s{W cn:Nat}{tA:Option aJ}{tn tc:Nat}{hp8:aL}{b:Nat}(gp:Gp g)(hp:p=⟨b,0,none⟩)(x:Bx g eT A n c l p CA ns [] [] tA tn tc hp8)(hcn:cn=ns.length)(hb:∀ c∈ns,c<10^19)(ht:ns.getLast? ≠ some 0)(hW:W<=1000000000)(hn:n<=1000000000)(hnl:ns.length<=1000000000)
 (hK:∀ A' n' c' e3 g' h',Ext g eT A n c l (pad W (nv ns)) A' n' c' e3 g' h'->K (.slice A' n' c') h'):Ay prog tA tn tc (W:Int) K CA cn p hp8:=by
 subst hcn
 have f:N3 (some p) 20 0 1=some p:=by rfl
 refine ⟨fun s hp=>∃ (k:Nat) (tA:Option aJ) (tn tc:Nat) (E:List UInt8),s=[.slice tA tn tc,.bool (decide (k=ns.length)),I ((k:Int)-1)]/\k<=ns.length/\Bx g eT A n c l p CA ns E (Vo W ns k) tA tn tc hp,fun s _=>(iAt s 2+1).toNat,⟨ns.length,tA,tn,tc,[],by rw [B6 o o];simp,aZ _,by unfold Vo;grind⟩,?_⟩
 rintro t u B first i1 ae ⟨k,af,ad,aa,E,hs,hk,G,gA,gB,ex,z,m,N⟩
 obtain ⟨⟨rfl,rfl,rfl⟩,rfl,rfl⟩:=hs
 have F:=ex.len
 have S:=A0e (W:=W) hb k
 refine B5 (fun X=>?_) (fun X=>?_)
 ·obtain ⟨j,rfl⟩:∃ j,k=j+1:=⟨k-1,o⟩
  have e:((j+1:Nat):Int)-1=(j:Int):=o
  rw [e]
  have D:j<ns.length:=o
  refine ⟨⟨o,o⟩,?_⟩
  refine (N.mono (A0 z.le ex.priv.le)).load (by simp [nz]) o o ?_
  have hz:(nz ns).getD (j:Int).toNat 0=((ns[j]:Nat):Int):=by
   simp [nz,List.getD,D]
  rw [hz,f,show ((0:Int)).toNat-0=0 from rfl,show 20-0=20 from rfl]
  have a:=hb ns[j] (bO D)
  have ac:(J2 ns[j]).length<=20:=(Ho dc).2 (aP a dc)
  refine ex.priv.call ?_
  refine Al (l:=[]) (gp.mono (A0 m z.le)) z.clear (aP a dc) o ?_
  intro A' n' c' e3 g' Q y h' T
  obtain ⟨rfl,rfl,rfl⟩:=y.fit o
  have L:=y.len
  rw [bJ] at L
  subst L
  refine ⟨_,_,_,rfl,?_⟩
  have x2:Bx g eT A n c l p CA ns (J2 ns[j]) (Vo W ns (j+1)) t u B h':=
   ⟨G,Q,g',⟨A0 m (A0 y.le y.priv.le),T,ex.len,ex.fit,ex.tag⟩,by simpa using y.priv,A0 m y.le,N.mono y.le⟩
  refine ⟨fun s hp=>s=[I (((if j+1=ns.length then max (J2 ns[j]).length (W-19*j) else 19):Nat):Int)]/\hp=h',B5 (fun i=>⟨?_,rfl⟩) (fun i=>⟨gz0,rfl⟩),?_⟩
  ·rw [iP i,B6 (n:=19*(j:Int)) o o,B6 o o]
   grind
  ·rintro d H ⟨ab,rfl⟩
   obtain rfl:d=(((if j+1=ns.length then max (J2 ns[j]).length (W-19*j) else 19):Nat):Int):=gz0
   have O:(J2 ns[j]).length<=19:=(Ho dc).2 a
   generalize hsz:(if j+1=ns.length then max (J2 ns[j]).length (W-19*j) else 19)=sz at *
   have M:(J2 ns[j]).length<=sz/\sz<=W+20:=by
    grind
   refine A1t (q:=sz-(J2 ns[j]).length) x2 (by rw [B6 o o];omega) o ?_
   intro w C r V R
   rw [B6 o o]
   refine ⟨⟨j,w,C,r,J2 ns[j],?_,o,?_⟩,by simp only [iAt,aE,aF];omega⟩
   ·rw [show decide (j=ns.length)=false from gz0]
   ·rw [Wd hb ht D,hsz];exact R
 ·obtain rfl:k=0:=o
  refine B5 (fun i=>?_) (fun i=>?_)
  ·refine A1r ex o o ?_
   intro A' n' c' e3 g' h' y
   refine hK _ _ _ e3 g' _ ?_
   have:Vo W [] 0++aD W 48=pad W (nv []):=by simp [Vo,nv,pad,I3]
   grind
  ·refine hK _ _ _ G gA _ ?_
   ·have:Vo W ns 0=pad W (nv ns):=by unfold Vo;grind
    grind
end
def A1w:(prog.info? 311).map (fun i=>i.zero)=some (some (.agg (bI 20 (.int .u8 0)))):=by kernel_rfl
def A44(ns:List Nat)(c:Nat):nz (ns++[c])=nz ns++[(c:Int)]:=by simp [nz]
section
variable {h g:aL} {K:VP} {A XA:Option aJ} {n c:Nat} {eT:aN} {l:List UInt8}
def Y4{xn xc v W:Nat}(gp:Gp g)(p:bK h g eT 1 A n c (yv l))(M:Mw g XA xn (v:Int))(hx:xn<=10000000)(hW:W<=1000000000)(hn:n<=1000000000)
 (hK:∀ A' n' c' e3 g' h',Ext g eT A n c l (pad W v) A' n' c' e3 g' h'->K (.slice A' n' c') h'):aM prog 267 #[.slice A n c,.slice XA xn xc,I (W:Int)] h K:=by
 obtain ⟨xs,D,sx,dx,nx,L⟩:=M
 refine Hi _ _ _ _ _ _ _ ?_
 refine p.call ?_
 refine X6 sx D oo ?_
 intro WA Q h0 g0 l0 pw h1 R
 obtain ⟨y,X,al⟩:=R.swap pw
 refine ⟨_,_,_,rfl,?_⟩
 have am:(v:Int)<2^(64*xn):=by
  have:=I6 (B:=b64) dc dx
  rw [L,<- D,Df] at this;exact this
 refine ⟨fun s hp=>∃ (a:List Int) (ns:List Nat) (WA CA:Option aJ) (wn Q cn cc:Nat) (y g2 g3:aL),s=[.slice WA wn Q,.slice CA cn cc]/\Pw hp y WA wn Q a/\Pw y g2 CA cn cc (nz ns)/\bK g2 g3 eT 1 A n c (yv l)/\g.le g3/\wn=a.length/\cn=ns.length/\wn<=xn/\Dig b64 a/\Norm a/\(∀ c∈ns,c<10^19)/\(v:Int)=val b64 a*cB^ns.length+(nv ns:Int)/\(a=[]->ns.getLast? ≠ some 0),fun s hp=>match s with|[.slice A n _,_]=>Xu b64 hp A n|_=>0,⟨xs,[],WA,none,xs.length,Q,0,0,y,y,g0,rfl,X,Priv.nil _ _ _ _,al,l0,rfl,rfl,oo,dx,nx,by simp,by simp [nv,L],by simp⟩,?_⟩
 rintro WA1 H ae CA1 ah aw N ⟨a,ns,WA2,CA2,av,ar,ax,ap,y,g2,g3,hs,pw,pc,R,lg,E,V,aq,S,nu,hb,hv,u⟩
 obtain ⟨⟨rfl,rfl,rfl⟩,rfl,rfl,rfl⟩:=hs
 have ao:=C3 (B:=b64) dc S
 have Mu:Mw N WA1 H (val b64 a):=⟨a,E,pw.slV,S,nu,rfl⟩
 refine B5 (fun h2=>?_) (fun h2=>?_)
 ·have T:a≠[]:=gz0
  have F:0<val b64 a:=by
   have:=Mu.len_zero dc
   omega
  have t:ns.length<=64*xn:=by
   by_cases hc:ns.length<=64*xn
   ·exact hc
   ·exfalso
    have h3:(2:Int)^(64*xn)<=2^ns.length:=C7 dc oo
    have h4:(2:Int)^ns.length<=cB^ns.length:=by
     have:∀ k:Nat,(2:Int)^k<=cB^k:=by
      intro k
      induction k with
      | zero=>simp
      | succ k ih=>
       grind
     grind
    have h5:1*cB^ns.length<=val b64 a*cB^ns.length:=cJ F (Int.le_of_lt (Int.pow_pos dc))
    omega
  refine A7b pw T E S oo ?_
  intro ws m r au ak hm an nw dw j hr
  obtain ⟨q,aa,af⟩:=ak.swap pc
  refine U6 K0 aa rfl rfl oo oo ?_
  intro CA' ai h' g' ad i
  obtain ⟨w,l2,d⟩:=af.after ad
  obtain ⟨g4,O,ac⟩:=i.swap d
  obtain ⟨g5,l5,ab⟩:=R.after l2
  obtain ⟨c0,e⟩:∃ c0:Nat,r=(c0:Int):=⟨r.toNat,oo⟩
  refine ⟨⟨ws.take m,ns++[c0],WA1,CA',m,ae,ah+1,ai,g4,w,g5,rfl,O,?_,ab,A0 lg l5,hm,gz0,oo,dw,nw,?_,?_,?_⟩,?_⟩
  ·have h9:=ac
   rw [<- List.map_singleton (f:=aO .u64),<- cL,e,<- A44] at h9
   exact h9
  ·grind
  ·rw [Xq,hv,j,aI,List.length_singleton,cO,e];grind
  ·intro he
   rw [List.getLast?_append]
   simp only [cN,Option.some_or,ne_eq,aQ]
   intro e0
   rw [he] at j
   simp [val] at j
   omega
  ·show Xu b64 h' WA1 m<Xu b64 N WA1 H
   have Mw2:Mw h' WA1 m (val b64 (ws.take m)):=⟨ws.take m,hm,O.slV,dw,nw,rfl⟩
   rw [R1 Mw2,R1 Mu]
   grind
 ·have z:a=[]:=aK oo
  subst z
  obtain ⟨w,ag,i⟩:=pc.swap R
  obtain ⟨q,C,d⟩:=pw.swap ag
  have aj:v=nv ns:=by
   simp [val] at hv;omega
  have t:ns.length<=1000000000:=by
   by_cases e:ns=[]
   ·grind
   ·have h7:=u rfl
    obtain ⟨ms,c0,rfl⟩:∃ ms c0,ns=ms++[c0]:=⟨ns.dropLast,ns.getLast e,(List.dropLast_concat_getLast e).symm⟩
    rw [List.getLast?_append] at h7
    simp only [cN,Option.some_or,ne_eq,aQ] at h7
    have h8:=Xq ms c0
    by_cases hc:ms.length<=64*xn
    ·grind
    ·exfalso
     have h3:(2:Int)^(64*xn)<=2^ms.length:=C7 dc oo
     have h4:(2:Int)^ms.length<=cB^ms.length:=by
      have:∀ k:Nat,(2:Int)^k<=cB^k:=by
       intro k
       induction k with
       | zero=>simp
       | succ k ih=>
        grind
      grind
     have h5:cB^ms.length*1<=cB^ms.length*(c0:Int):=Int.mul_le_mul_of_nonneg_left oo (Int.le_of_lt (Int.pow_pos dc))
     omega
  refine Fa A1w ?_
  intro b x
  refine ⟨_,rfl,?_⟩
  have G:q b=none:=by
   cases hx1:q b with
   | none=>rfl
   | some o=>rw [C.le b o hx1] at x;cases x
  refine A1s (ns:=ns) gp rfl ⟨eT,_,q,⟨?_,?_,by simp,fun _=>⟨rfl,rfl,rfl⟩,id⟩,⟨by simp [yv],by simp,.inr ⟨b,aD 20 (aO .u8 0),rfl,G,rfl,by simp,by simp [yv]⟩⟩,?_,?_⟩ V hb (u rfl) hW hn t (by rw [<- aj];exact hK)
  ·exact A0 lg (A0 i.le (A0 d.le (Heap.le_put _ G)))
  ·rw [List.append_nil];exact C.put x _
  ·exact A0 lg (A0 i.le d.le)
  ·exact (show SlI .u64 w CA1 (nz ns) from i.slV).mono d.le
end
def Dp(i:Nat):Nat:=10^(19*2^i)
def Wi(i:Nat):Dp i=(10^19)^(2^i):=cK _ _ _
def A0i(i:Nat):0<Dp i:=Nat.pow_pos dc
def Nj(i:Nat):Dp (i+1)=Dp i*Dp i:=by
 unfold Dp
 rw [<- Nat.pow_add]
 grind
def A32(i:Nat):(Dp i:Int)<b64^(2^i):=by
 have h:(10^19)^(2^i)<(18446744073709551616:Nat)^(2^i):=Nat.pow_lt_pow_left dc (Nat.pos_iff_ne_zero.1 (Nat.pow_pos dc))
 rw [<- Wi] at h
 grind
def A33(i:Nat):(2:Int)^(63*2^i)<=(Dp i:Int):=by
 have h:(2^63)^(2^i)<=(10^19)^(2^i):=cH dc _
 rw [<- Wi,<- cK] at h
 grind
def A58{k m:Nat}(h:(2:Int)^k<2^m):k<m:=by
 by_cases a:k<m
 ·exact a
 ·have:=C7 (B:=2) dc (show m<=k from o)
  omega
abbrev slT(s:Option aJ × Nat × Nat):bH:=.slice s.1 s.2.1 s.2.2
def Pws(h:aL)(PA:Option aJ)(k:Nat):Prop:=∃ ss:List (Option aJ × Nat × Nat),ss.length=k/\SlV h PA (ss.map slT)/\∀ i s,ss[i]? = some s->s.2.1<=s.2.2/\Mw h s.1 s.2.1 (Dp i:Int)
def Pws.mono{h h':aL}(l:h.le h'){PA:Option aJ}{k:Nat}(p:Pws h PA k):Pws h' PA k:=by
 obtain ⟨d,b,c,a⟩:=p
 exact ⟨d,b,c.mono l,fun i s e=>⟨(a i s e).1,(a i s e).2.mono l⟩⟩
def Pws.take{h:aL}{PA:Option aJ}{k j:Nat}(p:Pws h PA k)(hj:j<=k):Pws h PA j:=by
 obtain ⟨a,d,b,f⟩:=p
 refine ⟨a.take j,gz0,?_,fun i s e=>?_⟩
 ·have:=SlV.cut (c:=(a.map slT).length) b (Nat.zero_le j) gz0 (aZ _)
  rw [F2,bD,aV,<- List.map_take] at this
  exact this
 grind
def Pws.at{h:aL}{PA:Option aJ}{k i:Nat}(p:Pws h PA k)(hi:i<k):∃ (a:aJ) (A:Option aJ) (n c:Nat),PA=some a/\h.cell? (a.add i)=some (.slice A n c)/\n<=c/\Mw h A n (Dp i:Int):=by
 obtain ⟨e,f,b,g⟩:=p
 obtain ⟨a,d,j⟩:=b.at (i:=i) gz0
 grind
def Mw.tenP_le{h:aL}{A:Option aJ}{n i:Nat}(m:Mw h A n (Dp i:Int)):n<=2^i:=m.len_le dc (A32 i)
def Mw.tenP_ge{h:aL}{A:Option aJ}{n i:Nat}(m:Mw h A n (Dp i:Int)):2^i<2*n:=by
 have a:=m.lt dc
 rw [Df] at a
 have b:=A58 (Int.lt_of_le_of_lt (A33 i) a)
 omega
def Ext.weak{g g0 g' h':aL}{eT e2:aN}{A A':Option aJ}{n c n' c':Nat}{l t:List UInt8}(l0:g0.le g)(x:Ext g eT A n c l t A' n' c' e2 g' h'):Ext g0 eT A n c l t A' n' c' e2 g' h':=⟨A0 l0 x.le,x.priv,x.len,x.fit,x.tag⟩
def A6q(w n:Nat):w<=(pad w n).length:=by simp [pad];omega
def A3a{j:Nat}(hj:j<=50):B7 (19*2^(min j 64))=((19*2^j:Nat):Int):=by
 rw [bW o]
 have b:2^j<=2^50:=aG dc hj
 have a:(19*2^j:Int)=((19*2^j:Nat):Int):=by rfl
 rw [a,B6 o o]
def Lu{l:List UInt8}(hd:∀ c∈l,F4 c):(G8 l:Int)<b64^(l.length/19+1):=by
 have f:=U8 hd
 have b:10^l.length<=10^(19*(l.length/19+1)):=aG dc o
 rw [cK] at b
 have e:(10^19)^(l.length/19+1)<=(18446744073709551616:Nat)^(l.length/19+1):=cH dc _
 have d:G8 l<(18446744073709551616:Nat)^(l.length/19+1):=o
 have a:=Int.ofNat_lt.2 d
 rw [Int.natCast_pow] at a
 exact a
def He:∀ (k:Nat) {h g:aL} {K:VP} {A XA PA:Option aJ} {n c xn xc pc v W:Nat} {eT:aN} {l:List UInt8},Gp g->bK h g eT 1 A n c (yv l)->Mw g XA xn (v:Int)->xn<=xc->xn<=10000000->Pws g PA k->k<=pc->k<=26->(W=0\/W=19*2^k)->n+(pad W v).length<=1000000000->
 (∀ A' n' c' e3 g' h',Ext g eT A n c l (pad W v) A' n' c' e3 g' h'->K (.slice A' n' c') h')->aM prog 238 #[.slice A n c,.slice XA xn xc,I (W:Int),.slice PA k pc] h K:=by
 intro k
 induction k with
 | zero=>
  intro h g K A XA PA n c xn xc pc v W eT l d p M x E u D hk hW N C
  refine (fnk func238) ?_
  refine B5 (fun _=>?_) (fun e=>absurd dc e)
  refine Y4 d p M E o o ?_
  grind
 | succ j ih=>
  intro h g K A XA PA n c xn xc pc v W eT l d p M x E u D hk hW N C
  have R:=A6q W v
  have e1:B7 (((j+1:Nat):Int)-1)=(j:Int):=by rw [B6 o o];omega
  refine (fnk func238) ?_
  simp only [e1,aC,aV,F2,A3a (show j<=50 from o)]
  refine B5 (fun e=>absurd e o) (fun _=>B5 (fun _=>?_) (fun _=>?_))
  ·refine Y4 d p M E o o ?_
   grind
  ·obtain ⟨a,PA',pn,ac,ha,hc,s,Mp⟩:=u.at (i:=j) o
   refine ⟨a,ha,o,o,_,_,_,by rw [aS];exact C4 p.le hc,?_⟩
   have ag:=Mp.tenP_le
   have V:2^j<=2^26:=aG dc o
   have B:=A0i j
   refine p.call ?_
   refine M0 M Mp x s o o o ?_
   intro A1 m1 c1 A2 X c2 g1 b S O M1 M2 h1 L
   refine ⟨_,_,_,_,_,_,rfl,?_⟩
   rw [<- Int.natCast_ediv] at M1
   rw [<- Int.natCast_emod] at M2
   have hv:=Nat.div_add_mod v (Dp j)
   have f:=Nat.mod_lt v B
   have ab:=bX v (Dp j)
   generalize v/Dp j=q at *
   generalize v%Dp j=r at *
   have hz:=M1.len_zero dc
   have F:=M.lt dc
   have ae:m1<=xn:=M1.len_le dc o
   have ad:X<=xn:=M2.len_le dc (by
    omega)
   have z:v=q*10^(19*2^j)+r:=by rw [<- hv,Nat.mul_comm];rfl
   refine B5 (fun e=>absurd e o) (fun _=>?_)
   refine D5 (fun T=>D5 (fun eW=>?_) (fun eW=>?_)) (fun T=>?_)
   ·obtain rfl:W=0:=o
    obtain rfl:q=0:=o
    obtain rfl:v=r:=o
    refine ⟨⟨o,o⟩,?_⟩
    refine ih (W:=0) (d.mono b) L M2 O o ((u.mono b).take o) o o (.inl rfl) N ?_
    intro A4 n4 c4 Q H h4 y
    exact ⟨_,_,_,rfl,C _ _ _ _ _ _ (y.weak b)⟩
   all_goals
    have hw:q≠0\/19*2^j<=W:=o
    have t:=Ny (w:=W) (h:=q) (l:=r) (k:=19*2^j) f hw
    rw [<- z] at t
    have aa:(pad (19*2^j) r).length=19*2^j:=Jy f
    have ah:(pad W v).length=(pad (W-19*2^j) q).length+19*2^j:=gz0
    refine ⟨⟨o,o⟩,?_⟩
    have e3:(if (0:Int)>B7 ((W:Int)-((19*2^j:Nat):Int)) then (0:Int) else B7 ((W:Int)-((19*2^j:Nat):Int)))=((W-19*2^j:Nat):Int):=by
     rw [B6 o o]
     omega
    rw [e3]
    refine ih (d.mono b) L M1 S o ((u.mono b).take o) o o o o ?_
    intro A3 n3 c3 e3 g3 h3 m
    have af:=m.len
    have G:=A0 b m.le
    refine ⟨_,_,_,rfl,⟨o,o⟩,?_⟩
    refine ih (d.mono G) m.priv (M2.mono m.le) O o ((u.mono G).take o) o o (.inr rfl) o ?_
    intro A4 n4 c4 Q H h4 y
    refine ⟨_,_,_,rfl,C _ _ _ Q H _ ?_⟩
    rw [t]
    exact (m.trans y).weak b
def Bp:∀ (k:Nat) {h:aL} {K:VP} {PA:Option aJ} {pc:Nat} {l:List UInt8},(∀ c∈l,F4 c)->l.length<=140737488351232->Pws h PA k->k<=pc->k<=50->(∀ A n c h',h.le h'->n<=c->Mw h' A n (G8 l:Int)->K (.slice A n c) h')->aM prog 228 #[.string (bs l),.slice PA k pc] h K:=by
 intro k
 induction k using Nat.strongRecOn with
 | _ k ih=>
  intro h K PA pc l q W z X hk R
  refine (fnk func228 [(2,[5],[],[I 0])] (os:=[(7,[0,1,2,3,4,5,7,8,9,10,6,11,12])])) ?_
  rw [G7]
  have b:aM prog 257 #[.string (bs l)] h (fun r t=>∃ (A:Option aJ) (n c:Nat),r= .slice A n c/\K (.slice A n c) t):=by
   refine Ha q W ?_
   grind
  refine ⟨fun s t=>t=h/\∃ j:Nat,s=[I ((j:Int)-1)]/\j<=k,fun s _=>(iAt s 0+1).toNat,⟨rfl,k,by rw [B6 o o],aZ _⟩,?_⟩
  rintro f t ⟨rfl,j,hs,hj⟩
  obtain rfl:f=(j:Int)-1:=gz0
  refine B5 (fun M=>?_) (fun M=>B5 (fun _=>b) (fun e=>absurd (show (j:Int)-1<0 from o) e))
  obtain ⟨i,rfl⟩:∃ i,j=i+1:=⟨j-1,o⟩
  have L:((i+1:Nat):Int)-1=(i:Int):=o
  simp only [L,aC,aV,F2,A3a (show i<=50 from o)]
  refine B5 (fun e=>absurd e o) (fun _=>B5 (fun E=>?_) (fun E=>?_))
  ·refine ⟨⟨trivial,i,by rw [B6 o o],o⟩,?_⟩
   simp only [iAt,aE]
   rw [B6 o o]
   omega
  refine B5 (fun e=>absurd e o) (fun _=>B5 (fun _=>b) (fun D=>B5 (fun e=>absurd e o) (fun _=>?_)))
  have T:B7 ((l.length:Int)-((19*2^i:Nat):Int))=((l.length-19*2^i:Nat):Int):=by rw [B6 o o];omega
  simp only [T,aC,J7,bD,aV]
  obtain ⟨a,PA',pn,S,ha,p,m,Mp⟩:=z.at (i:=i) o
  refine ⟨⟨o,o⟩,⟨o,o⟩,a,ha,o,o,_,_,_,by rw [aS];exact p,?_⟩
  have ab:=Mp.tenP_le
  have g:∀ c∈l.take (l.length-19*2^i),F4 c:=fun c p=>q c (cC p)
  have d:∀ c∈l.drop (l.length-19*2^i),F4 c:=fun c p=>q c (List.mem_of_mem_drop p)
  have ac:(l.take (l.length-19*2^i)).length=l.length-19*2^i:=gz0
  have w:(l.drop (l.length-19*2^i)).length=19*2^i:=gz0
  have F:G8 l=G8 (l.take (l.length-19*2^i))*Dp i+G8 (l.drop (l.length-19*2^i)):=by
   have:=Ab (l.take (l.length-19*2^i)) (l.drop (l.length-19*2^i))
   rw [bZ,w] at this
   exact this
  have N:=Lu q
  have C:=Lu g
  have y:=Lu d
  refine ih i o g o (z.take o) o o ?_
  intro A1 n1 c1 E u H M1
  refine ⟨_,_,_,rfl,u,?_⟩
  have O:=M1.len_le dc C
  refine F5 M1 (Mp.mono u) H m o o ?_
  intro A2 n2 c2 h2 B k2 M2
  refine ⟨_,_,_,rfl,B,⟨o,o⟩,⟨o,o⟩,?_⟩
  have aa:=M2.len_le dc (Int.lt_of_le_of_lt (Int.ofNat_le.2 o) N)
  rw [aH o]
  refine ih i o d o ((z.mono (A0 u B)).take o) o o ?_
  intro A3 n3 c3 h3 x Q M3
  refine ⟨_,_,_,rfl,x,?_⟩
  have V:=M3.len_le dc y
  refine O3 (M2.mono x) M3 k2 Q o o ?_
  intro A4 n4 c4 h4 G k4 M4
  refine ⟨_,_,_,rfl,G,R _ _ _ _ (A0 u (A0 B (A0 x G))) k4 ?_⟩
  grind
section
variable {h g:aL} {K:VP} {A XA:Option aJ} {n c:Nat} {eT:aN} {l:List UInt8}
def Nk{hs:aL}{ss:List (Option aJ × Nat × Nat)}{s:Option aJ × Nat × Nat}(h3:∀ i s,ss[i]? = some s->s.2.1<=s.2.2/\Mw hs s.1 s.2.1 (Dp i:Int))(h4:s.2.1<=s.2.2/\Mw hs s.1 s.2.1 (Dp ss.length:Int)):∀ i t,(ss++[s])[i]? = some t->t.2.1<=t.2.2/\Mw hs t.1 t.2.1 (Dp i:Int):=by
 grind
def Ks{hs:aL}{b:Nat}{e:aN}: ∀ i (t:Option aJ × Nat × Nat),[((some ⟨b,0,none⟩:Option aJ),1,1)][i]? = some t->t.2.1<=t.2.2/\Mw (hs.put b (.cells #[U 10000000000000000000] e)) t.1 t.2.1 (Dp i:Int):=by
 intro i t a
 rcases i with _|i
 ·simp at a
  subst a
  refine ⟨aZ _,[10000000000000000000],rfl,SlI.new _ _ _ _ _,?_,?_,?_⟩
  ·intro x c;grind
  ·unfold Norm;simp
  rfl
 grind
def Ic(hd:∀ c∈l,F4 c)(hl:l.length<=140737488351232)(hK:∀ A n c h',h.le h'->n<=c->Mw h' A n (G8 l:Int)->K (.slice A n c) h'):aM prog 185 #[.string (bs l)] h K:=by
 refine (fnk func185 [(4,[3],[],[.slice none 0 0])]) ?_
 rw [G7]
 refine B5 (fun h5=>?_) (fun _=>?_)
 ·refine N9 K0 rfl ?_
  intro q w
  refine ⟨_,_,_,rfl,?_⟩
  refine U6 Sg (Priv.nil _ _ _ none) rfl rfl o o ?_
  intro A1 c1 h1 R m Q
  refine ⟨fun s t=>∃ (d:List (Option aJ × Nat × Nat)) (PA:Option aJ) (k u:Nat) (g:aL),s=[.slice PA k u]/\bK t g 89 1 PA k u (d.map slT)/\d.length=k/\0<k/\h.le g/\(∀ i s,d[i]? = some s->s.2.1<=s.2.2/\Mw g s.1 s.2.1 (Dp i:Int))/\2^(k-1)<=l.length,fun s _=>match s with|[.slice _ n _]=>l.length-n|_=>0,⟨[(some ⟨q,0,none⟩,1,1)],A1,1,c1,R,rfl,Q,rfl,o,A0 (Heap.le_put _ w) m,fun i s e=>⟨(Ks (hs:=h) (b:=q) (e:=230) i s e).1,(Ks (hs:=h) (b:=q) (e:=230) i s e).2.mono m⟩,o⟩,?_⟩
  rintro PA k u t ⟨d,PA',k',N,g,hs,p,z,O,y,j,H⟩
  obtain ⟨rfl,rfl,rfl⟩:=hs
  have E:k-1<47:=by
   by_cases f:k-1<47
   ·exact f
   ·have:2^47<=2^(k-1):=aG dc o
    omega
  rw [aC,A3a (show k<=50 from o)]
  have W:B7 ((k:Int)-1)=((k-1:Nat):Int):=by rw [B6 o o];omega
  have x:Pws t PA k:=⟨d,z,p.slV,fun i s e=>⟨(j i s e).1,(j i s e).2.mono p.le⟩⟩
  refine B5 (fun e=>absurd e o) (fun _=>B5 (fun T=>?_) (fun T=>?_))
  ·obtain ⟨a,X,f⟩:=p.slV.at (i:=k-1) gz0
   rw [List.getElem_map] at f
   obtain ⟨B,M⟩:=j (k-1) (d[k-1]'o) (aX o)
   generalize d[k-1]'o=s at *
   dsimp only;rw [W]
   refine ⟨a,X,o,o,_,_,_,by rw [aC,aS];exact f,?_⟩
   have C:=M.tenP_le
   have L:2^k=2*2^(k-1):=by rw [<- Nat.pow_succ',show (k-1).succ=k from o]
   refine p.call ?_
   refine F5 M M B B o o ?_
   intro A2 F c2 g2 D V M2 h2 G
   refine ⟨_,_,_,rfl,?_⟩
   refine U6 Sg G rfl rfl o o ?_
   intro A3 S h3 g3 r p3
   refine ⟨⟨d++[(A2,F,c2)],A3,k+1,S,g3,rfl,?_,gz0,o,A0 y (A0 D r),?_,?_⟩,?_⟩
   ·grind
   ·refine Nk (fun i s e=>⟨(j i s e).1,(j i s e).2.mono (A0 D r)⟩) ⟨V,?_⟩
    rw [z,show Dp k=Dp (k-1)*Dp (k-1) by rw [<- Nj];grind,bY]
    exact M2.mono r
   ·grind
   grind
  ·refine Bp k hd hl x p.2.1 o ?_
   intro A n c h' l1 f M
   exact ⟨_,_,_,rfl,hK _ _ _ _ (A0 y (A0 p.le l1)) f M⟩
 ·refine Bp 0 hd hl ⟨[],rfl,SlV.nil,by simp⟩ o o ?_
  grind
def Cl(hd:∀ c∈l,F4 c)(hl:l.length<=140737488351232)(hK:∀ A n c h',h.le h'->ZI h' false A n c (G8 l:Int)->K (.agg #[.bool false,.slice A n c]) h'):aM prog 116 #[.string (bs l)] h K:=by
 refine (fnk func116 (own:=[2])) ?_
 refine Ic hd hl ?_
 intro A n c h' b a M
 refine ⟨_,_,_,rfl,hK _ _ _ _ b ⟨a,?_,?_⟩⟩
 ·assumption
 rfl
end
def Priv.le_put'{h g:aL}{e:aN}{s:Nat}{A:Option aJ}{n c:Nat}{xs:List bH}(p:bK h g e s A n c xs){b:Nat}(hb:h b=none)(o:Obj):g.le (g.put b o):=by
 intro k f d
 have a:k≠b:=by
  rintro rfl
  rw [p.le k f d] at hb;cases hb
 rw [B4 _ _ a];exact d
def Vw{n:Int}(h0:9223372036854775808<=n)(h1:n<18446744073709551616):B7 n=n-18446744073709551616:=by
 unfold B7 IntKind.wrap
 simp only [IntKind.signed,IntKind.bits]
 grind
section
variable {h g:aL} {K:VP} {A XA:Option aJ} {n c:Nat} {eT:aN} {l:List UInt8}
def A76{v xn:Nat}(hv:(v:Int)<b64^xn):(dd v).length<=20*xn:=by
 refine K7.2 ?_
 rw [cK]
 have a:((v:Nat):Int)<((18446744073709551616^xn:Nat):Int):=by assumption
 exact aP (Int.ofNat_lt.1 a) (cH dc _)
def Am{xn xc v:Nat}(gp:Gp g)(p:bK h g eT 1 A n c (yv l))(M:Mw g XA xn (v:Int))(hxc:xn<=xc)(hx:xn<=10000000)(hn:n<=200000000)
 (hK:∀ A' n' c' e3 g' h',Ext g eT A n c l (J2 v) A' n' c' e3 g' h'->K (.slice A' n' c') h'):aM prog 190 #[.slice A n c,.slice XA xn xc] h K:=by
 have h0:=M.len_zero dc
 refine (fnk func190 [(6,[5],[],[.slice none 0 0])]) ?_
 refine D5 (fun e=>?_) (fun e=>?_)
 ·obtain rfl:v=0:=o
  refine Eh (ch:=48) rfl p o ?_
  assumption
 ·have R:v≠0:=o
  refine D5 (fun X=>?_) (fun X=>?_)
  ·obtain ⟨xs,N,sx,dx,nx,G⟩:=M
   obtain ⟨w,rfl⟩:∃ w,xs=[w]:=by
    rcases xs with _|⟨w,_|⟨w',r⟩⟩
    ·grind
    ·grind
    grind
   rw [O5] at G
   subst G
   refine (SlI.mono p.le sx).load N o o ?_
   have t:=dx v (by simp)
   refine Al (gp.mono p.le) p gz0 o ?_
   grind
  ·have ak:=A76 (M.lt dc)
   have ae:(pad 0 v).length<=200000000:=by rw [Su];omega
   refine N9 K0 rfl ?_
   intro B H
   refine ⟨_,_,_,rfl,?_⟩
   have p1:=p.put H (.cells #[U 10000000000000000000] 230)
   have l1:=p.le_put' H (.cells #[U 10000000000000000000] 230)
   have w1:=fun i s e=>Ks (hs:=g) (b:=B) (e:=230) i s e
   generalize h.put B (Obj.cells #[U 10000000000000000000] 230)=h1 at *
   generalize g.put B (Obj.cells #[U 10000000000000000000] 230)=g1 at *
   refine N9 Sg rfl ?_
   intro b2 S
   refine ⟨_,_,_,rfl,?_⟩
   have split:∀ {y:aL} {m:List (Option aJ × Nat × Nat)} {PA:Option aJ} {k u:Nat} {f d:aL},bK y f 89 1 PA k u (m.map slT)->bK f d eT 1 A n c (yv l)->m.length=k->g.le d->(∀ i s,m[i]? = some s->s.2.1<=s.2.2/\Mw d s.1 s.2.1 (Dp i:Int))->k<=26->
    aM prog 238 #[.slice A n c,.slice XA xn xc,I (0:Int),.slice PA k u] y (fun r aa=>∃ (A1:Option aJ) (n1 c1:Nat),r= .slice A1 n1 c1/\K (.slice A1 n1 c1) aa):=by
    intro y m PA k u f d z C E D t j
    obtain ⟨g3,O,q⟩:=z.swap C
    have F:=A0 D q.le
    refine He k (W:=0) (gp.mono F) O (M.mono F) hxc hx ⟨m,E,q.slV,fun i s e=>⟨(t i s e).1,(t i s e).2.mono q.le⟩⟩ q.2.1 j (.inl rfl) o ?_
    intro A' n' c' e2 g' h' x
    refine ⟨_,_,_,rfl,hK _ _ _ e2 g' _ ?_⟩
    rw [Su,<- U3 R] at x
    exact x.weak F
   refine ⟨fun s y=>∃ (m:List (Option aJ × Nat × Nat)) (PA:Option aJ) (k u:Nat) (f d:aL),s=[.slice PA k u]/\bK y f 89 1 PA k u (m.map slT)/\bK f d eT 1 A n c (yv l)/\m.length=k/\0<k/\g.le d/\(∀ i s,m[i]? = some s->s.2.1<=s.2.2/\Mw d s.1 s.2.1 (Dp i:Int))/\2^(k-1)<=2*xn,fun s _=>match s with|[.slice _ n _]=>xn-n|_=>0,⟨[(some ⟨B,0,none⟩,1,1)],_,1,1,h1,g1,rfl,⟨by simp,by simp,.inr ⟨b2,[.slice (some ⟨B,0,none⟩) 1 1],rfl,S,rfl,by simp,by simp⟩⟩,p1,rfl,o,l1,w1,o⟩,?_⟩
   rintro PA k u y ⟨m,PA',k',ag,f,d,hs,z,C,E,ah,D,t,aj⟩
   obtain ⟨rfl,rfl,rfl⟩:=hs
   have j:k<=26:=by
    by_cases L:k<=26
    ·exact L
    ·have h1:2^26<=2^(k-1):=aG dc o
     omega
   refine B5 (fun ai=>?_) (fun _=>split z C E D t j)
   have X:B7 ((k:Int)-1)=((k-1:Nat):Int):=by rw [B6 o o];omega
   obtain ⟨a,ha,L⟩:=z.slV.at (i:=k-1) gz0
   rw [List.getElem_map] at L
   obtain ⟨h4,Mk⟩:=t (k-1) (m[k-1]'o) (aX o)
   generalize m[k-1]'o=s at *
   simp only [X,aC,aS]
   refine ⟨a,ha,o,o,_,_,_,L,?_⟩
   have ad:=Mk.tenP_ge
   have al:=Mk.tenP_le
   have e2:B7 (2*(s.2.1:Int))=2*(s.2.1:Int):=B6 o o
   refine B5 (fun h5=>?_) (fun _=>split z C E D t j)
   refine ⟨a,ha,o,o,_,_,_,L,?_⟩
   refine z.call (C.call ?_)
   refine F5 Mk Mk h4 h4 o o ?_
   intro A2 m2 c2 g2 l2 k2 M2 ac ab af T
   refine ⟨_,_,_,rfl,?_⟩
   refine U6 Sg T rfl rfl o o ?_
   intro A3 c3 h3 g3 F p3
   obtain ⟨g4,Q,V⟩:=ab.after F
   have hm:2^k=2*2^(k-1):=by
    obtain ⟨i,rfl⟩:∃ i,k=i+1:=⟨k-1,o⟩
    grind
   refine ⟨⟨m++[(A2,m2,c2)],A3,k+1,c3,g3,g4,rfl,?_,V,gz0,o,A0 D (A0 l2 Q),?_,?_⟩,?_⟩
   ·rw [cL];exact p3
   ·refine Nk (fun i s e=>⟨(t i s e).1,(t i s e).2.mono (A0 l2 Q)⟩) ⟨k2,?_⟩
    rw [E,show Dp k=Dp (k-1)*Dp (k-1) by rw [<- Nj];grind,bY]
    exact M2.mono Q
   ·grind
   omega
def A07{z:Int}{s:Bool}{xn xc m:Nat}(i:ZI h s XA xn xc z)(hz:ZB m z)(hm:m<=100000000):xn<=10000000:=by
 obtain ⟨k,hk⟩:∃ k,k=10000000:=⟨_,rfl⟩
 rw [<- hk]
 refine i.mag.len_le dc ?_
 rw [Df]
 have a:(z.natAbs:Int)<2^m:=by
  have:((z.natAbs:Nat):Int)<((2^m:Nat):Int):=Int.ofNat_lt.2 hz
  assumption
 have b:=C7 (B:=2) dc (show m<=64*k from o)
 omega
def Bi{s:Bool}{xn xc:Nat}{z:Int}(gp:Gp g)(p:bK h g eT 1 A n c (yv l))(i:ZI g s XA xn xc z){m:Nat}(hz:ZB m z)(hm:m<=100000000)(hn:n<=100000000)
 (hK:∀ A' n' c' e3 g' h',Ext g eT A n c l (Fk z) A' n' c' e3 g' h'->K (.slice A' n' c') h'):aM prog 129 #[.agg #[.bool s,.slice XA xn xc],.slice A n c] h K:=by
 have d:=A07 i hz hm
 refine (fnk func129 (own:=[2])) ?_
 refine Br.of (fun e=>?_) (fun e=>?_)
 ·have a:z<0:=by have:=i.sgn;grind
  rw [Se a] at hK
  refine Eh (ch:=45) rfl p o ?_
  intro A1 u c1 t r f b
  have:=b.len
  refine Am (gp.mono b.le) b.priv (i.mag.mono b.le) i.cap d gz0 ?_
  intro A2 x c2 w q k j
  exact ⟨_,_,_,rfl,hK _ _ _ _ _ _ (b.trans j)⟩
 ·have a:¬ z<0:=by have:=i.sgn;grind
  rw [Kq a] at hK
  refine Am gp p i.mag i.cap d o ?_
  grind
def Ms{s:Bool}{xn xc:Nat}{z:Int}(gp:Gp h)(i:ZI h s XA xn xc z){m:Nat}(hz:ZB m z)(hm:m<=100000000)(hK:K (.string (bs (Fk z))) h):aM prog 69 #[.agg #[.bool s,.slice XA xn xc]] h K:=by
 refine FCall.pure ((fnk func69 (own:=[1])) ?_)
 refine Bi (l:=[]) (eT:=5) gp (Priv.nil _ _ _ _) i hz hm o ?_
 intro A' a c e d b x
 refine ⟨_,_,_,rfl,?_⟩
 have f:=x.len
 refine Dy Ah.und V5 O6 x.priv.slV gz0 ⟨_,rfl,?_⟩
 exact ⟨A0 x.le x.priv.le,hK⟩
def Pv{s:Bool}{xn xc:Nat}{z:Int}(i:ZI h s XA xn xc z)(hK1: -9223372036854775808<=z->z<9223372036854775808->K (.tuple #[I z,.bool true]) h)(hK0:¬ (-9223372036854775808<=z/\z<9223372036854775808)->K (.tuple #[I 0,.bool false]) h):aM prog 127 #[.agg #[.bool s,.slice XA xn xc]] h K:=by
 have y:=i.zeroIff
 have l:=V8 i.sgn
 refine (fnk func127 (own:=[1])) ?_
 refine D5 (fun e=>?_) (fun e=>?_)
 ·grind
 ·obtain ⟨g,a,m,x,u,b⟩:=i.mag
  refine m.load a o o ?_
  rw [show ((0:Int)).toNat=0 from rfl]
  refine B5 (fun k=>?_) (fun k=>?_)
  ·refine hK0 ?_
   have j:=i.mag.ge dc o
   have t:b64^1<=b64^(xn-1):=C7 dc o
   grind
  ·obtain ⟨w,rfl⟩:∃ w,g=[w]:=by
    rcases g with _|⟨w,_|⟨q,r⟩⟩
    ·grind
    ·grind
    grind
   rw [O5] at b
   have p:[w].getD 0 0=w:=rfl
   rcases l with ⟨rfl,n⟩|⟨rfl,n⟩
   ·refine Br.of (fun _=>?_) (fun f=>by cases f)
    refine B5 (fun c=>?_) (fun c=>?_)
    ·have:B7 (C1 (0-w))=z:=by rw [E9,Vw o o];omega
     grind
    ·refine Br.of (fun d=>by cases d) (fun _=>?_)
     grind
   ·refine Br.of (fun f=>by cases f) (fun _=>?_)
    refine Br.of (fun _=>?_) (fun d=>by cases d)
    refine B5 (fun c=>?_) (fun c=>?_)
    ·have:B7 w=z:=by rw [B6 o o];omega
     grind
    grind
end
def Xv(a b:Rat):(a*b).num=a.num.tdiv (aW a.num.natAbs b.den:Nat)*b.num.tdiv (aW b.num.natAbs a.den:Nat)/\(a*b).den=a.den/(aW b.num.natAbs a.den)*(b.den/(aW a.num.natAbs b.den)):=by
 show (Rat.mul a b).num=_/\(Rat.mul a b).den=_
 delta Rat.mul
 simp only [Int.divExact_eq_tdiv,Nat.divExact_eq_div,and_self]
def A2o{q:Rat}(h:q.den=1):q=(q.num:Rat):=by
 apply Rat.ext
 ·simp
 assumption
abbrev dgt(c:UInt8):Bool:=decide (F4 c)
def Dz(l:List UInt8):∀ c∈l.takeWhile dgt,F4 c:=by
 induction l with
 | nil=>simp
 | cons d r ih=>
  intro c b
  by_cases a:F4 d
  ·simp [a] at b
   grind
  simp_all
def A18(l:List UInt8):Bool:=decide ([45] <+: l)
def Ct(l:List UInt8):List UInt8:=if [45] <+: l then l.drop 1 else l
def St(l:List UInt8):l=(if A18 l then [45] else [])++Ct l:=by
 unfold A18 Ct
 by_cases h:[45] <+: l
 ·obtain ⟨t,rfl⟩:=h;simp
 grind
def Xg(l:List UInt8):A18 l=(l.head? == some 45):=by
 unfold A18
 cases l with
 | nil=>simp
 | cons c r=>
  grind
def Form.parts{l:List UInt8}{neg:Bool}{a b:List UInt8}(f:Form l neg a b):neg=A18 l/\a=(Ct l).takeWhile dgt/\(if b=[] then [] else 47::b)=(Ct l).dropWhile dgt:=by
 have j:neg=A18 l:=by rw [Xg];exact f.head
 have e:=St l
 have i:=e.symm.trans f.eq
 have g:∀ c,(if b=[] then [] else 47::b:List UInt8).head? = some c->¬ F4 c:=by
  intro c d
  split at d
  ·grind
  ·simp at d;subst d;decide
 have:=Z2 f.da g
 grind
section
variable {h g:aL} {K:VP} {l:List UInt8}
def Cz(hl:l.length<=1000000000000000)(hK:K (.tuple #[.string (bs (l.takeWhile dgt)),.string (bs (l.dropWhile dgt))]) h):aM prog 184 #[.string (bs l)] h K:=by
 refine (fnk func184 [(2,[4],[],[I 0])] (cs:=[(4,[4],[],[I 0])])) ?_
 simp only [G7]
 refine ⟨fun L d=>L=[I (((l.takeWhile dgt).length:Nat):Int)]/\d=h,?_,?_⟩
 ·refine ⟨fun L d=>∃ k:Nat,L=[I k]/\d=h/\k<=l.length/\(∀ c∈l.take k,F4 c),fun L _=>l.length-(iAt L 0).toNat,⟨0,rfl,rfl,o,by simp⟩,?_⟩
  rintro n d ⟨k,x,rfl,z,f⟩
  obtain rfl:n=(k:Int):=gz0
  have a:(∀ c,(l.drop k).head? = some c->¬ F4 c)->[I (k:Int)]=[I (((l.takeWhile dgt).length:Nat):Int)]/\d=d:=by
   intro w
   have:=Z2 f w
   simp_all
  refine B5 (fun s=>?_) (fun s=>?_)
  ·have g:k<l.length:=o
   have b:(bs l)[(k:Int).toNat]? = some l[k]:=by rw [aC,Pb,aX g]
   have q:(l.drop k).head? = some l[k]:=by simp_all
   refine ⟨l[k],⟨o,b⟩,B5 (fun j=>?_) (fun j=>?_)⟩
   ·refine ⟨l[k],⟨o,b⟩,B5 (fun r=>?_) (fun r=>?_)⟩
    ·rw [B6 o o]
     refine ⟨⟨k+1,rfl,rfl,o,?_⟩,by simp only [iAt,aE];omega⟩
     rw [bC g]
     intro c e
     rcases List.mem_append.1 e with m|m
     ·grind
     ·rw [List.mem_singleton.1 m];exact ⟨o,o⟩
    ·exact a (fun c e=>by rw [q] at e;cases e;intro f;exact r (by have:=f.2;omega))
   ·exact a (fun c e=>by rw [q] at e;cases e;intro f;exact j (by have:=f.1;omega))
  grind
 ·rintro n d ⟨x,rfl⟩
  obtain rfl:n=(((l.takeWhile dgt).length:Nat):Int):=gz0
  have t:(l.takeWhile dgt).length<=l.length:=(List.takeWhile_sublist _).length_le
  have i:l.take (l.takeWhile dgt).length=l.takeWhile dgt:=by
   conv=>lhs;rw [<- bF (p:=dgt) (l:=l)]
   rw [bF,List.prefix_iff_eq_take.1 (List.takeWhile_prefix _)]
   grind
  have y:l.drop (l.takeWhile dgt).length=l.dropWhile dgt:=by
   have u:l.takeWhile dgt++l.drop (l.takeWhile dgt).length=l.takeWhile dgt++l.dropWhile dgt:=by
    rw [bF]
    conv=>lhs;lhs;rw [<- i]
    exact bZ _ _
   exact List.append_cancel_left u
  refine ⟨⟨o,o⟩,⟨o,o⟩,?_⟩
  rw [aC,J7,J7,bD,aV,i,y,aH gz0]
  exact hK
def Q3(a:List UInt8):((bs a).toList==({ data:=#[] }:ByteArray).toList)=decide (a=[]):=Gu a []
def Fm(hl:l.length<=1000000000000000)(hK1:∀ neg a b,Form l neg a b->K (.tuple #[.agg #[.bool neg,.string (bs a),.string (bs b)],.bool true]) h)(hK0:(∀ neg a b,¬ Form l neg a b)->∀ neg a b,K (.tuple #[.agg #[.bool neg,.string (bs a),.string (bs b)],.bool false]) h):aM prog 115 #[.string (bs l)] h K:=by
 refine (fnk func115 (cs:=[(8,[31],[],[.bool false])]) (own:=[2,4])) ?_
 refine Jm (q:=[45]) ⟨_,_,rfl,?_⟩
 have aa:(Ct l).length<=l.length:=by unfold Ct;grind
 show aM prog 184 #[.string (bs (Ct l))] h _
 refine Cz o ⟨_,_,rfl,?_⟩
 show Br _ _ _
 have x:Ct l=(Ct l).takeWhile dgt++(Ct l).dropWhile dgt:=List.takeWhile_append_dropWhile.symm
 have z:∀ c∈(Ct l).takeWhile dgt,F4 c:=Dz _
 have j:∀ neg a b,Form l neg a b->neg=A18 l/\a=(Ct l).takeWhile dgt/\(if b=[] then [] else 47::b)=(Ct l).dropWhile dgt:=fun neg a b f=>f.parts
 have F:=St l
 show Br _ _ _
 have A:decide ([45] <+: l)=A18 l:=rfl
 rw [A]
 generalize A18 l=neg at *
 generalize (Ct l).takeWhile dgt=a at *
 generalize (Ct l).dropWhile dgt=r at *
 generalize Ct l=t at *
 subst x
 have M:((bs a).toList==({ data:=#[48] }:ByteArray).toList)=decide (a=[48]):=Gu a [48]
 rw [M,Q3,Q3]
 refine B5 (fun R=>?_) (fun R=>?_)
 ·subst R
  refine Br.not (Br.of (fun hn=>?_) (fun hn=>?_))
  ·refine hK0 ?_ _ _ []
   intro B p g f
   obtain ⟨rfl,rfl,_⟩:=j _ _ _ f
   rcases f.ha with d|d
   ·grind
   grind
  ·subst hn
   by_cases X:r=[]
   ·subst X
    refine hK1 false [48] [] ⟨by assumption,o,by simp,by simp,.inr ⟨rfl,rfl,rfl⟩,by simp,by simp⟩
   ·rw [decide_eq_false X]
    refine hK0 ?_ _ _ []
    intro B p g f
    obtain ⟨rfl,rfl,w⟩:=j _ _ _ f
    rcases f.ha with d|d
    ·grind
    grind
 ·refine ⟨fun L V=>L=[.bool (decide (a=[]\/a.head? = some 48))]/\V=h,?_,?_⟩
  ·refine B5 (fun d=>⟨by simp [d],rfl⟩) (fun d=>?_)
   obtain ⟨c,i,rfl⟩:=aT d
   refine ⟨c,⟨o,by rfl⟩,?_,rfl⟩
   congr 2
   rw [Bool.eq_iff_iff,beq_iff_eq,decide_eq_true_iff]
   simp only [reduceCtorEq,false_or,cM,aQ]
   constructor
   ·intro e;apply UInt8.toNat_inj.1;grind
   ·rintro rfl;rfl
  rintro G V ⟨hL,rfl⟩
  obtain rfl:G=decide (a=[]\/a.head? = some 48):=gz0
  refine B5 (fun d=>?_) (fun d=>?_)
  ·refine hK0 ?_ _ _ []
   intro B p g f
   obtain ⟨rfl,rfl,_⟩:=j _ _ _ f
   rcases d with d|d
   ·exact f.ne d
   ·rcases f.ha with w|w
    ·grind
    grind
  ·have k:a≠[]:=fun e=>d (.inl e)
   have u:a.head? ≠ some 48:=fun e=>d (.inr e)
   refine B5 (fun w=>?_) (fun w=>?_)
   ·exact hK1 neg a [] ⟨gz0,z,by simp,k,.inl u,by simp,by simp⟩
   ·obtain ⟨c,i,rfl⟩:=aT w
    refine ⟨c,⟨o,by rfl⟩,K8 (fun Q=>?_) (fun Q=>?_)⟩
    ·refine hK0 ?_ _ _ []
     intro B p g f
     obtain ⟨rfl,rfl,m⟩:=j _ _ _ f
     by_cases D:g=[]
     ·grind
     ·rw [iN D] at m
      simp at m
      exact Q (by rw [<- m.1];rfl)
    ·have hc:c=47:=by apply UInt8.toNat_inj.1;grind
     subst hc
     refine ⟨⟨o,by rw [G7];grind⟩,?_⟩
     rw [J7,show ((1:Int)).toNat=1 from rfl,G7,aH (by simp),List.drop_succ_cons,bD]
     refine Cz gz0 ⟨_,_,rfl,?_⟩
     have T:i=i.takeWhile dgt++i.dropWhile dgt:=List.takeWhile_append_dropWhile.symm
     have E:∀ c∈i.takeWhile dgt,F4 c:=Dz _
     have O:∀ g:List UInt8,(∀ c∈g,F4 c)->g=i->i.takeWhile dgt=g/\i.dropWhile dgt=[]:=by
      intro g hd e
      have:=Z2 (r:=[]) hd (by simp)
      grind
     generalize i.takeWhile dgt=b at *
     generalize i.dropWhile dgt=s at *
     have no:(s≠[]\/b=[]\/b.head? = some 48\/b=[49])->∀ neg' p g,¬ Form (((if neg=true then [45] else [])++(a++47::i))) neg' p g:=by
      rintro y B p g f
      rw [<- F] at f
      obtain ⟨rfl,rfl,m⟩:=j _ _ _ f
      by_cases D:g=[]
      ·grind
      ·rw [iN D] at m
       simp at m
       obtain ⟨e6,e7⟩:=O g f.db m
       subst e6
       rcases y with n|n|n|n
       ·grind
       ·grind
       ·exact f.hb n
       ·exact f.b1 n
     rw [Q3,Q3]
     have H:((bs b).toList==({ data:=#[49] }:ByteArray).toList)=decide (b=[49]):=Gu b [49]
     rw [H]
     refine B5 (fun n=>?_) (fun n=>hK0 gz0 _ _ _)
     refine Br.not (B5 (fun S=>hK0 gz0 _ _ _) (fun S=>?_))
     obtain ⟨c,C,rfl⟩:=aT S
     refine ⟨c,⟨o,by rfl⟩,K8 (fun W=>?_) (fun W=>?_)⟩
     ·by_cases N:c::C=[49]
      ·rw [decide_eq_true N]
       exact hK0 gz0 _ _ _
      ·rw [decide_eq_false N]
       refine hK1 neg a (c::C) ⟨gz0,z,E,k,.inl u,?_,N⟩
       intro e;simp at e;exact W (by rw [e];rfl)
     ·have hh:(c::C).head? = some 48:=by
       simp only [cM,aQ]
       apply UInt8.toNat_inj.1;grind
      grind
end
def A0d{q:Rat}(h:q.den=1):K9 q=Fk q.num:=by unfold K9;grind
def Wc{q:Rat}(h:q.den≠1):K9 q=Fk q.num++[47]++Fk (q.den:Int):=by
 unfold K9;rw [iN h,Kq (i:=(q.den:Int)) o,Int.natAbs_natCast];simp
section
variable {h g:aL} {K:VP} {l:List UInt8}
def A7r{k:Nat}(h:k<=18):10^k<=1000000000000000000:=bB (aG dc h) dc
def Ak(hd:∀ c∈l,F4 c)(hl:l.length<=18)(hK:K (I (G8 l:Int)) h):aM prog 182 #[.string (bs l)] h K:=by
 refine (fnk func182 [(3,[3,7],[],[I 0,I 0])]) ?_
 simp only [G7]
 refine ⟨fun L f=>∃ k:Nat,L=[I (G8 (l.take k):Int),I k]/\f=h/\k<=l.length,fun L _=>l.length-(iAt L 1).toNat,⟨0,rfl,rfl,o⟩,?_⟩
 rintro n r f ⟨k,j,rfl,m⟩
 obtain ⟨rfl,rfl⟩:=j
 refine B5 (fun g=>?_) (fun g=>?_)
 ·have a:k<l.length:=o
  have d:=hd l[k] (bO a)
  have b:=U8 (l:=l.take (k+1)) (fun c i=>hd c (cC i))
  rw [bG,bW o] at b
  have q:=A7r (k:=k+1) o
  have p:G8 (l.take (k+1))=10*G8 (l.take k)+(l[k].toNat-48):=by rw [bC a,Bu]
  unfold F4 at d
  refine ⟨l[k],⟨o,by rw [aC,Pb,aX a]⟩,?_⟩
  have e:B7 (B7 (10*((G8 (l.take k):Nat):Int))+B7 (wu8 (((l[k].toNat:Nat):Int)-48)))=((G8 (l.take (k+1)):Nat):Int):=by
   rw [Js o o,B6 (n:=((l[k].toNat:Nat):Int)-48) o o,B6 (n:=10*((G8 (l.take k):Nat):Int)) o o,B6 o o]
   omega
  rw [e,B6 (n:=(k:Int)+1) o o]
  exact ⟨⟨k+1,rfl,rfl,o⟩,by simp only [iAt,aE,aF];omega⟩
 grind
def Wf{a b:Nat}(hK:K (I (aW a b:Int)) h):aM prog 130 #[I (a:Int),I (b:Int)] h K:=by
 refine (fnk func130 [(1,[0,1],[],[I 0,I 0])]) ?_
 refine ⟨fun L c=>∃ x y:Nat,L=[I x,I y]/\c=h/\aW x y=aW a b,fun L _=>(iAt L 1).toNat,⟨a,b,rfl,rfl,rfl⟩,?_⟩
 rintro i g c ⟨x,y,l,rfl,k⟩
 obtain ⟨rfl,rfl⟩:i=(x:Int)/\g=(y:Int):=gz0
 refine K8 (fun d=>?_) (fun d=>?_)
 ·have j:y≠0:=o
  refine B5 (fun e=>absurd e d) (fun _=>?_)
  have f:=Nat.mod_lt x (Nat.pos_of_ne_zero j)
  refine ⟨⟨y,x%y,rfl,rfl,?_⟩,by assumption⟩
  rw [<- k,Nat.gcd_comm x y,Nat.gcd_rec y x,Nat.gcd_comm]
 simp_all
def Jk(hK1:∀ q,l=K9 q->q.num.natAbs<1000000000->q.den<1000000000->K (.tuple #[.agg #[I q.num,I (q.den:Int)],.bool true]) h)(hK0:K (.tuple #[.agg #[I 0,I 0],.bool false]) h):aM prog 114 #[.string (bs l)] h K:=by
 refine (fnk func114 (cs:=[(5,[29],[],[.bool false]),(11,[],[(2,2),(6,2)],[I 0,I 0,I 0,I 0]),(13,[],[(6,2)],[I 0,I 0])]) (own:=[2,4,6])) ?_
 rw [G7]
 refine B5 (fun _=>hK0) (fun M=>?_)
 refine Fm o ?_ ?_
 ·intro neg a b f
  refine ⟨_,_,_,_,rfl,?_⟩
  simp only [G7]
  refine ⟨fun L i=>L=[.bool (decide (a.length>9\/b.length>9))]/\i=h,Br.of (fun e=>by cases e) (fun _=>B5 (fun n=>⟨?_,rfl⟩) (fun n=>⟨?_,rfl⟩)),?_⟩
  ·grind
  ·by_cases y:b.length>9
   ·grind
   grind
  rintro g i ⟨A,rfl⟩
  obtain rfl:g=decide (a.length>9\/b.length>9):=gz0
  refine B5 (fun _=>hK0) (fun n=>?_)
  have r:(Hb neg a).natAbs=G8 a:=by unfold Hb;omega
  have B:=U8 f.da
  have t:=U8 f.db
  have E:∀ k,k<=9->10^k<=1000000000:=fun k w=>bB (aG dc w) dc
  have D:=E a.length o
  refine Ak f.da o ⟨_,rfl,?_⟩
  refine ⟨fun L d=>L=[I 0,I 0,I (G8 a:Int),I (Dq b:Int)]/\d=i/\aW (G8 a) (Dq b)=1,?_,?_⟩
  ·rw [Q3]
   refine Br.not (B5 (fun s=>?_) (fun s=>?_))
   ·subst s;exact ⟨rfl,rfl,by unfold Dq;simp⟩
   ·refine Ak f.db o ⟨_,rfl,Wf ⟨_,rfl,K8 (fun _=>hK0) (fun H=>?_)⟩⟩
    have F:Dq b=G8 b:=by unfold Dq;grind
    grind
  ·rintro C z G O j ⟨m,rfl,u⟩
   obtain ⟨_,_,rfl,rfl⟩:=m
   obtain ⟨q,x⟩:=f.isNum.2 u
   have c:=f.of_txt x
   have p:Dq b<1000000000:=by unfold Dq;grind
   refine ⟨fun L d=>L=[I q.num,I (q.den:Int)]/\d=j,Br.of (fun e=>?_) (fun e=>?_),?_⟩
   ·rw [c.1,c.2,e,B6 o o]
    exact ⟨by unfold Hb;simp,rfl⟩
   ·rw [c.1,c.2,e]
    exact ⟨by rfl,rfl⟩
   grind
 ·intro N neg a b
  refine ⟨_,_,_,_,rfl,?_⟩
  refine ⟨fun L i=>L=[.bool true]/\i=h,Br.not ⟨rfl,rfl⟩,?_⟩
  rintro g i ⟨A,rfl⟩
  obtain rfl:g=true:=gz0
  exact Br.of (fun _=>hK0) (fun e=>by cases e)
end
structure RQ (h:aL) (w:QV) (q:Rat):Prop where
 num:ZI h w.s w.A w.n w.c q.num
 den:ZI h w.s2 w.A2 w.n2 w.c2 (if q.den=1 then 0 else (q.den:Int))
def ZB.gcd{m:Nat}{x y:Int}(hy:y≠0)(h:ZB m y):ZB m (cG x y:Int):=by
 refine h.le ?_
 exact Nat.le_of_dvd o (Int.natAbs_dvd_natAbs.2 (Int.gcd_dvd_right x y))
section
variable {h h':aL} {K:VP} {A B:Option aJ} {n c n' c':Nat} {s s':Bool} {x y z:Int} {m:Nat} {p q:Rat} {a b w:QV} {l:List UInt8}
def RQ.mono(hl:h.le h')(i:RQ h w q):RQ h' w q:=⟨i.num.mono hl,i.den.mono hl⟩
def RQ.whole(i:ZI h s A n c z):RQ h ⟨s,A,n,c,false,none,0,0⟩ (z:Rat):=⟨by assumption,by simpa using ZI.zero⟩
def RQ.zero:RQ h ⟨false,none,0,0,false,none,0,0⟩ 0:=⟨ZI.zero,ZI.zero⟩
def Cn(i:RQ h w q)(hK:K (.bool (decide (q.den=1))) h):aM prog 121 #[.agg #[.bool w.s2,.slice w.A2 w.n2 w.c2]] h K:=by
 refine F7 i.den ?_
 have:=q.den_nz
 simp_all
def T2(i:ZI h s A n c z)(j:ZI h s' B n' c' y)(h1:q.num=z)(h2:(q.den:Int)=y)(hK:∀ w,RQ h w q->K w.v h):aM prog 123 #[.agg #[.bool s,.slice A n c],.agg #[.bool s',.slice B n' c']] h K:=by
 subst h1 h2
 refine (fnk func123 (own:=[2,3,4])) ?_
 refine N2 j ⟨_,rfl,B5 (fun e=>?_) (fun e=>?_)⟩
 ·exact hK ⟨s,A,n,c,false,none,0,0⟩ ⟨i,by rw [iP o];exact ZI.zero⟩
 ·exact hK ⟨s,A,n,c,s',B,n',c'⟩ ⟨i,gz0⟩
def Ee(i:RQ h w q)(hK:∀ s A n c h',h.le h'->ZI h' s A n c (q.den:Int)->K (.agg #[.bool s,.slice A n c]) h'):aM prog 124 #[w.v] h K:=by
 refine (fnk func124 (own:=[1,2])) ?_
 refine Cn i ⟨_,rfl,B5 (fun e=>?_) (fun e=>?_)⟩
 ·refine Dr dc dc ?_
  grind
 ·have:=i.den
  rw [iN e] at this
  exact hK _ _ _ _ _ (B3 _) this
def Ix(gl:Gtz h)(i:ZI h s A n c x)(j:ZI h s' B n' c' y)(hx:ZB m x)(hy:ZB m y)(hm:m<=6400000000)(hy0:0<y)(hK:∀ s1 A1 n1 c1 s2 A2 n2 c2 h',h.le h'->ZI h' s1 A1 n1 c1 (x.tdiv (cG x y))->ZI h' s2 A2 n2 c2 (y.tdiv (cG x y))->K (.tuple #[.agg #[.bool s1,.slice A1 n1 c1],.agg #[.bool s2,.slice A2 n2 c2]]) h'):aM prog 147 #[.agg #[.bool s,.slice A n c],.agg #[.bool s',.slice B n' c']] h K:=by
 refine (fnk func147 (os:=[(4,[0,1,3,4,2,5,6,7])]) (own:=[2,3,4,5,6])) ?_
 refine N2 j ⟨_,rfl,B5 (fun e=>?_) (fun e=>?_)⟩
 ·subst e
  have k:cG x 1=1:=by simp
  rw [k] at hK
  exact hK _ _ _ _ _ _ _ _ _ (B3 _) gz0 (by assumption)
 ·refine Bg gl i j hx hy o ?_
  intro A1 n1 c1 u d g
  have k:=Int.gcd_pos_of_ne_zero_right x (show y≠0 from o)
  have a:ZB m (cG x y:Int):=ZB.gcd o hy
  refine ⟨_,_,_,_,rfl,S6 (i.mono d) g hx a hm o ?_⟩
  intro s2 A2 n2 c2 r b p
  refine ⟨_,_,_,_,rfl,b,S6 (j.mono (A0 d b)) (g.mono b) hy a hm o ?_⟩
  intro q A3 z t w f l
  exact ⟨_,_,_,_,rfl,f,hK _ _ _ _ _ _ _ _ _ (A0 d (A0 b f)) (p.mono f) l⟩
def Ue(i:RQ h w q)(hK:∀ w',RQ h w' (-q)->K w'.v h):aM prog 140 #[w.v] h K:=by
 refine A4q _ _ _ _ _ _ _ _ ?_
 refine S7 i.num ?_
 intro a b
 exact ⟨_,_,_,_,rfl,B3 _,hK ⟨a,w.A,w.n,w.c,w.s2,w.A2,w.n2,w.c2⟩ ⟨by assumption,by simpa using i.den⟩⟩
end
structure Gl (h:aL):Prop where
 tz:Gtz h
 p10:Gp h
def Gl.mono{h h':aL}(g:Gl h)(l:h.le h'):Gl h':=⟨g.tz.mono l,g.p10.mono l⟩
section
variable {h h':aL} {K:VP} {A B:Option aJ} {n c n' c':Nat} {s s':Bool} {x y z:Int} {m:Nat} {p q:Rat} {a b w:QV} {l:List UInt8}
def Uf(gl:Gtz h)(i:RQ h a p)(j:RQ h b q)(hp:Sz m p)(hq:Sz m q)(hm:m<=6400000000)(hK:∀ w h',h.le h'->RQ h' w (p*q)->K w.v h'):aM prog 79 #[a.v,b.v] h K:=by
 have W:=p.den_nz
 have S:=q.den_nz
 refine A4r _ _ _ _ _ _ _ _ _ _ _ _ _ _ _ _ ?_
 refine ⟨fun L hp=>L=[.bool (decide (p.num=0\/q.num=0))]/\hp=h,F7 i.num ⟨_,rfl,B5 (fun e=>?_) (fun e=>?_)⟩,?_⟩
 ·grind
 ·exact F7 j.num ⟨_,rfl,by simp [e],rfl⟩
 rintro n t ⟨O,rfl⟩
 obtain rfl:n=decide (p.num=0\/q.num=0):=gz0
 refine B5 (fun e=>?_) (fun e=>?_)
 ·have:p*q=0:=by
   rw [Rat.num_eq_zero,Rat.num_eq_zero] at e
   grind
  rw [this] at hK
  exact hK ⟨false,none,0,0,false,none,0,0⟩ _ (B3 _) RQ.zero
 ·refine ⟨fun L hp=>L=[.bool (decide (p.den=1/\q.den=1))]/\hp=t,Cn i ⟨_,rfl,B5 (fun e=>?_) (fun e=>?_)⟩,?_⟩
  ·exact Cn j ⟨_,rfl,by simp [e],rfl⟩
  ·grind
  rintro l H ⟨O,rfl⟩
  obtain rfl:l=decide (p.den=1/\q.den=1):=gz0
  refine B5 (fun e=>?_) (fun e=>?_)
  ·refine Bf i.num j.num hp.num hq.num o ?_
   intro B A1 C c1 N f V
   refine ⟨_,_,_,_,rfl,hK ⟨B,A1,C,c1,false,none,0,0⟩ _ f ?_⟩
   have:=RQ.whole V
   rw [Rat.intCast_mul,<- A2o e.1,<- A2o e.2] at this
   exact this
  ·have r:=Xv p q
   refine Ee j ?_
   intro B A1 C c1 N f R
   refine ⟨_,_,_,_,rfl,f,Ix (gl.mono f) (i.num.mono f) R hp.num hq.den hm o ?_⟩
   intro s2 A2 n2 c2 s3 A3 n3 c3 h2 D z u
   have c:=A0 f D
   refine ⟨_,_,_,_,_,_,_,_,rfl,D,Ee (i.mono c) ?_⟩
   intro s4 A4 n4 c4 h4 d y
   refine ⟨_,_,_,_,rfl,d,Ix (gl.mono (A0 c d)) (j.num.mono (A0 c d)) y hq.num hp.den hm o ?_⟩
   intro s5 A5 n5 c5 s6 A6 n6 c6 h5 g A x
   have X:cG p.num (q.den:Int)=aW p.num.natAbs q.den:=rfl
   have Q:cG q.num (p.den:Int)=aW q.num.natAbs p.den:=rfl
   rw [X] at z u
   rw [Q] at A x
   rw [<- cD] at u x
   refine ⟨_,_,_,_,_,_,_,_,rfl,g,Bf (z.mono (A0 d g)) A hp.num.tdiv hq.num.tdiv o ?_⟩
   intro s7 A7 n7 c7 h7 k M
   have F:ZB m ((p.den/aW q.num.natAbs p.den:Nat):Int):=hp.den.le (by exact bX _ _)
   have T:ZB m ((q.den/aW p.num.natAbs q.den:Nat):Int):=hq.den.le (by exact bX _ _)
   refine ⟨_,_,_,_,rfl,k,Bf (x.mono k) (u.mono (A0 d (A0 g k))) F T o ?_⟩
   intro s8 A8 n8 c8 h8 s G
   refine ⟨_,_,_,_,rfl,s,T2 (q:=p*q) (M.mono s) G r.1 o ?_⟩
   intro w E
   exact ⟨_,_,_,_,_,_,_,_,rfl,B3 _,hK _ _ (A0 c (A0 d (A0 g (A0 k s)))) E⟩
def Lc(i:RQ h w q)(hK:∀ w h',h.le h'->RQ h' w q⁻¹->K w.v h'):aM prog 62 #[w.v] h K:=by
 refine (fnk func62 (os:=[(5,[0,3,4,1,2,5,6,7]),(6,[0,2,3,1,4,5])]) (own:=[1,2])) ?_
 refine Jr i.num ⟨_,rfl,D5 (fun e=>?_) (fun e=>?_)⟩
 ·have:q⁻¹=0:=by simp_all
  rw [this] at hK
  exact hK ⟨false,none,0,0,false,none,0,0⟩ _ (B3 _) RQ.zero
 ·have g:q.num≠0:=fun r=>e gz0
  refine D5 (fun f=>?_) (fun f=>?_)
  ·have j:q.num<0:=Int.sign_neg_iff.1 o
   refine Ee i ?_
   intro p A1 l c1 n a c
   refine ⟨_,_,_,_,rfl,a,S7 c ?_⟩
   intro t m
   refine ⟨_,_,_,_,rfl,B3 _,S7 (i.num.mono a) ?_⟩
   intro s k
   refine ⟨_,_,_,_,rfl,B3 _,T2 (q:=q⁻¹) m k ?_ ?_ ?_⟩
   ·rw [Rat.num_inv,f];omega
   ·rw [Rat.den_inv,iN g];omega
   ·intro w d
    exact ⟨_,_,_,_,_,_,_,_,rfl,B3 _,hK _ _ a d⟩
  ·have b:0<q.num:=by
    grind
   refine Ee i ?_
   intro p A1 l c1 n a c
   refine ⟨_,_,_,_,rfl,a,T2 (q:=q⁻¹) c (i.num.mono a) ?_ ?_ ?_⟩
   ·rw [Rat.num_inv,Int.sign_eq_one_of_pos b,Int.one_mul]
   ·rw [Rat.den_inv,iN g];omega
   ·intro w d
    exact ⟨_,_,_,_,_,_,_,_,rfl,B3 _,hK _ _ a d⟩
def Ui(gl:Gtz h)(i:RQ h a p)(j:RQ h b q)(hp:Sz m p)(hq:Sz m q)(hm1:1<=m)(hm:m<=6400000000)(hK:∀ w h',h.le h'->RQ h' w (p/q)->K w.v h'):aM prog 67 #[a.v,b.v] h K:=by
 refine A4s _ _ _ _ _ _ _ _ _ _ _ _ _ _ _ _ ?_
 refine Lc j ?_
 intro g l c e
 refine ⟨_,_,_,_,_,_,_,_,rfl,c,Uf (gl.mono c) (i.mono c) e hp (hq.inv hm1) hm ?_⟩
 intro n k d f
 exact ⟨_,_,_,_,_,_,_,_,rfl,d,hK _ _ (A0 c d) f⟩
def Fy{t:List UInt8}{k:Nat}(h:∀ c∈t,F4 c)(hk:t.length<=k):ZB (4*k) (G8 t:Int):=by
 exact aP (T3 h) (aG dc o)
def Form.lens{neg:Bool}{a b:List UInt8}(f:Form l neg a b):a.length<=l.length/\b.length<=l.length:=by
 have:=congrArg List.length f.eq
 grind
def Uh(gl:Gtz h)(hl:l.length<=140737488351232)(hK1:∀ q,l=K9 q->∀ w h',h.le h'->RQ h' w q->K (.tuple #[w.v,.bool true]) h')(hK0:¬ IsNum l->∀ (w:QV) h',h.le h'->RQ h' w 0->K (.tuple #[w.v,.bool false]) h'):aM prog 120 #[.string (bs l)] h K:=by
 refine (fnk func120 (cs:=[(7,[],[(6,4)],[.bool false,.slice none 0 0,.bool false,.slice none 0 0])]) (own:=[2,4,6])) ?_
 refine Fm o ?_ ?_
 ·intro neg a b f
  refine ⟨_,_,_,_,rfl,Br.not ?_⟩
  have G:=f.lens
  refine Cl f.da o ?_
  intro A1 Q c1 F s i1
  refine ⟨_,_,_,_,rfl,?_⟩
  refine ⟨fun L X=>∃ i:Bool,L=[.bool i,.slice A1 Q c1,.bool false,.slice none 0 0]/\X=F/\ZI F i A1 Q c1 (Hb neg a),Br.of (fun e=>?_) (fun e=>?_),?_⟩
  ·refine S7 i1 ?_
   intro i t
   exact ⟨_,_,_,_,rfl,i,rfl,rfl,by unfold Hb;grind⟩
  ·exact ⟨false,rfl,rfl,by unfold Hb;grind⟩
  rintro C p n d x2 V aa ab T ⟨i,H,rfl,t⟩
  simp only [List.cons.injEq,Value.slice.injEq,Value.bool.injEq,and_true] at H
  obtain ⟨rfl,⟨rfl,rfl,rfl⟩,rfl,rfl,rfl,rfl⟩:=H
  have j:(Hb neg a).natAbs=G8 a:=by unfold Hb;omega
  rw [Q3]
  refine B5 (fun u=>?_) (fun u=>?_)
  ·subst u
   obtain ⟨q,g⟩:=f.isNum.2 (by unfold Dq;simp)
   obtain ⟨E,z⟩:=f.of_txt g
   refine hK1 q g ⟨C,p,n,d,false,none,0,0⟩ _ s ⟨gz0,?_⟩
   rw [z,show Dq []=1 from rfl,iP rfl];exact ZI.zero
  ·refine Cl f.db o ?_
   intro A4 R c4 h4 m M
   have B:ZB (4*l.length) (Hb neg a):=(Fy f.da (k:=l.length) o).le o
   refine ⟨_,_,_,_,rfl,Bg (gl.mono (A0 s m)) (t.mono m) M B (Fy f.db (k:=l.length) o) o ?_⟩
   intro A5 n5 c5 h5 r S
   refine ⟨_,_,_,_,rfl,N2 S ⟨_,rfl,?_⟩⟩
   have c:Dq b=G8 b:=by unfold Dq;grind
   have y:cG (Hb neg a) (G8 b:Int)=aW (G8 a) (Dq b):=by
    rw [c];show aW (Hb neg a).natAbs (G8 b)=_;rw [j]
   rw [y]
   refine Br.not (B5 (fun O=>?_) (fun O=>?_))
   ·obtain ⟨q,g⟩:=f.isNum.2 o
    obtain ⟨E,z⟩:=f.of_txt g
    have x:Dq b≠1:=by
     intro W
     have N:=Ev f.db u (.inl f.hb)
     rw [<- c,W] at N
     apply f.b1
     rw [<- N];simp [J2,X4,I3,dch]
    refine hK1 q g ⟨C,p,n,d,false,A4,R,c4⟩ _ (A0 s (A0 m r)) ⟨by rw [E];exact t.mono (A0 m r),?_⟩
    rw [z,iN x,c];exact M.mono r
   ·refine hK0 ?_ ⟨false,none,0,0,false,none,0,0⟩ _ (A0 s (A0 m r)) RQ.zero
    intro A
    exact O (by rw [f.isNum.1 A];rfl)
 ·intro hf neg a b
  refine ⟨_,_,_,_,rfl,Br.not ?_⟩
  refine hK0 ?_ ⟨false,none,0,0,false,none,0,0⟩ _ (B3 _) RQ.zero
  intro A
  obtain ⟨D,a',b',f⟩:=A.form
  grind
def Gm(gp:Gp h)(i:RQ h w q)(hq:Sz m q)(hm:m<=40000000)(hK:K (.string (bs (K9 q))) h):aM prog 64 #[w.v] h K:=by
 refine FCall.pure ((fnk func64 (own:=[1])) ?_)
 refine Cn i ⟨_,rfl,B5 (fun e=>?_) (fun e=>?_)⟩
 ·rw [A0d e] at hK
  refine Pv i.num (fun f j=>?_) (fun f=>?_)
  ·refine ⟨_,_,rfl,Br.of (fun _=>(fnk func128) ?_) (fun e=>by cases e)⟩
   exact Jl gp f j ⟨_,rfl,_,rfl,B3 _,hK⟩
  ·refine ⟨_,_,rfl,Br.of (fun e=>by cases e) (fun _=>?_)⟩
   exact Ms gp i.num hq.num o ⟨_,rfl,B3 _,hK⟩
 ·rw [Wc e] at hK
  have c:=i.den
  rw [iN e] at c
  refine Bi (l:=[]) (eT:=5) gp (Priv.nil _ _ _ _) i.num hq.num o o ?_
  intro A1 D c1 B y f g
  refine ⟨_,_,_,rfl,?_⟩
  have s:(Fk q.num).length<=50000000:=by
   unfold Fk
   have:=Dm hq.num
   grind
  have r:=g.len
  refine Eh (ch:=47) rfl g.priv o ?_
  intro A2 E c2 x u j k
  have b:=g.trans k
  have d:=b.len
  rw [aI,List.length_singleton] at d
  refine Bi (gp.mono b.le) k.priv (c.mono b.le) hq.den o o ?_
  intro A3 t z C F A p
  refine ⟨_,_,_,rfl,?_⟩
  have a:=b.trans p
  have n:=a.len
  refine Dy Ah.und V5 O6 a.priv.slV gz0 ⟨_,rfl,?_⟩
  refine ⟨A0 a.le a.priv.le,?_⟩
  assumption
end
structure Tx (m:Nat) (l:List UInt8):Prop where
 len:l.length<=140737488351232
 sz:Sz m (rv l)
def Wb(q:Rat):∃ c r,K9 q=c::r/\(c=45↔q<0):=by
 have f:=Bl q
 have a:K9 q≠[]:=by
  intro e
  have:=f.eq
  rw [e] at this
  have d:=f.ne
  have:=congrArg List.length this
  simp only [aI,List.length_nil] at this
  exact d (aK o)
 obtain ⟨c,r,e⟩:=aT a
 refine ⟨c,r,e,?_⟩
 have b:=f.head
 rw [e,cM,Bool.eq_iff_iff,decide_eq_true_iff,beq_iff_eq,aQ] at b
 rw [<- b,Rat.lt_iff];simp
section
variable {h:aL} {K:VP} {m:Nat} {a b:List UInt8}
def Tt(gl:Gl h)(hl:a.length<=140737488351232)(hK1:IsNum a->K (.bool true) h)(hK0:¬ IsNum a->K (.bool false) h):aM prog 57 #[.string (bs a)] h K:=by
 refine FCall.pure ((fnk func57 (os:=[(7,[0,1,3,4,2,5,6,7,8])]) (own:=[3,5])) ?_)
 refine Jk ?_ ?_
 ·intro q e _ _
  exact ⟨_,_,_,rfl,Br.of (fun _=>⟨B3 _,hK1 ⟨q,e⟩⟩) (fun e=>by cases e)⟩
 ·refine ⟨_,_,_,rfl,Br.of (fun e=>by cases e) (fun _=>?_)⟩
  refine Fm o ?_ ?_
  ·intro neg x y f
   refine ⟨_,_,_,_,rfl,Br.of (fun e=>by cases e) (fun _=>?_)⟩
   have j:=f.lens
   rw [Q3]
   refine B5 (fun e=>?_) (fun e=>?_)
   ·subst e
    exact ⟨B3 _,hK1 (f.isNum.2 (by unfold Dq;simp))⟩
   ·refine Cl f.da o ?_
    intro A1 D c1 z d r
    refine ⟨_,_,_,_,rfl,d,Cl f.db o ?_⟩
    intro A2 E c2 s b m
    refine ⟨_,_,_,_,rfl,b,Bg (gl.tz.mono (A0 d b)) (r.mono b) m (Fy f.da (k:=a.length) o) (Fy f.db (k:=a.length) o) o ?_⟩
    intro A3 u B C l p
    refine ⟨_,_,_,_,rfl,l,N2 p ⟨_,rfl,B3 _,A0 d (A0 b l),?_⟩⟩
    rw [Int.gcd_natCast_natCast]
    have g:Dq y=G8 y:=by unfold Dq;grind
    by_cases n:aW (G8 x) (G8 y)=1
    ·rw [decide_eq_true o]
     exact hK1 (f.isNum.2 gz0)
    ·rw [decide_eq_false o]
     exact hK0 (fun c=>n (by rw [<- g];exact f.isNum.1 c))
  ·intro A neg x y
   refine ⟨_,_,_,_,rfl,Br.of (fun _=>⟨B3 _,hK0 ?_⟩) (fun e=>by cases e)⟩
   intro c
   obtain ⟨i,w,t,f⟩:=c.form
   grind
end
def A52(h:aL)(r:bH)(h':aL):Prop:=r= .bool true/\h.le h'
def A5f{x:List UInt8}{k:Nat}(hl:x.length<=k)(hk:1<=k):Sz (4*k) (rv x):=by
 by_cases d:IsNum x
 ·obtain ⟨neg,a,b,f⟩:=d.form
  obtain ⟨i,g⟩:=f.rv_num d
  have e:=f.lens
  have c:(Hb neg a).natAbs=G8 a:=by unfold Hb;split<;>simp
  refine ⟨?_,?_⟩
  ·rw [i];exact (Fy f.da (k:=k) o).le (by rw [c,Int.natAbs_natCast];exact aZ _)
  ·rw [g]
   unfold Dq
   split
   ·exact ZB.one o
   ·exact Fy f.db o
 ·rw [A25 d];exact Sz.zero o
end Go.Proofs.YtdphgbjaijlckaaGreatDoor
namespace Go.Proofs.YtdphgbjaijlckaaGreatDoor
set_option maxRecDepth 20000
open Go Go.RowKit
def memOf(W:World):aL:=fun b=>W.heap[b]?
def frame_of{P:cI}{f:FuncId}{args:Array bH}{W:World}(x:aM P f args (memOf W) (A52 (memOf W))):Calls P f args W fun e w'=>e= .returned (.bool true)/\Below W.heap.size W w':=by
 refine (x W (fun b o e=>e)).mono ?_
 rintro e W' ⟨r,l,i,⟨j,c⟩,a⟩
 subst j
 refine ⟨i,a.os,a.tape,a.output,a.size,fun k g=>?_⟩
 have d:memOf W k=some W.heap[k]:=Array.getElem?_eq_getElem g
 have:=a.sim k _ (c k _ d)
 rw [this];exact d.symm
def W7{W:World}{a:aJ}{v:bH}(e:W.cell? a=some v):(memOf W).cell? a=some v:=by
 unfold World.cell? at e
 unfold Heap.cell? memOf
 exact e
def Td{P:cI}{W:World}{x:String × DataW Unit}{rest:List (String × DataW Unit)}(h:laidMet P (x::rest) W):laidMet P rest W:=by
 obtain ⟨n,d⟩:=x
 obtain ⟨k,⟨g,t,r,c,p,q,s,l,u,m,i,rfl⟩,e,f⟩:=h
 exact ⟨q,i,(List.nodup_append.1 e).2.1,fun b a j=>f b a (List.mem_append_right _ j)⟩
def A7s:List Int:=[0,1,28,2,29,14,24,3,30,22,20,15,25,17,4,8,31,27,13,23,21,19,16,7,26,12,18,6,11,5,10,9]
def A0l:List Int:=[0,1,56,2,57,49,28,3,61,58,42,50,38,29,17,4,62,47,59,36,45,43,51,22,53,39,33,30,24,18,12,5,63,55,48,27,60,41,37,16,46,35,44,21,52,32,23,11,54,26,40,15,34,20,31,10,25,14,19,9,13,8,7,6]
def A36:List Int:=[1,10,100,1000,10000,100000,1000000,10000000,100000000,1000000000,10000000000,100000000000,1000000000000,10000000000000,100000000000000,1000000000000000,10000000000000000,100000000000000000,1000000000000000000,10000000000000000000]
def A2j:prog.globalNamed "math/bits.deBruijn64tab" = some 1:=by kernel_rfl
def A2k:prog.globalNamed "internal/strconv.uint64pow10" = some 0:=by kernel_rfl
def tabs_gl{W:World}(h:laidMet prog [("math/bits.deBruijn32tab",Rows.laid_math_bits_deBruijn32tab),("math/bits.deBruijn64tab",Rows.laid_math_bits_deBruijn64tab),("internal/strconv.uint64pow10",Rows.laid_internal_strconv_uint64pow10)] W):Gl (memOf W):=by
 have i:=Td h
 have j:=Td i
 have e:Lib.TabIs prog W "math/bits.deBruijn64tab" .u8 A0l:=Lib.tabIs_of_head (rest:=[("internal/strconv.uint64pow10",Rows.laid_internal_strconv_uint64pow10)]) A2j (by kernel_rfl) underlying308 underlying5 (by kernel_rfl) (by kernel_rfl) i
 have g:Lib.TabIs prog W "internal/strconv.uint64pow10" .u64 A36:=Lib.tabIs_of_head (rest:=[]) A2k (by kernel_rfl) underlying298 underlying230 (by kernel_rfl) (by kernel_rfl) j
 have d:∀ k,k<64->Qd k<A0l.length/\A0l.getD (Qd k) 0=(k:Int):=by decide +kernel
 have f:∀ k,k<20->A36.getD k 0=((10^k:Nat):Int):=by decide +kernel
 refine ⟨fun k c=>?_,fun k c=>?_⟩
 ·obtain ⟨a,b⟩:=d k c
  have:=W7 (e.cell A2j (Qd k) a)
  rw [D4,aS,bJ,this,b]
 ·have:=W7 (g.cell A2k k (by show k<20;exact c))
  rw [D4,aS,bJ,this,f k c]
def Yg(zs:List Int)(k:IntKind):Obj->Obj
 | .cells _ t frozen=>.cells (zs.map (aO k)).toArray t frozen
 | o=>o
def layTabs(a:Array Obj):Array Obj:=((a.modify 4 (Yg A7s .u8)).modify 1 (Yg A0l .u8)).modify 0 (Yg A36 .u64)
