/- A part. -/
import Derived.Test.YteppbhimdjmabaaGreatDoorG18
import Derived.Test.YteppbhimdjmabaaGreatDoorRows
import Derived.Lib.LaidTab
open Go.Proofs.Tryz
set_option linter.all false
open _root_.Array renaming replicate->bM
open Bool renaming eq_iff_iff->cP
open _root_.Go.Builtin renaming zeroCells->aX,append_->bL
open _root_.ByteArray renaming size->cU
open Int renaming toNat_natCast->aC,gcd->aU,ofNat_tmod->bG,ofNat_tdiv->bH,sign_eq_one_of_pos->bU,tmod->cL,natCast_mul->cO,tdiv->cX,mul_le_mul_of_nonneg_right->cZ,mul_ne_zero->dG,tdiv_eq_ediv_of_dvd->dK,gcd_natCast_natCast->dL,pow_succ->dM
open List renaming replicate->aE,getElem?_cons_zero->aF,getElem?_cons_succ->aH,take_of_length_le->aJ,length_append->aL,eq_nil_of_length_eq_zero->aO,take_succ_eq_append_getElem->aT,mem_of_mem_take->aZ,exists_cons_of_ne_nil->bC,drop_zero->bF,drop_eq_getElem_cons->bJ,getElem?_eq_getElem->bK,takeWhile_append_dropWhile->bX,length_take->bY,append_assoc->cI,length_drop->cJ,getElem_mem->cK,drop_of_length_le->cM,take_append_drop->cR,length_singleton->cT,length_cons->cY,map_append->dE,head?_cons->dF,getLast?_singleton->dJ
open Nat renaming pow_le_pow_right->aI,lt_of_lt_of_le->aR,gcd->aS,div_le_self->aV,mul_one->aY,sub_zero->bI,le_refl->bN,le_trans->bO,zero_add->cD,gcd_dvd_right->cH,min_eq_left->cN,pow_le_pow_left->cV,pow_mul->dB,le_of_dvd->dI
open Option.some renaming injEq->aW
open Rat renaming divInt->cF,num_eq_zero->dC,add->dH
open _root_.Go.Value renaming int->aP
open _root_ renaming Nat->J,Int->Z,List->Y
open _root_.Go renaming Addr->aN,TypeId->aQ,Value->bZ,Program->cW
open _root_.Go.Proofs.YteppbhimdjmabaaGreatDoor renaming FCall->aK,Heap->aM,Priv->cC,SliceT->cQ
namespace Go.Proofs.YteppbhimdjmabaaGreatDoor
set_option maxRecDepth 20000
open Go
section
variable {h g:aM} {K:VP} {A B:Option aN} {s s':Bool} {an ac bn bc m:J} {x y:Z}
def Fs(hs:s=decide (x<0)):(s=true/\x= -(x.natAbs:Z))\/(s=false/\x=(x.natAbs:Z)):=by grind
def B5z(a b:J):(a:Z).tdiv b=((a/b:J):Z)/\(-(a:Z)).tdiv (-(b:Z))=((a/b:J):Z)/\(-(a:Z)).tdiv b= -((a/b:J):Z)/\(a:Z).tdiv (-(b:Z))= -((a/b:J):Z):=by simp_all
def B5v(a b:J):(a:Z).tmod b=((a%b:J):Z)/\(-(a:Z)).tmod (-(b:Z))= -((a%b:J):Z)/\(-(a:Z)).tmod b= -((a%b:J):Z)/\(a:Z).tmod (-(b:Z))=((a%b:J):Z):=by refine⟨(bG a b).symm,?_,?_,?_⟩;{rw[Int.neg_tmod,Int.tmod_neg,bG]};{rw[Int.neg_tmod,bG]};·rw[Int.tmod_neg,bG]
def A2j(i:ZI h s A an ac x)(j:ZI h s' B bn bc y)(hx:ZB m x)(hy:ZB m y)(hm:m<=6400000000)(hy0:y≠0)(hK:∀s1 A1 n1 c1 s2 A2 n2 c2 h',h.le h'->ZI h' s1 A1 n1 c1 (x.tdiv y)->ZI h' s2 A2 n2 c2 (x.tmod y)->K (.tuple #[.agg #[.bool s1,.slice A1 n1 c1],.agg #[.bool s2,.slice A2 n2 c2]]) h'):aK prog 221 #[.agg #[.bool s,.slice A an ac],.agg #[.bool s',.slice B bn bc]] h K:=by have n:=i.len hx hm;have q:=j.len hy hm;have r:=j.zeroIff;have a:=Fs i.sgn;have b:=Fs j.sgn;refine(fnk func221 (os:=[(4,[0,1,2,3,4,5,7,8,9,6,10,11,12])]) (own:=[2,3,4,5])) ?_;refine D4 (fun e=>o) (fun _=>?_);refine Y7 i.mag j.mag i.cap j.cap o o o ?_;intro A1 p c1 A2 g c2 k f c d M1 M2;refine⟨_,_,_,_,_,_,rfl,?_⟩;refine Q4 (neg:=!(s==s')) M1 c ?_;intro s1 i1;refine⟨_,_,_,_,rfl,B8 _,?_⟩;refine Q4 (neg:=s) M2 d ?_;intro s2 l;refine⟨_,_,_,_,rfl,B8 _,hK _ _ _ _ _ _ _ _ _ f ?_ ?_⟩;{have e:(if(!(s==s'))=true then -((x.natAbs/y.natAbs:J):Z)else((x.natAbs/y.natAbs:J):Z))=x.tdiv y:=by{have t:=B5z x.natAbs y.natAbs;rcases a with⟨rfl,hx'⟩|⟨rfl,hx'⟩<;>rcases b with⟨rfl,hy'⟩|⟨rfl,hy'⟩<;>rw[<- hx',<- hy']at t;{exact t.2.1.symm};{exact t.2.2.1.symm};{exact t.2.2.2.symm};grind};grind};·have e:(if s=true then -((x.natAbs%y.natAbs:J):Z)else((x.natAbs%y.natAbs:J):Z))=x.tmod y:=by{have t:=B5v x.natAbs y.natAbs;rcases a with⟨rfl,hx'⟩|⟨rfl,hx'⟩<;>rcases b with⟨rfl,hy'⟩|⟨rfl,hy'⟩<;>rw[<- hx',<- hy']at t;{exact t.2.1.symm};{exact t.2.2.1.symm};{exact t.2.2.2.symm};grind};grind
def F6(i:ZI h s A an ac x)(hK:K (.bool (decide (x=0))) h):aK prog 132 #[.agg #[.bool s,.slice A an ac]] h K:=by have a:=i.zeroIff;refine(fnk func132 (own:=[1])) ?_;have:((an:Z)==0)=decide (x=0):=by{grind};grind
def O1(i:ZI h s A an ac x)(hK:K (.bool (decide (x=1))) h):aK prog 133 #[.agg #[.bool s,.slice A an ac]] h K:=by have c:=Fs i.sgn;have n:=i.zeroIff;have M:=i.mag;refine(fnk func133 (own:=[1])) ?_;rcases c with⟨rfl,f⟩|⟨rfl,f⟩;{refine Br.of (fun e=>by cases e) (fun _=>?_);rw[show decide (x=1)=false from gz0]at hK;exact hK};·refine Br.of (fun _=>?_) (fun e=>by cases e);obtain⟨xs,a,d,m,l,b⟩:=M;refine D4 (fun e=>?_) (fun e=>?_);{obtain⟨w,rfl⟩:∃w,xs=[w]:=by{rcases xs with _|⟨w,_|⟨g,r⟩⟩;{grind};{grind};grind};refine d.load a o o ?_;rw[At]at b;grind};·have:¬x=1:=by{rintro rfl;have k:=i.mag.len_le (j:=1) dc dc;omega};grind
def R3(i:ZI h s A an ac x)(j:ZI h s' B bn bc y)(hx:ZB m x)(hy:ZB m y)(hm:m<=6400000000)(hy0:y≠0)(hK:∀s1 A1 n1 c1 h',h.le h'->ZI h' s1 A1 n1 c1 (x.tdiv y)->K (.agg #[.bool s1,.slice A1 n1 c1]) h'):aK prog 144 #[.agg #[.bool s,.slice A an ac],.agg #[.bool s',.slice B bn bc]] h K:=by refine(fnk func144 (own:=[2,3,4,5,6])) ?_;refine O1 j ⟨_,rfl,B9 (fun e=>?_) (fun e=>?_)⟩;{subst e;exact hK _ _ _ _ _ (B8 _) gz0};·refine A2j i j hx hy hm hy0 ?_;grind
def A5u(i:ZI h s A an ac x)(j:ZI h s' B bn bc y)(hx:ZB m x)(hm:m<=6400000000)(hK:K (.bool (decide (x=y))) h):aK prog 253 #[.agg #[.bool s,.slice A an ac],.agg #[.bool s',.slice B bn bc]] h K:=by have d:=i.len hx hm;have c:=i.sgn;have b:=j.sgn;refine(fnk func253 (own:=[2,3])) ?_;refine Br.of (fun e=>?_) (fun e=>?_);{refine I0 i.mag j.mag o ⟨_,rfl,?_⟩;have:(Gr (x.natAbs:Z) y.natAbs==0)=decide (x=y):=by{by_cases a:x=y;{subst a;unfold Gr;simp};·unfold Gr;grind};grind};·have:¬x=y:=gz0;grind
def O0{n:Z}(h1: -9223372036854775808<=n)(h2:n<=9223372036854775807)(hK:∀s1 A1 n1 c1 h',h.le h'->ZI h' s1 A1 n1 c1 n->K (.agg #[.bool s1,.slice A1 n1 c1]) h'):aK prog 115 #[I n] h K:=by refine(fnk func115 (own:=[2])) ?_;refine B9 (fun d=>?_) (fun d=>?_);{have e:C7 (0-C7 n)=(n.natAbs:Z):=by{rw[F8,F8];omega};rw[e];refine Cr o ?_;intro A1 c c1 h1 b a M1;exact⟨_,_,_,rfl,hK _ _ _ _ _ b ⟨a,M1,gz0⟩⟩};·have e:C7 n=(n.natAbs:Z):=by{rw[F8];omega};rw[e];refine Cr o ?_;intro A1 c c1 h1 b a M1;exact⟨_,_,_,rfl,hK _ _ _ _ _ b ⟨a,M1,gz0⟩⟩
end
def A9i{P:cW}{t d e:aQ}(ht:P.underlying t=some .string)(hd:P.underlying d=some (.slice e))(he:P.underlying e=some (.int .u8)){h:aM}{l:Y UInt8}{K:VP}
 (x:∀A c h',h.le h'->l.length<=c->SlV h' A (yv l)->K (.slice A l.length c) h'):wpH P (convert t d (.string (bs l))) K h:=by
 unfold convert;simp only[C8,F2 ht,F2 hd,F2 he];unfold Conv.stringToBytes;simp only[C8];refine Kf rfl (fun tt=>?_);have m:(bs l).size=l.length:=by rfl
 have a:l.length<=(Question.appendCap (bs l).size 0 e).cut tt:=by
  simp only[Question.cut];omega
 generalize (Question.appendCap (bs l).size 0 e).cut tt=cap at *;intro b q;generalize hcs:((bs l).data.map (fun b=>aP .u8 b.toNat)++bM (cap-(bs l).size) (aP .u8 0))=cs;have g:h.le (h.put b (.cells cs e (cs.size,cs.size+1))):=Heap.le_put _ q
 have j:(h.put b (.cells cs e)).freeze { block:=b,off:=cs.size } 1=h.put b (.cells cs e (cs.size,cs.size+1)):=by
  unfold Heap.freeze;rw[iN dc];funext k;by_cases f:k=b
  ·subst f;simp only[if_true,C3,Option.map_some];rfl
  ·rw[iN f,C1 _ _ f,C1 _ _ f]
 refine⟨cs,e,_,C3 _ _ _,?_⟩;refine⟨⟨_,C3 _ _ _⟩,?_⟩;show K (.slice (some ⟨b,0,none⟩) (bs l).size cap) ((h.put b (.cells cs e)).freeze { block:=b,off:=cs.size } 1)
 rw[j,m];refine x _ _ _ g a (.inr ⟨_,rfl,?_⟩);intro i v n
 have r:i<l.length:=by
  have:=(List.getElem?_eq_some_iff.1 n).1;simpa[yv]using this
 have p:Addr.add ⟨b,0,none⟩ i=⟨b,i,none⟩:=by rw[D9,cD]
 rw[p,E6,<- hcs,Array.getElem?_append_left (by simp_all)];rw[<- n];simp[yv,bs]
def ZB.tdiv{m:J}{x y:Z}(h:ZB m x):ZB m (x.tdiv y):=by unfold ZB at *;rw[Int.natAbs_tdiv];exact Nat.lt_of_le_of_lt (aV _ _) h
section
variable {h g:aM} {K:VP} {A B:Option aN} {s s':Bool} {an ac bn bc m:J} {x y:Z}
end
def B05{ws:Y Z}{k:J}(d:Dig b64 ws)(hl:ws.length=k+1)(h:b64^k<=val b64 ws):Norm ws:=by intro e;have:=(Cy (B:=b64) dc d hl).1;grind
section
variable {h g:aM} {K:VP} {A B:Option aN} {ac bc:J}
def B7r{Invv:LP}{muv:Y bZ->aM->J}{d1:ByteArray}{n c:J}{chunk base:Z}{us:Y Z}{hp hp2:aM}(p:Pw hp2 g A n c us)(hn:n=us.length)(du:Dig b64 us)(nu:Norm us)(hl:n<=9000000000000)(hch:0<=chunk/\chunk<18446744073709551616)(hba:1<=base/\base<18446744073709551616) (hK:∀A' n' c' us' h' g',g.le g'->Pw h' g' A' n' c' us'->n'=us'.length->n'<=n+1->Dig b64 us'->Norm us'->val b64 us'=chunk+base*val b64 us->Invv [.string ((d1).extract ((C4 ((cL (C4 (((cU d1:J):Z)-(1:Z))) (19:Z))+(1:Z))).toNat) ((d1).size)),.slice A' n' c'] h'/\muv [.string ((d1).extract ((C4 ((cL (C4 (((cU d1:J):Z)-(1:Z))) (19:Z))+(1:Z))).toNat) ((d1).size)),.slice A' n' c'] h'<muv [.string d1,.slice A n c] hp): Ed prog Invv muv d1 A n c chunk base hp hp2:=by have F:=C9 dc du;refine⟨fun l q=>∃(k:J) (e:Z) (d:Y Z),l=[U e,I k]/\k<=n/\(0<=e/\e<18446744073709551616)/\d.length=us.length/\Dig b64 d/\Pw q g A n c d/\d.drop k=us.drop k/\val b64 (d.take k)+b64^k*e=chunk+base*val b64 (us.take k),fun l _=>n-(iAt l 1).toNat,⟨0,chunk,us,rfl,o,hch,rfl,du,p,rfl,by simp[val]⟩,?_⟩;rintro e i q ⟨k,E,d,aa,hk,j,s,t,pw,y,z⟩;obtain⟨rfl,rfl⟩:e=E/\i=(k:Z):=gz0;refine B9 (fun X=>?_) (fun X=>?_);{have N:=S8 t k;have D:=F7 y;have S:=C6 b64 us k;have C:d≠[]:=by{rintro rfl;simp at s;omega};obtain⟨b,O,w,hc⟩:=Gn pw C;refine w.sl.load o o o ?_;simp only[aC];generalize hx:d.getD k 0=x at *;refine Y6 N o j ⟨_,_,rfl,?_⟩;obtain⟨a,Q,_⟩:=SlV.at w.sl (i:=k) (by simp_all);refine⟨a,Q,o,o,w.storeN H0 Q o ?_⟩;intro h4 R;have V:=Pf N (show 0<=base/\base<18446744073709551616 from o) j;have kP:=A4g (x*base+e);have W:C4 ((k:Z)+1)=((k+1:J):Z):=by{rw[C0 o o];omega};rw[W];have G:=R.priv (m:=n) (c:=c) (by simp_all) (by simp_all) (by simp_all);rw[aJ (by simp_all)]at G;refine⟨⟨k+1,_,_,rfl,o,V,by simp_all,t.set (Fv _),G,?_,?_⟩,by simp only[iAt,aF,aH];omega⟩;{rw[E5 o];exact F0 y};·rw[D5 o,F9,bY,cN o,dM,S,<- D,kP];grind};·obtain rfl:k=n:=o;rw[aJ (show d.length<=k from o),aJ (show us.length<=k from o)]at z;refine D8 (fun L=>?_) (fun L=>?_);{refine Fb U3 pw rfl rfl o o ?_;intro A5 c5 h5 g5 T H;rw[<- List.map_singleton (f:=aP .u64),<- dE]at H;refine hK A5 (k+1) c5 (d++[e]) h5 g5 T H (by simp_all) o (t.append (Dig.one j)) ?_ ?_;{unfold Norm;simp_all};·rw[F9,<- z,s,<- hn]};·subst L;rw[Int.mul_zero,Int.add_zero]at z;refine hK A k c d q g (B8 _) pw o o t ?_ z;rcases us with _|⟨u,r⟩;{simp_all};·refine B05 (k:=r.length) t o ?_;have M:Mw hp2 A k (val b64 (u::r)):=⟨_,hn,p.slV,du,nu,rfl⟩;have B:=M.ge dc (by simp_all);rw[show k-1=r.length by simp_all]at B;have:1*val b64 (u::r)<=base*val b64 (u::r):=cZ hba.1 F;omega
end
section
variable {h g:aM} {K:VP} {A B:Option aN} {ac bc:J}
def B89{k:J}(h:k<=19):10^k<=10000000000000000000:=bO (aI dc h) dc
def B0y{Invv:LP}{muv:Y bZ->aM->J}{d1:ByteArray}{n c tn:J}{T:Option aN}{l:Y UInt8}{hp hp1:aM}(sv:SlV hp1 T (yv l))(ht:tn=l.length)(hd:∀c∈l,I8 c)(h19:l.length<=19) (hK:(0<=C4 ((cL (C4 (((cU d1:J):Z)-(1:Z))) (19:Z))+(1:Z))/\C4 ((cL (C4 (((cU d1:J):Z)-(1:Z))) (19:Z))+(1:Z))<=(((d1).size:J):Z))/\Ed prog Invv muv d1 A n c (K9 l:Z) ((10^l.length:J):Z) hp hp1): Mh prog Invv muv d1 A n c T tn hp1 hp:=by refine⟨fun s hp=>hp=hp1/\∃k:J,s=[U (K9 (l.take k)),U ((10^k:J):Z),I k]/\k<=l.length,fun s _=>l.length-(iAt s 2).toNat,⟨rfl,0,by rfl,o⟩,?_⟩;rintro z B i w ⟨rfl,k,e,y⟩;obtain⟨rfl,rfl,rfl⟩:=e;refine B9 (fun t=>?_) (fun t=>?_);{have hkl:k<l.length:=o;obtain⟨a,q,g⟩:=SlV.at sv (i:=k) (by rw[Iq];omega);have f:=hd l[k] (cK hkl);have d:=Ff (l:=l.take k) (fun c g=>hd c (aZ g));rw[bY,cN o]at d;have p:=B89 (k:=k+1) o;have b:10^(k+1)=10^k*10:=Nat.pow_succ _ _;refine⟨a,q,o,o,((l[k].toNat:J):Z),?_,?_⟩;{rw[aC,aY,g];simp[yv]};·unfold I8 at f;have j:C7 (wu8 (((l[k].toNat:J):Z)-48))=((l[k].toNat-48:J):Z):=by{rw[Ys o o,C5 o o];omega};have u:C7 (C7 (10*((K9 (l.take k):J):Z))+C7 (wu8 (((l[k].toNat:J):Z)-48)))=((K9 (l.take (k+1)):J):Z):=by{rw[j,C5 (n:=10*((K9 (l.take k):J):Z)) o o,C5 o o,aT hkl,Jo];omega};have m:C7 (((10^k:J):Z)*10)=((10^(k+1):J):Z):=by{rw[C5 o o,b];simp};have r:C4 ((k:Z)+1)=((k+1:J):Z):=by{rw[C0 o o];omega};rw[u,m,r];exact⟨⟨rfl,k+1,rfl,o⟩,by simp only[iAt,aF,aH];omega⟩};grind
def Tj{l:Y UInt8}(hd:∀c∈l,I8 c)(hl:l.length<=140737488351232)(hK:∀A n c h',h.le h'->n<=c->Mw h' A n (K9 l:Z)->K (.slice A n c) h'):aK prog 310 #[.string (bs l)] h K:=by
 refine Xn _ ?_;refine⟨fun s D=>∃(e a:Y UInt8) (b:Y Z) (A:Option aN) (n c:J) (g:aM),s=[.string (bs a),.slice A n c]/\l=e++a/\h.le g/\Pw D g A n c b/\n=b.length/\Dig b64 b/\Norm b/\val b64 b=(K9 e:Z)/\19*n<=e.length+18/\(n=0\/a.length%19=0),fun s _=>match s with|[.string d,_]=>d.size|_=>0,⟨[],l,[],none,0,0,h,rfl,rfl,B8 h,Priv.nil _ _ _ _,rfl,Dig.nil,Norm.nil,rfl,o,.inl rfl⟩,?_⟩
 rintro d1 A1 n1 c1 D ⟨e,a,b,A2,n2,c2,g,hs,f,B,p,G,du,F,H,V,L⟩;obtain⟨rfl,rfl,rfl,rfl⟩:=hs;have C:l.length=e.length+a.length:=gz0;rw[J2];refine B9 (fun Q=>?_) (fun Q=>?_)
 ·obtain⟨sz,hsz⟩:∃sz,sz=(a.length-1)%19+1:=⟨_,rfl⟩
  have y:C4 (cL (C4 ((a.length:Z)-1)) 19+1)=(sz:Z):=by
   rw[C0 (n:=(a.length:Z)-1) o o,Int.tmod_eq_emod_of_nonneg o,C0 o o];omega
  rw[y,aC,R8];refine⟨⟨o,o⟩,A9i Y9 Fp.und Dk ?_⟩;intro T tc h2 W aa E;refine⟨_,_,_,rfl,?_⟩;have S:(a.drop 0).take (sz-0)=a.take sz:=by simp
  rw[S]at E ⊢;have z:(a.take sz).length=sz:=gz0;obtain⟨g2,j,N⟩:=p.after W;refine B0y E rfl (fun c hc=>hd c gz0) o ?_;rw[J2,y];refine⟨⟨o,o⟩,?_⟩;have i:=Ff (l:=a.take sz) (fun c hc=>hd c gz0);rw[z]at i ⊢;have ht:=B89 (k:=sz) o;refine B7r N G du F o o o ?_;intro A' M O q h' R m p' u X t w r;rw[J2,y,aC,R8,aJ gz0];refine⟨⟨e++a.take sz,a.drop sz,q,A',M,O,R,rfl,by simp_all,B6 B (B6 j m),p',u,t,w,?_,?_,?_⟩,?_⟩;·rw[r,H,Hm,z,Int.natCast_add,cO,Int.mul_comm];omega
  ·rw[aL,z];omega
  ·rw[cJ];omega
  ·simp only[J2,cJ];omega
 ·have:a=[]:=aO o;subst this;rw[List.append_nil]at f;subst f;exact hK _ _ _ _ (B6 B p.le) p.2.1 ⟨b,G,p.slV,du,F,H⟩
end
def zb(l:Y UInt8):Y Z:=l.map fun c=>(c.toNat:Z)
def Io(l:Y UInt8):(zb l).length=l.length:=by simp[zb]
def A2l(a b:Y UInt8):zb (a++b)=zb a++zb b:=by simp[zb]
def C2p(l:Y UInt8):(zb l).map (aP .u8)=yv l:=by simp[zb,yv]
def A9n:∀v,v<100->K6[2*v+1]? = some (dch (v%10))/\K6[2*v]? = some (dch (v/10)):=by decide +kernel
def A31(a:J):cL (a:Z) 100=((a%100:J):Z):=(bG a 100).symm
def tm4(a:J):cL (a:Z) 10000=((a%10000:J):Z):=(bG a 10000).symm
def tm8(a:J):cL (a:Z) 100000000=((a%100000000:J):Z):=(bG a 100000000).symm
def A64(a:J):cX (a:Z) 100=((a/100:J):Z):=(bH a 100).symm
def td4(a:J):cX (a:Z) 10000=((a/10000:J):Z):=(bH a 10000).symm
def td8(a:J):cX (a:Z) 100000000=((a/100000000:J):Z):=(bH a 100000000).symm
def Il{a:J}(h:a<4294967296):J5 (a:Z)=a:=T5 o o
def Oz(a:J):(a:Z)*2=((2*a:J):Z):=o
def A7m(a:J):(a:Z)+1=((a+1:J):Z):=o
def FBI(g:aM)(b:J)(e:aQ)(A:Option aN)(pre post:Y bZ)(N u0 nd u:J)(hp:aM):Prop:=∃(ys:Y Z) (t:Y UInt8),Win .u8 hp g b e A pre (ys++zb t) post/\ys.length=nd/\nd+t.length=N/\pad N u0=pad nd u++t/\u<10^nd
section
variable {P:cW} {h g:aM} {K:VP} {A:Option aN} {b:J} {e:aQ} {pre post:Y bZ}
def Nb(one:P.cellsOf 5=1/\(P.info? 5).isSome=true){N u0 j u:J}(f:FBI g b e A pre post N u0 (j+2) u h){E1 E0 I1 I2:Z}(h1:E1=((2*(u%100)+1:J):Z))(h0:E0=((2*(u%100):J):Z))(hI1:I1=((j+1:J):Z))(hI2:I2=(j:Z)){C:aM->Prop}(hC:∀h',FBI g b e A pre post N u0 j (u/100) h'->C h'):∃(t:UInt8),(0<=E1/\K6[E1.toNat]? = some t)/\∃(t0:UInt8),(0<=E0/\K6[E0.toNat]? = some t0)/\∃a1,A=some a1/\0<=I1/\I1<((N:J):Z)/\wpH P (Instr.storeAt 5 (.pointer (some (Addr.add a1 (I1.toNat*1)))) (yq9 ((t.toNat:J):Z))) (fun _ hp1=>∃a2,A=some a2/\0<=I2/\I2<((N:J):Z)/\wpH P (Instr.storeAt 5 (.pointer (some (Addr.add a2 (I2.toNat*1)))) (yq9 ((t0.toNat:J):Z))) (fun _ hp2=>C hp2) hp1) h:=by subst h1 h0 hI1 hI2;obtain⟨c,t,w,hl,E,i,D⟩:=f;obtain⟨n,m⟩:=A9n (u%100) o;have r:∃a,A=some a:=by{rcases w.at_ with h0|h0;{simp_all};grind};obtain⟨a,d⟩:=r;have k:(c++zb t).length=N:=by{rw[aL,Io];omega};refine⟨_,⟨o,by exact n⟩,_,⟨o,by exact m⟩,a,d,o,o,?_⟩;refine w.storeN one d o ?_;intro z q;refine⟨a,d,o,o,?_⟩;refine q.storeN one d gz0 ?_;intro p B;refine hC p ⟨c.take j,[dch (u/10%10),dch (u%10)]++t,?_,gz0,gz0,?_,?_⟩;{have y:((c++zb t).set (j+1) ((dch (u%100%10)).toNat:Z)).set j ((dch (u%100/10)).toNat:Z)=c.take j++zb ([dch (u/10%10),dch (u%10)]++t):=by{have s:c=c.take j++[c[j]'o,c[j+1]'o]:=by{(conv=>lhs;rw[<- cR j c]);congr 1;rw[bJ o,bJ o,cM o]};have l:(c.take j).length=j:=gz0;rw[s,show u%100%10=u%10 from o,show u%100/10=u/10%10 from o];generalize c[j]'_=y0;generalize c[j+1]'_=y1;rw[List.take_append_of_le_length o,aJ (show(c.take j).length<=j from o)];generalize c.take j=zs at *;rw[cI,List.set_append_right _ _ o,List.set_append_right _ _ o,l,A2l];simp[zb]};grind};{rw[i,C15];simp};grind
end
section
variable {h g:aM} {K:VP} {A:Option aN} {b:J} {e:aQ} {pre post:Y bZ}
def Ny:prog.cellsOf 5=1/\(prog.info? 5).isSome=true:=A9l
def C5b{N u0 nd x:J}(hN:N<=24)(f:FBI g b e A pre post N u0 nd x h)(hn:nd<2)(hK:∀h',Win .u8 h' g b e A pre (zb (pad N u0)) post->K (.tuple #[]) h'):Ii prog A N K nd x h:=by obtain⟨c,t,w,hl,hN,i,s⟩:=f;refine B9 (fun l=>?_) (fun l=>?_);{obtain rfl:nd=1:=o;obtain⟨y,rfl⟩:∃y,c=[y]:=by{rcases c with _|⟨y,_|⟨z,r⟩⟩;{grind};{grind};grind};have p:∃a,A=some a:=by{rcases w.at_ with m|m;{grind};grind};obtain⟨a,j⟩:=p;refine⟨a,j,o,o,?_⟩;refine w.storeN Ny j (by simp) ?_;intro k n;refine hK k ?_;have d:x<10:=o;have ev:wu8 (J5 (48+(x:Z)))=((dch x).toNat:Z):=by{rw[T5 o o,Ys o o,Ga d];omega};rw[ev]at n;have q:pad 1 x=[dch x]:=by{rw[Ua,B2v _ o,show x%10=x from o];rfl};rw[i,q,A2l];assumption};·obtain rfl:nd=0:=o;have:c=[]:=aO hl;subst this;have d:x=0:=o;refine hK h ?_;rw[i,B2v _ d];assumption
def C5a{N u0 nd x:J}(hN:N<=24)(f:FBI g b e A pre post N u0 nd x h)(hn:nd<4)(hK:∀h',Win .u8 h' g b e A pre (zb (pad N u0)) post->K (.tuple #[]) h'):Ij prog A N K nd x h:=by have t:x<10000:=by{obtain⟨_,_,_,_,_,_,n⟩:=f;exact aR n (bO (aI dc (show nd<=4 from o)) dc)};refine⟨fun l d=>∃nd x:J,l=[I nd,U32 x]/\FBI g b e A pre post N u0 nd x d/\nd<2,B9 (fun m=>?_) (fun m=>?_),?_⟩;{obtain⟨j,rfl⟩:∃j,nd=j+2:=⟨nd-2,o⟩;refine Nb Ny f ?_ ?_ (by rw[C0 o o];omega) (by rw[C0 o o];omega) ?_;{simp(disch:=omega) only[A31,Il,Oz,A7m]};{simp(disch:=omega) only[A31,Il,Oz]};·intro s i;refine⟨j,x/100,?_,i,o⟩;rw[C0 o o,A64,Il o];grind};{grind};·rintro c r d ⟨q,p,hl,k,a⟩;obtain⟨rfl,rfl⟩:c=(q:Z)/\r=(p:Z):=gz0;exact C5b hN k a hK
def Bg{u an ac:J}{xs:Y Z}(w:Win .u8 h g b e A pre xs post)(hn:an=xs.length)(hN:an<=24)(hu:u<10^an)(hu2:u<18446744073709551616)(hK:∀h',Win .u8 h' g b e A pre (zb (pad an u)) post->K (.tuple #[]) h'):aK prog 266 #[.slice A an ac,U (u:Z)] h K:=by refine Ts _ _ _ _ ?_;refine⟨fun l d=>∃a v:J,l=[U v,I a]/\FBI g b e A pre post an u a v d/\v<=u,fun l _=>(iAt l 1).toNat,⟨an,u,rfl,⟨xs,[],by simpa[zb]using w,hn.symm,by simp,by simp,hu⟩,bN _⟩,?_⟩;rintro C i d ⟨a,v,hl,f,O⟩;obtain⟨rfl,rfl⟩:C=(v:Z)/\i=(a:Z):=gz0;have M:a<=an:=by{obtain⟨_,_,_,_,hN,_,_⟩:=f;omega};refine B9 (fun t=>?_) (fun t=>?_);{obtain⟨j,rfl⟩:∃j,a=j+8:=⟨a-8,o⟩;refine Nb (j:=j+6) Ny f ?_ ?_ (by rw[C0 o o];omega) (by rw[C0 o o];omega) ?_;{simp(disch:=omega) only[tm8,tm4,A31,Il,Oz,A7m];omega};{simp(disch:=omega) only[tm8,tm4,A31,Il,Oz];omega};intro p H;refine Nb (j:=j+4) Ny H ?_ ?_ (by rw[C0 o o];omega) (by rw[C0 o o];omega) ?_;{simp(disch:=omega) only[tm8,tm4,A64,Il,Oz,A7m];omega};{simp(disch:=omega) only[tm8,tm4,A64,Il,Oz];omega};intro F c;refine Nb (j:=j+2) Ny c ?_ ?_ (by rw[C0 o o];omega) (by rw[C0 o o];omega) ?_;{simp(disch:=omega) only[tm8,A31,td4,Il,Oz,A7m];omega};{simp(disch:=omega) only[tm8,A31,td4,Il,Oz];omega};intro s n;refine Nb (j:=j) Ny n ?_ ?_ (by rw[C0 o o];omega) (by rw[C0 o o];omega) ?_;{simp(disch:=omega) only[tm8,A64,td4,Il,Oz,A7m];omega};{simp(disch:=omega) only[tm8,A64,td4,Il,Oz];omega};intro N D;have L:C4 (((j+8:J):Z)-8)=(j:Z):=by{rw[C0 o o];omega};have z:C7 (cX (v:Z) 100000000)=((v/100/100/100/100:J):Z):=by{rw[td8,C5 o o];omega};rw[L,z];exact⟨⟨j,_,rfl,D,o⟩,by simp only[iAt,aF,aH];omega⟩};·have y:v<100000000:=by{obtain⟨_,_,_,_,_,_,hu⟩:=f;exact aR hu (bO (aI dc (show a<=8 from o)) dc)};refine⟨fun l d=>∃a x:J,l=[I a,U32 x]/\FBI g b e A pre post an u a x d/\a<4,B9 (fun p=>?_) (fun p=>?_),?_⟩;{obtain⟨j,rfl⟩:∃j,a=j+4:=⟨a-4,o⟩;refine Nb (j:=j+2) Ny f ?_ ?_ (by rw[C0 o o];omega) (by rw[C0 o o];omega) ?_;{simp(disch:=omega) only[tm4,A31,Il,Oz,A7m];omega};{simp(disch:=omega) only[tm4,A31,Il,Oz];omega};intro F c;refine Nb (j:=j) Ny c ?_ ?_ (by rw[C0 o o];omega) (by rw[C0 o o];omega) ?_;{simp(disch:=omega) only[tm4,A64,Il,Oz,A7m];omega};{simp(disch:=omega) only[tm4,A64,Il,Oz];omega};intro s n;refine⟨j,v/100/100,?_,n,o⟩;rw[C0 o o,Il o,td4,Il o];grind};{exact⟨a,v,by rw[Il o],f,o⟩};·rintro m G B ⟨r,q,E,c,k⟩;obtain⟨rfl,rfl⟩:m=(r:Z)/\G=(q:Z):=gz0;exact C5a hN c k hK
end
def Wp{P:cW}{h:aM}{l:Y UInt8}{m:J}{ys:Y bZ}(hy:ys=yv l)(hm:m=l.length){K:Array bZ->aM->Prop}(x:K ys.toArray h):wpH P (Builtin.firstCells 1 m (.string (bs l))) K h:=by show K _ h;have e:((bs l).extract 0 l.length).data.map (fun b=>aP .u8 b.toNat)=(yv l).toArray:=by{apply Array.toList_inj.1;simp[bs,yv]};grind
def Xj{P:cW}{t e e' ty:aQ}{z:bZ}{bytes:J}(st:cQ P t e z 1 bytes){h g:aM}{A:Option aN}{n c:J}{xs:Y bZ}(p:cC h g e' 1 A n c xs)
 {B:Option aN} {m d:J} {ys:Y bZ} (hy:ys.length=m) (hc:SlV h B ys) (h1:∀v∈ys,Qj v=true) (hb:(2*(n+m)+192)*bytes<=281474976710656) (hm:n+m<=9223372036854775807) {K:VP}
 (x1:n+m<=c->∀h',cC h' g e' 1 A (n+m) c (xs++ys)->K (.slice A (n+m) c) h') (x2:c<n+m->∀A' c' h' g',g.le g'->cC h' g' e 1 A' (n+m) c' (xs++ys)->K (.slice A' (n+m) c') h'):
 wpH P (bL #[t,t] ty #[.slice A n c,.slice B m d]) K h:=by
 obtain⟨i,w,W,H,u⟩:=st.parts;have R:=p.1;unfold bL;simp only[List.getElem?_toArray,aF,aH,C8,F2 st.und,K4 w,I5,Bool.false_eq_true,if_false,Builtin.lenOf,H,Bool.not_false,if_true];by_cases f:n+m<=c
 ·simp only[f,if_true,C8];refine N6 o hc ?_;rcases p.2.2 with⟨E,S⟩|⟨b,N,V,O,X,C,F⟩
  ·have Q:n=0:=o;subst Q;subst S;have G:ys=[]:=aO o;have fin:K (.slice A (0+m) c) h:=x1 f h ⟨gz0,o,.inl ⟨E,rfl⟩⟩;subst G
   cases A with
   |none=>exact fin
   |some a=>exact fin
  ·subst V;simp only[C8,D9,cD];rw[X];rw[aY]at C F ⊢;refine H8 ys.toArray.toList n 0 N ?_ (fun v hv=>h1 v o) ?_;·grind
   ·refine x1 f _ ⟨gz0,f,.inr ⟨b,_,rfl,O,rfl,?_,?_⟩⟩;·simp only[J0,aL,bY,cJ,C,hy];omega
    ·unfold J0;grind
 ·have q:c<n+m:=o;simp only[f,if_false,C8,J6 w,u];have L:=Re q;have aa:Builtin.nextslicecap (n+m) c*bytes<=281474976710656:=bO (Nat.mul_le_mul_right _ L) hb;rw[iN (by rintro⟨h',_⟩;simp only[IntKind.max,IntKind.signed,IntKind.bits]at h';omega)];simp only[C8,J6 w,u];rw[iN o];simp only[I5,C8];refine Kf rfl fun tt=>?_;simp only[Gt,J6 w];have s:xs=[]\/∃a,A=some a/\∀j v,xs[j]? = some v->h.cell? (a.add j)=some v:=p.slV;refine N6 p.1 s ?_;refine N6 o hc ?_;simp only[S4 w W,As];intro b k;have y:∃l,(Question.appendCap (n+m) c e).cut tt=l/\n+m<=l:=⟨_,rfl,by simp only[Question.cut];omega⟩;obtain⟨l,M,D⟩:=y;rw[M];have r:=p.le;refine x2 q _ l _ h r ⟨gz0,D,.inr ⟨b,xs++ys++(aX z.cells (l-(n+m))).toList,rfl,k,?_,?_,?_⟩⟩;·congr 1;simp
  ·have T:(aX z.cells (l-(n+m))).toList.length=l-(n+m):=by simp[aX,st.cells]
   grind
  grind
def B11{P:cW}{t e e' ty t2:aQ}{z:bZ}{bytes:J}(st:cQ P t e z 1 bytes)(hu:P.underlying t2=some .string){h g:aM}{A:Option aN}{n c:J}{xs:Y bZ}(p:cC h g e' 1 A n c xs)
 {m:J} {l:Y UInt8} {ys:Y bZ} (hly:ys=yv l) (hm0:m=l.length) (hy:ys.length=m) (h1:∀v∈ys,Qj v=true) (hb:(2*(n+m)+192)*bytes<=281474976710656) (hm:n+m<=9223372036854775807) {K:VP}
 (x1:n+m<=c->∀h',cC h' g e' 1 A (n+m) c (xs++ys)->K (.slice A (n+m) c) h') (x2:c<n+m->∀A' c' h' g',g.le g'->cC h' g' e 1 A' (n+m) c' (xs++ys)->K (.slice A' (n+m) c') h'):
 wpH P (bL #[t,t2] ty #[.slice A n c,.string (bs l)]) K h:=by
 obtain⟨i,w,V,G,u⟩:=st.parts;have Q:=p.1;unfold bL;simp only[List.getElem?_toArray,aF,aH,C8,F2 st.und,F2 hu,K4 w,I5,Bool.false_eq_true,if_false,Builtin.lenOf,G,Bool.not_false,if_true,J2,<- hm0];by_cases d:n+m<=c
 ·simp only[d,if_true,C8];refine Wp hly hm0 ?_;rcases p.2.2 with⟨D,R⟩|⟨b,M,T,N,W,B,E⟩
  ·have O:n=0:=o;subst O;subst R;have F:ys=[]:=aO o;have fin:K (.slice A (0+m) c) h:=x1 d h ⟨gz0,o,.inl ⟨D,rfl⟩⟩;subst F
   cases A with
   |none=>exact fin
   |some a=>exact fin
  ·subst T;simp only[C8,D9,cD];rw[W];rw[aY]at B E ⊢;refine H8 ys.toArray.toList n 0 M ?_ (fun v hv=>h1 v o) ?_;·grind
   ·refine x1 d _ ⟨gz0,d,.inr ⟨b,_,rfl,N,rfl,?_,?_⟩⟩;·simp only[J0,aL,bY,cJ,B,hy];omega
    ·unfold J0;grind
 ·have q:c<n+m:=o;simp only[d,if_false,C8,J6 w,u];have H:=Re q;have X:Builtin.nextslicecap (n+m) c*bytes<=281474976710656:=bO (Nat.mul_le_mul_right _ H) hb;rw[iN (by rintro⟨h',_⟩;simp only[IntKind.max,IntKind.signed,IntKind.bits]at h';omega)];simp only[C8,J6 w,u];rw[iN o];simp only[I5,C8];refine Kf rfl fun tt=>?_;simp only[Gt,J6 w];have s:xs=[]\/∃a,A=some a/\∀j v,xs[j]? = some v->h.cell? (a.add j)=some v:=p.slV;refine N6 p.1 s ?_;refine Wp hly hm0 ?_;simp only[S4 w V,As];intro b f;have y:∃k,(Question.appendCap (n+m) c e).cut tt=k/\n+m<=k:=⟨_,rfl,by simp only[Question.cut];omega⟩;obtain⟨k,L,C⟩:=y;rw[L];have r:=p.le;refine x2 q _ k _ h r ⟨gz0,C,.inr ⟨b,xs++ys++(aX z.cells (k-(n+m))).toList,rfl,f,?_,?_,?_⟩⟩;·congr 1;simp
  ·have S:(aX z.cells (k-(n+m))).toList.length=k-(n+m):=by simp[aX,st.cells]
   grind
  grind
def A1h(l:Y UInt8):∀v∈yv l,Qj v=true:=by intro v a;simp only[yv,List.mem_map]at a;obtain⟨c,_,rfl⟩:=a;rfl
def An{P:cW}{t:aQ}{z v:bZ}(hz:(P.info? t).map (fun i=>i.zero)=some (some z)){K:VP}{h:aM}(x:∀b,h b=none->K (.pointer (some ⟨b,0,none⟩)) (h.put b (.cells z.cells t))):wpH P (Instr.alloc t true v) K h:=by
 cases hi:P.info? t with
 |none=>rw[hi]at hz;cases hz
 |some i=>
  rw[hi]at hz;simp only[Option.map_some,aW]at hz;unfold Instr.alloc;simp only[C8,S4 hi hz];exact x
def A9a:(prog.info? 365).map (fun i=>i.zero)=some (some (.agg (bM 24 (.int .u8 0)))):=by kernel_rfl
def Gp(h:aM):Prop:=∀k,k<20->h.cell? (Addr.add ⟨0,0,none⟩ (k*1))=some (U ((10^k:J):Z))
def Gp.mono{h h':aM}(g:Gp h)(l:h.le h'):Gp h':=fun k a=>C2 l (g k a)
section
variable {h g:aM} {K:VP}
def Za{i:J}(hi:i<100)(hK:K (.string (bs (T7 i))) h):aK prog 264 #[I i] h K:=by refine B5a _ ?_;have key:∀i:J,i<100->(i<10->A1p.extract i (i+1)=bs (T7 i))/\(¬i<10->K6.extract (2*i) (2*i+2)=bs (T7 i)):=by{intro i hi;revert i;decide +kernel};obtain⟨b,c⟩:=key i hi;refine B9 (fun d=>?_) (fun d=>?_);{have a:C4 ((i:Z)+1)=((i+1:J):Z):=by{rw[C0 o o];omega};rw[a,aC,aC,b o];exact⟨⟨o,by show _<=((36:J):Z);omega⟩,⟨o,o⟩,hK⟩};·have a:C4 ((i:Z)*2)=((2*i:J):Z):=by{rw[C0 o o];omega};have e:C4 (((2*i:J):Z)+2)=((2*i+2:J):Z):=by{rw[C0 o o];omega};rw[a,e,aC,aC,c o];exact⟨⟨o,by show _<=((200:J):Z);omega⟩,⟨o,o⟩,hK⟩
def Fc{d:J}(gp:Gp h)(h0:d≠0)(hd:d<18446744073709551616)(hK:K (I ((dd d).length:Z)) h):aK prog 265 #[U (d:Z)] h K:=by refine(fnk func265) ?_;have e:U5 d<=64:=Js hd;obtain⟨_,_,c⟩:=B8r (U5 d) o;refine A8j hd ⟨_,rfl,(fnk func297) ?_⟩;have b:Int.fdiv (C4 ((U5 d:Z)*78913)) (2^(min ((18:Z)).toNat 64))=((ndg (U5 d):J):Z):=by{rw[show(2:Z)^(min ((18:Z)).toNat 64)=262144 from dc,Int.fdiv_eq_ediv_of_nonneg _ dc,C0 o o];rfl};rw[b];refine⟨_,rfl,⟨o,o⟩,_,by rw[aC];exact gp _ o,(fnk func299) ?_⟩;rw[C4v h0 hd]at hK;refine B9 (fun a=>⟨_,rfl,?_⟩) (fun a=>⟨_,rfl,?_⟩);{rw[iP o]at hK;rw[C0 o o];exact hK};·rw[iN o]at hK;rw[C0 o o];exact hK
def Ec{e':aQ}{A:Option aN}{n c i:J}{l:Y UInt8}(gp:Gp h)(p:cC h g e' 1 A n c (yv l))(hi:i<18446744073709551616)(hn:n<=1000000000000) (hK:∀A' c' e2 h' g',g.le g'->cC h' g' e2 1 A' (n+(T7 i).length) c' (yv (l++T7 i))->(n+(T7 i).length<=c->A'=A/\c'=c/\e2=e')->(e'=5->e2=5)->K (.slice A' (n+(T7 i).length:J) c') h'):aK prog 268 #[.slice A n c,U (i:Z),I 10] h K:=by refine(fnk func268 (wr:=[266])) ?_;refine D4 (fun _=>?_) (fun e=>absurd rfl e);have w:(T7 i).length<=20:=(Pu dc).2 oo;refine B9 (fun H=>?_) (fun H=>?_);{rw[C0 oo oo];refine Za oo ⟨_,rfl,?_⟩;refine B11 Fp Y9 p (l:=T7 i) rfl rfl (Iq _) (A1h _) oo oo ?_ ?_;{intro t h' a;rw[<- Z9]at a;exact⟨_,_,_,rfl,hK _ _ _ _ _ (B8 _) a (fun _=>⟨rfl,rfl,rfl⟩) id⟩};·intro t A' c' h' g' D a;rw[<- Z9]at a;grind};·refine An A9a ?_;intro b d;have L:(Value.agg (bM 24 (.int .u8 0))).cells=((aE 24 (0:Z)).map (aP .u8)).toArray:=by{rfl};rw[L];have F:Win .u8 (h.put b (.cells ((aE 24 (0:Z)).map (aP .u8)).toArray 365)) h b 365 (some ⟨b,0,none⟩) [] (aE 24 (0:Z)) []:=⟨d,by simp,.inr rfl⟩;generalize (h.put b (.cells ((aE 24 (0:Z)).map (aP .u8)).toArray 365))=h1' at *;refine⟨_,rfl,Fc (gp.mono F.le) oo hi ⟨_,rfl,?_⟩⟩;have f:T7 i=dd i:=Et oo;rw[f]at w hK;refine⟨⟨oo,oo⟩,?_⟩;rw[aC,bI];have B:=F.sub (l:=0) (m:=(dd i).length) (c:=24) oo gz0 (by simp);have u:((aE 24 (0:Z)).drop 0).take ((dd i).length-0)=aE (dd i).length 0:=by{grind};rw[u]at B;have j:i<10^(dd i).length:=V6.1 (bN _);refine Bg B (by simp) oo j hi ?_;intro C z;refine⟨rfl,⟨oo,oo⟩,?_⟩;have y:pad (dd i).length i=dd i:=by{simp[pad]};rw[y]at z;have hs:SlV C (X9 (some ⟨b,0,none⟩) 24 0 1) (yv (dd i)):=by{have:=z.sl;unfold SlI at this;rw[C2p]at this;exact this};have s:=z.eq;obtain⟨o,ho⟩:∃o,C=h.put b o:=⟨_,s⟩;subst ho;have G:=p.put d o;have r:g.le (g.put b o):=by{intro k M E;have q:k≠b:=by{rintro rfl;rw[p.le k M E]at d;cases d};rw[C1 _ _ q];exact E};refine Xj Fp G (Iq _) hs (A1h _) oo oo ?_ ?_;{intro t h' a;rw[<- Z9]at a;grind};·intro t A' c' h' g' D a;rw[<- Z9]at a;exact⟨_,_,_,rfl,hK _ _ _ _ _ (B6 r D) a (fun e=>oo) (fun _=>rfl)⟩
end
structure Ext (g:aM) (e':aQ) (A:Option aN) (n c:J) (l t:Y UInt8) (A':Option aN) (n' c':J) (e2:aQ) (g' h':aM):Prop where
 le:g.le g'
 priv:cC h' g' e2 1 A' n' c' (yv (l++t))
 len:n'=n+t.length
 fit:n+t.length<=c->A'=A/\c'=c/\e2=e'
 tag:e'=5->e2=5
def Ext.trans{g g1 g2 h1 h2:aM}{e' e1 e2:aQ}{A A1 A2:Option aN}{n c n1 c1 n2 c2:J}{l t s:Y UInt8}(x:Ext g e' A n c l t A1 n1 c1 e1 g1 h1)(y:Ext g1 e1 A1 n1 c1 (l++t) s A2 n2 c2 e2 g2 h2):Ext g e' A n c l (t++s) A2 n2 c2 e2 g2 h2:=by refine⟨B6 x.le y.le,?_,?_,?_,fun e=>y.tag (x.tag e)⟩;{have:=y.priv;grind};{rw[y.len,x.len,aL];omega};·intro a;rw[aL]at a;obtain⟨rfl,rfl,rfl⟩:=x.fit o;have b:=x.len;exact y.fit o
section
variable {h g:aM} {K:VP} {A:Option aN} {n c:J} {e':aQ} {l:Y UInt8}
def Ia{i:J}(gp:Gp h)(p:cC h g e' 1 A n c (yv l))(hi:i<18446744073709551616)(hn:n<=1000000000000) (hK:∀A' n' c' e2 g' h',Ext g e' A n c l (T7 i) A' n' c' e2 g' h'->K (.slice A' n' c') h'):aK prog 274 #[.slice A n c,U (i:Z),I 10] h K:=by refine(fnk func274) ?_;refine Ec gp p hi hn ?_;intro A' c' e2 h' g' b d a e;exact⟨_,_,_,rfl,hK _ _ _ _ _ _ ⟨b,d,rfl,a,e⟩⟩
def Hf{ch:UInt8}{v:Z}(hv:v=(ch.toNat:Z))(p:cC h g e' 1 A n c (yv l))(hn:n<=1000000000000){KK:Option aN->J->J->aM->Prop}
 (x:∀A' n' c' e2 g' h',Ext g e' A n c l [ch] A' n' c' e2 g' h'->KK A' n' c' h'):
 wpH prog (Instr.buildSlice 227 1 #[(0,yq9 v)]) (fun v1 hp1=>∃(A1:Option aN) (n1 c1:J),v1= .slice A1 n1 c1/\wpH prog (bL #[227,227] 227 #[.slice A n c,.slice A1 n1 c1]) (fun v2 hp2=>∃(A2:Option aN) (n2 c2:J),v2= .slice A2 n2 c2/\KK A2 n2 c2 hp2) hp1) h:=by
 subst hv;refine T6 Fp rfl ?_;intro b a;refine⟨_,_,_,rfl,?_⟩;have s:=p.put a (.cells #[yq9 (ch.toNat:Z)] 5)
 have d:g.le (g.put b (.cells #[yq9 (ch.toNat:Z)] 5)):=by
  intro k t q
  have i:k≠b:=by
   rintro rfl;rw[p.le k t q]at a;cases a
  rw[C1 _ _ i];exact q
 have hs:SlV (h.put b (.cells #[yq9 (ch.toNat:Z)] 5)) (some ⟨b,0,none⟩) (yv [ch]):=by
  refine .inr ⟨_,rfl,fun j u y=>?_⟩;rw[D9,E6]
  match j with
  |0=>assumption
  |j+1=>assumption
 refine Xj Fp s (m:=1) (ys:=yv [ch]) rfl hs (A1h _) o o ?_ ?_
 ·intro r h' f;rw[<- Z9]at f;exact⟨_,_,_,rfl,x _ _ _ _ _ _ ⟨d,f,rfl,fun _=>⟨rfl,rfl,rfl⟩,id⟩⟩
 ·intro r A' c' h' g' w f;rw[<- Z9]at f;exact⟨_,_,_,rfl,x _ _ _ _ _ _ ⟨B6 d w,f,rfl,fun e=>gz0,fun _=>rfl⟩⟩
def Tu{i:Z}(h:i<0):Qp i=[45]++T7 i.natAbs:=by unfold Qp;grind
def Ob{i:Z}(h:¬i<0):Qp i=T7 i.natAbs:=by unfold Qp;grind
def Md{i:Z}(gp:Gp g)(p:cC h g e' 1 A n c (yv l))(h1: -9223372036854775808<=i)(h2:i<9223372036854775808)(hn:n<=100000000000) (hK:∀A' n' c' e2 g' h',Ext g e' A n c l (Qp i) A' n' c' e2 g' h'->K (.slice A' n' c') h'):aK prog 141 #[.slice A n c,I i,I 10] h K:=by refine(fnk func141) ?_;refine(fnk func219) ?_;refine B9 (fun k=>?_) (fun k=>?_);{rw[Tu k]at hK;refine Hf (ch:=45) rfl p o ?_;intro A1 u c1 t s r a;have e:C7 (0-C7 i)=((i.natAbs:J):Z):=by{rw[F8,F8];omega};rw[e];refine Ec (gp.mono (B6 a.le a.priv.le)) a.priv o (by have:=a.len;grind) ?_;intro A2 c2 e2 m q d f b j;exact⟨_,_,_,rfl,_,_,_,rfl,hK _ _ _ _ _ _ (a.trans ⟨d,f,rfl,b,j⟩)⟩};·rw[Ob k]at hK;have e:C7 i=((i.natAbs:J):Z):=by{rw[F8];omega};rw[e];refine Ec (gp.mono p.le) p o o ?_;intro A2 c2 e2 m q d f b j;exact⟨_,_,_,rfl,_,_,_,rfl,hK _ _ _ _ _ _ ⟨d,f,rfl,b,j⟩⟩
def A2o{b:J}{e:aQ}{B:Option aN}{pre post:Y bZ}{s:Y UInt8}(w:Win .u8 h g b e B pre (zb s) post):SlV h B (yv s):=by have:=w.sl;unfold SlI at this;rw[C2p]at this;exact this
def Fe{i:Z}(gp:Gp h)(h1: -9223372036854775808<=i)(h2:i<9223372036854775808)(hK:K (.string (bs (Qp i))) h):aK prog 137 #[I i,I 10] h K:=by refine FCall.pure ((fnk func137) ?_);refine(fnk func216 (cs:=[(3,[17],[],[.bool false])]) (wr:=[266])) ?_;refine D4 (fun _=>?_) (fun e=>absurd rfl e);refine⟨fun L j=>L=[.bool (decide (0<=i/\i<100))]/\j=h,B9 (fun n=>⟨by simp[n],rfl⟩) (fun n=>⟨by simp[n],rfl⟩),?_⟩;rintro t j ⟨O,rfl⟩;obtain rfl:t=decide (0<=i/\i<100):=gz0;refine B9 (fun n=>?_) (fun n=>?_);{obtain⟨k,rfl⟩:∃k:J,i=k:=⟨i.toNat,o⟩;refine Za o ⟨_,rfl,⟨_,rfl,B8 _,?_⟩⟩;assumption};·refine An A9a ?_;intro b G;have H:(Value.agg (bM 24 (.int .u8 0))).cells=((aE 24 (0:Z)).map (aP .u8)).toArray:=by{rfl};rw[H];have r:Win .u8 (j.put b (.cells ((aE 24 (0:Z)).map (aP .u8)).toArray 365)) j b 365 (some ⟨b,0,none⟩) [] (aE 24 (0:Z)) []:=⟨G,by simp,.inr rfl⟩;generalize (j.put b (.cells ((aE 24 (0:Z)).map (aP .u8)).toArray 365))=hp1 at *;refine⟨_,rfl,?_⟩;obtain⟨u,hu⟩:∃u:J,u=i.natAbs:=⟨_,rfl⟩;have a:u≠0:=o;have A:T7 u=dd u:=Et a;have N:(dd u).length<=20:=V6.2 o;have C:C4 (1+(((dd u).length:J):Z))=((1+(dd u).length:J):Z):=by{rw[C0 o o];omega};have s:=r.sub (l:=1) (m:=1+(dd u).length) (c:=24) o gz0 (by simp);have z:((aE 24 (0:Z)).drop 1).take (1+(dd u).length-1)=aE (dd u).length 0:=by{grind};rw[z]at s;have f:u<10^(dd u).length:=V6.1 (bN _);have q:pad (dd u).length u=dd u:=by{simp[pad]};have g:1+(dd u).length-1=(dd u).length:=o;refine B9 (fun p=>?_) (fun p=>?_);{rw[Tu p,<- hu,A]at hK;have e:C7 (0-C7 i)=(u:Z):=by{rw[F8,F8];omega};rw[e];refine Fc (gp.mono r.le) a o ⟨_,rfl,?_⟩;dsimp only;rw[C,aC];refine⟨⟨o,o⟩,⟨o,o⟩,?_⟩;rw[show((1:Z)).toNat=1 from rfl,g];refine Bg s (by simp) o f o ?_;intro y d;rw[q]at d;refine⟨rfl,B9 (fun _=>?_) (fun w=>absurd p w)⟩;have F:=r.whole (l:=1) (m:=1+(dd u).length) o gz0 (by rw[Io];omega) d;refine⟨⟨o,o⟩,?_⟩;rw[show((0:Z)).toNat=0 from rfl];refine F.storeN Ny rfl (by simp) ?_;intro M B;refine⟨⟨o,o⟩,?_⟩;have D:=B.sub (l:=0) (m:=1+(dd u).length) (c:=24) o (by simp[Io];omega) (by simp[Io];omega);have E:((((aE 24 (0:Z)).take 1++zb (dd u)++(aE 24 (0:Z)).drop (1+(dd u).length)).set 0 45).drop 0).take (1+(dd u).length-0)=zb ([45]++dd u):=by{rw[bF,List.take_replicate,show min 1 24=1 from rfl,show aE 1 (0:Z)=[0]from rfl,cI,List.singleton_append,List.set_cons_zero,bI,Nat.add_comm 1,List.take_succ_cons,List.take_left' (Io _)];rfl};rw[E]at D;refine Ki Fp.und Dk Y9 (A2o D) gz0 ⟨_,rfl,_,rfl,?_,hK⟩;exact B.le};·rw[Ob p,<- hu,A]at hK;have e:C7 i=(u:Z):=by{rw[F8];omega};rw[e];refine Fc (gp.mono r.le) a o ⟨_,rfl,?_⟩;dsimp only;rw[C,aC];refine⟨⟨o,o⟩,⟨o,o⟩,?_⟩;rw[show((1:Z)).toNat=1 from rfl,g];refine Bg s (by simp) o f o ?_;intro y d;rw[q]at d;refine⟨rfl,B9 (fun w=>absurd w p) (fun _=>?_)⟩;refine⟨⟨o,o⟩,⟨o,o⟩,?_⟩;exact Ki Fp.und Dk Y9 (A2o d) rfl ⟨_,rfl,_,rfl,d.le,hK⟩
def Ym{s q:Y UInt8}(hK:K (.tuple #[.string (bs (if q <+: s then s.drop q.length else s)),.bool (decide (q <+: s))]) h):aK prog 229 #[.string (bs s),.string (bs q)] h K:=by refine(fnk func229) ?_;refine(fnk func277) ?_;have b:aK prog 309 #[.string (bs s),.string (bs q)] h (fun r b=>r= .bool (decide (q <+: s))/\b=h):=by{refine(fnk func309) ?_;simp only[J2];refine B9 (fun a=>?_) (fun a=>?_);{refine⟨⟨o,o⟩,?_,trivial⟩;rw[aC,R8,Ib];congr 1;rw[decide_eq_decide,bF,bI,List.prefix_iff_eq_take];exact eq_comm};grind};refine b.mono ?_;rintro r c ⟨rfl,rfl⟩;refine⟨_,rfl,Br.not (B9 (fun a=>?_) (fun a=>?_))⟩;{rw[iP a,decide_eq_true a]at hK;have:=a.length_le;simp only[J2];refine⟨⟨o,o⟩,_,_,rfl,?_⟩;rw[aC,R8,aJ gz0];exact hK};grind
end
abbrev cB:Z:=10000000000000000000
section
variable {h g:aM} {K:VP} {A B:Option aN} {ac bc:J}
def C5v{Invv:LP}{muv:Y bZ->aM->J}{WA CA:Option aN}{wn wc cn cc:J}{us:Y Z}{hp1 g1:aM}(p:Pw hp1 g1 WA wn wc us)(hne:us≠[])(hwn:wn=us.length)(du:Dig b64 us)(hl:wn<=100000000) (hK:∀(ws:Y Z) (m:J) (r:Z) (hp2:aM),Pw hp2 g1 WA m wc (ws.take m)->m=(ws.take m).length->m<=wn->Norm (ws.take m)->Dig b64 (ws.take m)->val b64 us=val b64 (ws.take m)*cB+r->(0<=r/\r<cB)-> wpH prog (Instr.buildSlice 116 1 #[(0,U r)]) (fun v hp6=>∃(t44A:Option aN) (t44n:J) (t44c:J),v= .slice t44A t44n t44c/\wpH prog (bL #[116,116] 116 #[.slice CA cn cc,.slice t44A t44n t44c]) (fun v1 hp7=>∃(t45A:Option aN) (t45n:J) (t45c:J),v1= .slice t45A t45n t45c/\Invv [.slice WA m wc,.slice t45A t45n t45c] hp7/\muv [.slice WA m wc,.slice t45A t45n t45c] hp7<muv [.slice WA wn wc,.slice CA cn cc] hp1) hp6) hp2): Ka prog Invv muv WA wn wc CA cn cc hp1:=by obtain⟨b,g,F,R⟩:=Gn p hne;refine⟨fun s E=>∃(k:J) (r:Z) (ws:Y Z),s=[U r,I ((k:Z)-1)]/\k<=wn/\(0<=r/\r<cB)/\ws.length=us.length/\Dig b64 ws/\Win .u64 E g1 b 161 WA [] ws g/\ws.take k=us.take k/\val b64 (us.drop k)=val b64 (ws.drop k)*cB+r,fun s _=>(iAt s 1+1).toNat,⟨wn,0,us,by rw[C0 o o],o,dc,rfl,du,F,rfl,by rw[cM o];rfl⟩,?_⟩;rintro c i hp2 ⟨k,r,ws,hs,O,n,B,l,w,d,M⟩;obtain⟨rfl,rfl⟩:c=r/\i=(k:Z)-1:=gz0;refine B9 (fun D=>?_) (fun D=>?_);{obtain⟨j,rfl⟩:∃j,k=j+1:=⟨k-1,o⟩;have e:((j+1:J):Z)-1=(j:Z):=o;rw[e];have L:=S8 l j;refine w.sl.load o o o ?_;rw[aC];refine Ud (y:=10000000000000000000) n L dc ⟨_,_,rfl,?_⟩;have G:us.getD j 0=ws.getD j 0:=by{have H:(ws.take (j+1)).getD j 0=(us.take (j+1)).getD j 0:=by{rw[d]};grind};generalize hx:ws.getD j 0=x at *;have A:0<=c/\c<10000000000000000000:=n;have C:0<=(c*18446744073709551616+x)/10000000000000000000/\(c*18446744073709551616+x)/10000000000000000000<18446744073709551616:=o;obtain⟨a,t,_⟩:=SlV.at w.sl (i:=j) gz0;refine⟨a,t,o,o,w.storeN H0 t o ?_⟩;intro Q u;rw[C0 o o];refine⟨⟨j,_,_,rfl,o,gz0,gz0,l.set C,u,?_,?_⟩,by simp only[iAt,aF,aH];omega⟩;{rw[List.take_set_of_le o];have H:=congrArg (List.take j) d;grind};·rw[Am o,Nv b64 o,M,G];simp only[val];grind};·obtain rfl:k=0:=o;rw[show wn=ws.length from o]at hK ⊢;refine Fn w.sl o o ?_;intro m q N z;refine⟨_,_,_,rfl,?_⟩;have f:ws≠[]:=gz0;exact hK ws m c hp2 (w.priv f o q) gz0 q N (l.take m) gz0 n
end
def nv:Y J->J
 | []=>0
 |c::r=>c+10^19*nv r
def B35(ns:Y J)(c:J):((nv (ns++[c]):J):Z)=(nv ns:Z)+cB^ns.length*(c:Z):=by
 induction ns with
 |nil=>simp[nv]
 |cons d r ih=>
  have e:((10^19:J):Z)=cB:=dc;simp only[List.cons_append,nv,cY,dM,Int.natCast_add,cO,ih,e];grind
def C7l{ns:Y J}(h:∀c∈ns,c<10^19):nv ns<10^(19*ns.length):=by
 induction ns with
 |nil=>simp[nv]
 |cons d r ih=>
  have a:=h d (by simp);simp only[nv,cY];grind
def C7k{ns:Y J}(hne:ns≠[])(h:ns.getLast? ≠ some 0):nv ns≠0:=by
 induction ns with
 |nil=>grind
 |cons d r ih=>
  cases r with
  |nil=>simp at h;assumption
  |cons e s=>
   have:=ih (by simp) (by assumption);simp only[nv]at this ⊢;omega
def B70{c:J}:aE (19-(T7 c).length) 48++T7 c=pad 19 c:=by unfold T7 pad;split;{rename_i h;subst h;rw[Q7];rfl};·rfl
def B2w{c w:J}(h:c≠0):aE (w-(T7 c).length) 48++T7 c=pad w c:=by unfold T7 pad;grind
def B02{w n k:J}(h:n<10^k):(pad w n).length<=w+k:=by unfold pad;have:=V6.2 h;grind
def B18(W:J)(ns:Y J)(k:J):Y UInt8:=if k<ns.length then pad (W-19*k) (nv (ns.drop k))else []
def B5u{W:J}{ns:Y J}(h:∀c∈ns,c<10^19)(k:J):(B18 W ns k).length<=W+19*ns.length:=by unfold B18;split;{have:=B02 (w:=W-19*k) (C7l (ns:=ns.drop k) fun c a=>h c (List.mem_of_mem_drop a));grind};·simp
def B1q{W:J}{ns:Y J}(hb:∀c∈ns,c<10^19)(ht:ns.getLast? ≠ some 0){j:J}(hj:j<ns.length):B18 W ns j=B18 W ns (j+1)++(aE ((if j+1=ns.length then max (T7 ns[j]).length (W-19*j)else 19)-(T7 ns[j]).length) 48++T7 ns[j]):=by have e:ns.drop j=ns[j]::ns.drop (j+1):=bJ hj;unfold B18;rw[iP hj,e];by_cases h:j+1=ns.length;{rw[iN o,iP h,List.nil_append,cM o];have a:ns[j]≠0:=by{grind};rw[show max (T7 ns[j]).length (W-19*j)-(T7 ns[j]).length=(W-19*j)-(T7 ns[j]).length from o,B2w a];simp[nv]};·rw[iP o,iN h,B70];have d:nv (ns.drop (j+1))≠0:=by{apply C7k;{intro b;have:=congrArg List.length b;grind};grind};have:=A43 (w:=W-19*j) (h:=nv (ns.drop (j+1))) (l:=ns[j]) (k:=19) (hb _ (cK hj)) (.inl d);rw[Nat.sub_sub]at this;rw[show 19*(j+1)=19*j+19 from o,<- this];congr 1;simp only[nv];omega
def Priv.clear{h g:aM}{e:aQ}{A:Option aN}{n c:J}{xs:Y bZ}(p:cC h g e 1 A n c xs):cC h g e 1 A 0 c []:=by obtain⟨a,b,d⟩:=p;refine⟨by simp,o,?_⟩;grind
def nz(ns:Y J):Y Z:=ns.map fun(x:J)=>(x:Z)
def Bx(g:aM)(eT:aQ)(A:Option aN)(n c:J)(l:Y UInt8)(p:aN)(CA:Option aN)(ns:Y J)(bl t:Y UInt8)(tA:Option aN)(tn tc:J)(hp:aM):Prop:=∃e2 gA gB,Ext g eT A n c l t tA tn tc e2 gA hp/\cC gA gB 418 1 (some p) bl.length 20 (yv bl)/\g.le gB/\SlI .u64 gB CA (nz ns)
section
variable {h g:aM} {K:VP} {A CA:Option aN} {n c:J} {eT:aQ} {l:Y UInt8} {p:aN} {ns:Y J}
def A7q{bl t s:Y UInt8}{tA tA':Option aN}{tn tc tn' tc':J}{e2 e3:aQ}{gA gB g' hp hp':aM}(x:Ext g eT A n c l t tA tn tc e2 gA hp)(q:cC gA gB 418 1 (some p) bl.length 20 (yv bl))(lg:g.le gB)(sc:SlI .u64 gB CA (nz ns))(y:Ext gA e2 tA tn tc (l++t) s tA' tn' tc' e3 g' hp'):Bx g eT A n c l p CA ns bl (t++s) tA' tn' tc' hp':=by obtain⟨a,b,d⟩:=q.after y.le;exact⟨e3,g',a,x.trans y,d,B6 lg b,sc.mono b⟩
def B7y{Invv2:LP}{muv2:Y bZ->aM->J}{tA:Option aN}{tn tc q:J}{first:Bool}{i1 size:Z}{bl t:Y UInt8}{hp9 hp11:aM}(x:Bx g eT A n c l p CA ns bl t tA tn tc hp11)(hq:C4 (size-((bl.length:J):Z))=(q:Z))(hb:n+t.length+q+bl.length<=100000000000) (hK:∀tA' tn' tc' hp',Bx g eT A n c l p CA ns bl (t++(aE q 48++bl)) tA' tn' tc' hp'->Invv2 [.slice tA' tn' tc',.bool false,I (C4 (i1-1))] hp'/\muv2 [.slice tA' tn' tc',.bool false,I (C4 (i1-1))] hp'<muv2 [.slice tA tn tc,.bool first,I i1] hp9): Ig prog Invv2 muv2 tA tn tc first i1 (some p) bl.length 20 size hp9 hp11:=by refine⟨fun s j=>∃(k:J) (tA:Option aN) (tn tc:J),s=[.slice tA tn tc,I k]/\k<=q/\Bx g eT A n c l p CA ns bl (t++aE k 48) tA tn tc j,fun s _=>q-(iAt s 1).toNat,⟨0,tA,tn,tc,rfl,o,gz0⟩,?_⟩;rintro B C G H u ⟨k,M,L,F,hs,O,R,S,Q,ex,d,i,m⟩;obtain⟨⟨rfl,rfl,rfl⟩,rfl⟩:=hs;have a:=ex.len;rw[aL,List.length_replicate]at a;refine B9 (fun z=>?_) (fun z=>?_);{refine Hf (ch:=48) rfl ex.priv o ?_;intro A' N w T D r y;rw[C0 o o];refine⟨⟨k+1,_,_,_,rfl,o,?_⟩,by simp only[iAt,aF,aH];omega⟩;have:=A7q ex d i m y;rwa [cI,<- List.replicate_succ']at this};·obtain rfl:k=q:=o;refine⟨fun s j=>∃(tA:Option aN) (tn tc:J),s=[.slice tA tn tc]/\Bx g eT A n c l p CA ns bl (t++(aE k 48++bl)) tA tn tc j,?_,?_⟩;{refine Xj Fp ex.priv (Iq bl) (SlV.mono ex.priv.le d.slV) (A1h _) o o ?_ ?_;{intro E r b;rw[<- Z9]at b;refine⟨_,_,_,rfl,_,_,_,rfl,?_⟩;have:=A7q ex d i m (s:=bl) ⟨B8 _,b,rfl,fun _=>⟨rfl,rfl,rfl⟩,id⟩;grind};·intro E A' w r D f b;rw[<- Z9]at b;refine⟨_,_,_,rfl,_,_,_,rfl,?_⟩;have:=A7q ex d i m (s:=bl) ⟨f,b,rfl,fun e=>o,fun _=>rfl⟩;grind};grind
def B7w{W tn tc:J}{tA:Option aN}{t:Y UInt8}{e2:aQ}{gA hp9:aM}(x:Ext g eT A n c l t tA tn tc e2 gA hp9)(hW:W<=10000000000)(hb:tn<=10000000000)(hK:∀A' n' c' e3 g' h',Ext g eT A n c l (t++aE W 48) A' n' c' e3 g' h'->K (.slice A' n' c') h'):If prog (W:Z) K tA tn tc hp9:=by refine⟨fun s b=>∃(k:J) (tA:Option aN) (tn' tc:J) (e3:aQ) (g':aM),s=[.slice tA tn' tc,I k]/\k<=W/\tn'=tn+k/\Ext g eT A n c l (t++aE k 48) tA tn' tc e3 g' b,fun s _=>W-(iAt s 1).toNat,⟨0,tA,tn,tc,e2,gA,rfl,o,rfl,gz0⟩,?_⟩;rintro r u p f a ⟨k,w,e,i,e3,g',hs,z,j,ex⟩;obtain⟨⟨rfl,rfl,rfl⟩,rfl⟩:=hs;refine B9 (fun q=>?_) (fun q=>?_);{refine Hf (ch:=48) rfl ex.priv o ?_;intro A' n' c' m d h' y;rw[C0 o o];refine⟨⟨k+1,_,_,_,m,d,rfl,o,?_,?_⟩,by simp only[iAt,aF,aH];omega⟩;{have:=y.len;grind};·have:=ex.trans y;rwa [cI,<- List.replicate_succ']at this};grind
def B7x{W cn:J}{tA:Option aN}{tn tc:J}{hp8:aM}{b:J}(gp:Gp g)(hp:p=⟨b,0,none⟩)(x:Bx g eT A n c l p CA ns [] [] tA tn tc hp8)(hcn:cn=ns.length)(hb:∀c∈ns,c<10^19)(ht:ns.getLast? ≠ some 0)(hW:W<=1000000000)(hn:n<=1000000000)(hnl:ns.length<=1000000000) (hK:∀A' n' c' e3 g' h',Ext g eT A n c l (pad W (nv ns)) A' n' c' e3 g' h'->K (.slice A' n' c') h'):Ih prog tA tn tc (W:Z) K CA cn p hp8:=by subst hcn;have f:X9 (some p) 20 0 1=some p:=by{rfl};refine⟨fun s hp=>∃(k:J) (tA:Option aN) (tn tc:J) (E:Y UInt8),s=[.slice tA tn tc,.bool (decide (k=ns.length)),I ((k:Z)-1)]/\k<=ns.length/\Bx g eT A n c l p CA ns E (B18 W ns k) tA tn tc hp,fun s _=>(iAt s 2+1).toNat,⟨ns.length,tA,tn,tc,[],by rw[C0 o o];simp,bN _,by unfold B18;grind⟩,?_⟩;rintro t u B first i1 af ⟨k,ag,ae,aa,E,hs,hk,G,gA,gB,ex,z,m,N⟩;obtain⟨⟨rfl,rfl,rfl⟩,rfl,rfl⟩:=hs;have F:=ex.len;have S:=B5u (W:=W) hb k;refine B9 (fun X=>?_) (fun X=>?_);{obtain⟨j,rfl⟩:∃j,k=j+1:=⟨k-1,o⟩;have e:((j+1:J):Z)-1=(j:Z):=o;rw[e];have D:j<ns.length:=o;refine⟨⟨o,o⟩,?_⟩;refine(N.mono (B6 z.le ex.priv.le)).load (by simp[nz]) o o ?_;have hz:(nz ns).getD (j:Z).toNat 0=((ns[j]:J):Z):=by{simp[nz,List.getD,D]};rw[hz,f,show((0:Z)).toNat-0=0 from rfl,show 20-0=20 from rfl];have a:=hb ns[j] (cK D);have ad:(T7 ns[j]).length<=20:=(Pu dc).2 (aR a dc);refine ex.priv.call ?_;refine Ia (l:=[]) (gp.mono (B6 m z.le)) z.clear (aR a dc) o ?_;intro A' n' c' e3 g' Q y h' T;obtain⟨rfl,rfl,rfl⟩:=y.fit o;have L:=y.len;rw[cD]at L;subst L;refine⟨_,_,_,rfl,?_⟩;have x2:Bx g eT A n c l p CA ns (T7 ns[j]) (B18 W ns (j+1)) t u B h':=⟨G,Q,g',⟨B6 m (B6 y.le y.priv.le),T,ex.len,ex.fit,ex.tag⟩,by simpa using y.priv,B6 m y.le,N.mono y.le⟩;refine⟨fun s hp=>s=[I (((if j+1=ns.length then max (T7 ns[j]).length (W-19*j)else 19):J):Z)]/\hp=h',B9 (fun i=>⟨?_,rfl⟩) (fun i=>⟨gz0,rfl⟩),?_⟩;{rw[iP i,C0 (n:=19*(j:Z)) o o,C0 o o];grind};·rintro d H ⟨ac,rfl⟩;obtain rfl:d=(((if j+1=ns.length then max (T7 ns[j]).length (W-19*j)else 19):J):Z):=gz0;have O:(T7 ns[j]).length<=19:=(Pu dc).2 a;generalize hsz:(if j+1=ns.length then max (T7 ns[j]).length (W-19*j)else 19)=sz at *;have M:(T7 ns[j]).length<=sz/\sz<=W+20:=by{grind};refine B7y (q:=sz-(T7 ns[j]).length) x2 (by rw[C0 o o];omega) o ?_;intro w C r V R;rw[C0 o o];refine⟨⟨j,w,C,r,T7 ns[j],?_,o,?_⟩,by simp only[iAt,aF,aH];omega⟩;{rw[show decide (j=ns.length)=false from gz0]};·rw[B1q hb ht D,hsz];exact R};·obtain rfl:k=0:=o;refine B9 (fun i=>?_) (fun i=>?_);{refine B7w ex o o ?_;intro A' n' c' e3 g' h' y;refine hK _ _ _ e3 g' _ ?_;have:B18 W [] 0++aE W 48=pad W (nv []):=by{simp[B18,nv,pad,Q7]};grind};·refine hK _ _ _ G gA _ ?_;·have:B18 W ns 0=pad W (nv ns):=by{unfold B18;grind};grind
end
def B82:(prog.info? 418).map (fun i=>i.zero)=some (some (.agg (bM 20 (.int .u8 0)))):=by kernel_rfl
def C17(ns:Y J)(c:J):nz (ns++[c])=nz ns++[(c:Z)]:=by simp[nz]
section
variable {h g:aM} {K:VP} {A XA:Option aN} {n c:J} {eT:aQ} {l:Y UInt8}
def Gh{xn xc v W:J}(gp:Gp g)(p:cC h g eT 1 A n c (yv l))(M:Mw g XA xn (v:Z))(hx:xn<=10000000)(hW:W<=1000000000)(hn:n<=1000000000)
 (hK:∀A' n' c' e3 g' h',Ext g eT A n c l (pad W v) A' n' c' e3 g' h'->K (.slice A' n' c') h'):aK prog 308 #[.slice A n c,.slice XA xn xc,I (W:Z)] h K:=by
 obtain⟨xs,E,sx,dx,nx,N⟩:=M;refine Tq _ _ _ _ _ _ _ ?_;refine p.call ?_;refine Ge sx E oo ?_;intro WA R h0 g0 l0 pw h1 S;obtain⟨z,X,am⟩:=S.swap pw;refine⟨_,_,_,rfl,?_⟩
 have an:(v:Z)<2^(64*xn):=by
  have:=Q3 (B:=b64) dc dx;rw[N,<- E,My]at this;exact this
 refine⟨fun s hp=>∃(a:Y Z) (ns:Y J) (WA CA:Option aN) (wn R cn cc:J) (z g2 g3:aM),s=[.slice WA wn R,.slice CA cn cc]/\Pw hp z WA wn R a/\Pw z g2 CA cn cc (nz ns)/\cC g2 g3 eT 1 A n c (yv l)/\g.le g3/\wn=a.length/\cn=ns.length/\wn<=xn/\Dig b64 a/\Norm a/\(∀c∈ns,c<10^19)/\(v:Z)=val b64 a*cB^ns.length+(nv ns:Z)/\(a=[]->ns.getLast? ≠ some 0),fun s hp=>match s with|[.slice A n _,_]=>B3b b64 hp A n|_=>0,⟨xs,[],WA,none,xs.length,R,0,0,z,z,g0,rfl,X,Priv.nil _ _ _ _,am,l0,rfl,rfl,oo,dx,nx,by simp,by simp[nv,N],by simp⟩,?_⟩
 rintro WA1 L af CA1 ai ax O ⟨a,ns,WA2,CA2,aw,au,ay,aq,z,g2,g3,hs,pw,pc,S,lg,F,V,ar,du,nu,hb,hv,u⟩;obtain⟨⟨rfl,rfl,rfl⟩,rfl,rfl,rfl⟩:=hs;have ap:=C9 (B:=b64) dc du;have Mu:Mw O WA1 L (val b64 a):=⟨a,F,pw.slV,du,nu,rfl⟩;refine B9 (fun h2=>?_) (fun h2=>?_)
 ·have T:a≠[]:=gz0
  have G:0<val b64 a:=by
   have:=Mu.len_zero dc;omega
  have t:ns.length<=64*xn:=by
   by_cases hc:ns.length<=64*xn;·exact hc
   ·exfalso;have h3:(2:Z)^(64*xn)<=2^ns.length:=D7 dc oo
    have h4:(2:Z)^ns.length<=cB^ns.length:=by
     have:∀k:J,(2:Z)^k<=cB^k:=by
      intro k
      induction k with
      |zero=>simp
      |succ k ih=>
       grind
     grind
    have h5:1*cB^ns.length<=val b64 a*cB^ns.length:=cZ G (Int.le_of_lt (Int.pow_pos dc));omega
  refine C5v pw T F du oo ?_;intro ws m r av al hm ao nw dw j hr;obtain⟨q,aa,ag⟩:=al.swap pc;refine Fb U3 aa rfl rfl oo oo ?_;intro CA' aj h' g' ae i;obtain⟨w,l2,d⟩:=ag.after ae;obtain⟨g4,Q,ad⟩:=i.swap d;obtain⟨g5,l5,ac⟩:=S.after l2;obtain⟨c0,e⟩:∃c0:J,r=(c0:Z):=⟨r.toNat,oo⟩;refine⟨⟨ws.take m,ns++[c0],WA1,CA',m,af,ai+1,aj,g4,w,g5,rfl,Q,?_,ac,B6 lg l5,hm,gz0,oo,dw,nw,?_,?_,?_⟩,?_⟩
  ·have h9:=ad;rw[<- List.map_singleton (f:=aP .u64),<- dE,e,<- C17]at h9;exact h9
  ·grind
  ·rw[B35,hv,j,aL,cT,dM,e];grind
  ·intro he;rw[List.getLast?_append];simp only[dJ,Option.some_or,ne_eq,aW];intro e0;rw[he]at j;simp[val]at j;omega
  ·show B3b b64 h' WA1 m<B3b b64 O WA1 L;have Mw2:Mw h' WA1 m (val b64 (ws.take m)):=⟨ws.take m,hm,Q.slV,dw,nw,rfl⟩;rw[Cd Mw2,Cd Mu];grind
 ·have C:a=[]:=aO oo;subst C;obtain⟨w,ah,i⟩:=pc.swap S;obtain⟨q,D,d⟩:=pw.swap ah
  have ak:v=nv ns:=by
   simp[val]at hv;omega
  have t:ns.length<=1000000000:=by
   by_cases e:ns=[];·grind
   ·have h7:=u rfl;obtain⟨ms,c0,rfl⟩:∃ms c0,ns=ms++[c0]:=⟨ns.dropLast,ns.getLast e,(List.dropLast_concat_getLast e).symm⟩;rw[List.getLast?_append]at h7;simp only[dJ,Option.some_or,ne_eq,aW]at h7;have h8:=B35 ms c0;by_cases hc:ms.length<=64*xn;·grind
    ·exfalso;have h3:(2:Z)^(64*xn)<=2^ms.length:=D7 dc oo
     have h4:(2:Z)^ms.length<=cB^ms.length:=by
      have:∀k:J,(2:Z)^k<=cB^k:=by
       intro k
       induction k with
       |zero=>simp
       |succ k ih=>
        grind
      grind
     have h5:cB^ms.length*1<=cB^ms.length*(c0:Z):=Int.mul_le_mul_of_nonneg_left oo (Int.le_of_lt (Int.pow_pos dc));omega
  refine An B82 ?_;intro b y;refine⟨_,rfl,?_⟩
  have H:q b=none:=by
   cases hx1:q b with
   |none=>rfl
   |some o=>rw[D.le b o hx1]at y;cases y
  refine B7x (ns:=ns) gp rfl ⟨eT,_,q,⟨?_,?_,by simp,fun _=>⟨rfl,rfl,rfl⟩,id⟩,⟨by simp[yv],by simp,.inr ⟨b,aE 20 (aP .u8 0),rfl,H,rfl,by simp,by simp[yv]⟩⟩,?_,?_⟩ V hb (u rfl) hW hn t (by rw[<- ak];exact hK);·exact B6 lg (B6 i.le (B6 d.le (Heap.le_put _ H)))
  ·rw[List.append_nil];exact D.put y _
  ·exact B6 lg (B6 i.le d.le)
  ·exact(show SlI .u64 w CA1 (nz ns)from i.slV).mono d.le
end
def Nn(i:J):J:=10^(19*2^i)
def B1t(i:J):Nn i=(10^19)^(2^i):=dB _ _ _
def B5y(i:J):0<Nn i:=Nat.pow_pos dc
def A33(i:J):Nn (i+1)=Nn i*Nn i:=by unfold Nn;rw[<- Nat.pow_add];grind
def B9l(i:J):(Nn i:Z)<b64^(2^i):=by have h:(10^19)^(2^i)<(18446744073709551616:J)^(2^i):=Nat.pow_lt_pow_left dc (Nat.pos_iff_ne_zero.1 (Nat.pow_pos dc));rw[<- B1t]at h;grind
def B9m(i:J):(2:Z)^(63*2^i)<=(Nn i:Z):=by have h:(2^63)^(2^i)<=(10^19)^(2^i):=cV dc _;rw[<- B1t,<- dB]at h;grind
def C2u{k m:J}(h:(2:Z)^k<2^m):k<m:=by by_cases a:k<m;{exact a};·have:=D7 (B:=2) dc (show m<=k from o);omega
abbrev slT(s:Option aN×J×J):bZ:=.slice s.1 s.2.1 s.2.2
def Pws(h:aM)(PA:Option aN)(k:J):Prop:=∃ss:Y (Option aN×J×J),ss.length=k/\SlV h PA (ss.map slT)/\∀i s,ss[i]? = some s->s.2.1<=s.2.2/\Mw h s.1 s.2.1 (Nn i:Z)
def Pws.mono{h h':aM}(l:h.le h'){PA:Option aN}{k:J}(p:Pws h PA k):Pws h' PA k:=by obtain⟨d,b,c,a⟩:=p;exact⟨d,b,c.mono l,fun i s e=>⟨(a i s e).1,(a i s e).2.mono l⟩⟩
def Pws.take{h:aM}{PA:Option aN}{k j:J}(p:Pws h PA k)(hj:j<=k):Pws h PA j:=by obtain⟨a,d,b,f⟩:=p;refine⟨a.take j,gz0,?_,fun i s e=>?_⟩;{have:=SlV.cut (c:=(a.map slT).length) b (Nat.zero_le j) gz0 (bN _);rw[I7,bF,bI,<- List.map_take]at this;exact this};grind
def Pws.at{h:aM}{PA:Option aN}{k i:J}(p:Pws h PA k)(hi:i<k):∃(a:aN) (A:Option aN) (n c:J),PA=some a/\h.cell? (a.add i)=some (.slice A n c)/\n<=c/\Mw h A n (Nn i:Z):=by obtain⟨e,f,b,g⟩:=p;obtain⟨a,d,j⟩:=b.at (i:=i) gz0;grind
def Mw.tenP_le{h:aM}{A:Option aN}{n i:J}(m:Mw h A n (Nn i:Z)):n<=2^i:=m.len_le dc (B9l i)
def Mw.tenP_ge{h:aM}{A:Option aN}{n i:J}(m:Mw h A n (Nn i:Z)):2^i<2*n:=by have a:=m.lt dc;rw[My]at a;have b:=C2u (Int.lt_of_le_of_lt (B9m i) a);omega
def Ext.weak{g g0 g' h':aM}{eT e2:aQ}{A A':Option aN}{n c n' c':J}{l t:Y UInt8}(l0:g0.le g)(x:Ext g eT A n c l t A' n' c' e2 g' h'):Ext g0 eT A n c l t A' n' c' e2 g' h':=⟨B6 l0 x.le,x.priv,x.len,x.fit,x.tag⟩
def C4r(w n:J):w<=(pad w n).length:=by simp[pad];omega
def C01{j:J}(hj:j<=50):C4 (19*2^(min j 64))=((19*2^j:J):Z):=by rw[cN o];have b:2^j<=2^50:=aI dc hj;have a:(19*2^j:Z)=((19*2^j:J):Z):=by{rfl};rw[a,C0 o o]
def A1z{l:Y UInt8}(hd:∀c∈l,I8 c):(K9 l:Z)<b64^(l.length/19+1):=by have f:=Ff hd;have b:10^l.length<=10^(19*(l.length/19+1)):=aI dc o;rw[dB]at b;have e:(10^19)^(l.length/19+1)<=(18446744073709551616:J)^(l.length/19+1):=cV dc _;have d:K9 l<(18446744073709551616:J)^(l.length/19+1):=o;have a:=Int.ofNat_lt.2 d;rw[Int.natCast_pow]at a;exact a
def Tm:∀(k:J) {h g:aM} {K:VP} {A XA PA:Option aN} {n c xn xc pc v W:J} {eT:aQ} {l:Y UInt8},Gp g->cC h g eT 1 A n c (yv l)->Mw g XA xn (v:Z)->xn<=xc->xn<=10000000->Pws g PA k->k<=pc->k<=26->(W=0\/W=19*2^k)->n+(pad W v).length<=1000000000->
 (∀A' n' c' e3 g' h',Ext g eT A n c l (pad W v) A' n' c' e3 g' h'->K (.slice A' n' c') h')->aK prog 275 #[.slice A n c,.slice XA xn xc,I (W:Z),.slice PA k pc] h K:=by
 intro k
 induction k with
 |zero=>
  intro h g K A XA PA n c xn xc pc v W eT l d p M y F u E hk hW O D;refine(fnk func275) ?_;refine B9 (fun _=>?_) (fun e=>absurd dc e);refine Gh d p M F o o ?_;grind
 |succ j ih=>
  intro h g K A XA PA n c xn xc pc v W eT l d p M y F u E hk hW O D;have S:=C4r W v;have e1:C4 (((j+1:J):Z)-1)=(j:Z):=by rw[C0 o o];omega
  refine(fnk func275) ?_;simp only[e1,aC,bI,I7,C01 (show j<=50 from o)];refine B9 (fun e=>absurd e o) (fun _=>B9 (fun _=>?_) (fun _=>?_))
  ·refine Gh d p M F o o ?_;grind
  ·obtain⟨a,PA',pn,ad,ha,hc,s,Mp⟩:=u.at (i:=j) o;refine⟨a,ha,o,o,_,_,_,by rw[aY];exact C2 p.le hc,?_⟩;have ah:=Mp.tenP_le;have X:2^j<=2^26:=aI dc o;have C:=B5y j;refine p.call ?_;refine Y7 M Mp y s o o o ?_;intro A1 m1 c1 A2 m2 c2 g1 b T Q M1 M2 h1 N;refine⟨_,_,_,_,_,_,rfl,?_⟩;rw[<- Int.natCast_ediv]at M1;rw[<- Int.natCast_emod]at M2;have hv:=Nat.div_add_mod v (Nn j);have f:=Nat.mod_lt v C;have ac:=aV v (Nn j);generalize v/Nn j=q at *;generalize v%Nn j=r at *;have hz:=M1.len_zero dc;have G:=M.lt dc;have af:m1<=xn:=M1.len_le dc o
   have ae:m2<=xn:=M2.len_le dc (by
    omega);have B:v=q*10^(19*2^j)+r:=by rw[<- hv,Nat.mul_comm];rfl
   refine B9 (fun e=>absurd e o) (fun _=>?_);refine D4 (fun V=>D4 (fun eW=>?_) (fun eW=>?_)) (fun V=>?_)
   ·obtain rfl:W=0:=o;obtain rfl:q=0:=o;obtain rfl:v=r:=o;refine⟨⟨o,o⟩,?_⟩;refine ih (W:=0) (d.mono b) N M2 Q o ((u.mono b).take o) o o (.inl rfl) O ?_;intro A4 n4 c4 R L h4 z;exact⟨_,_,_,rfl,D _ _ _ _ _ _ (z.weak b)⟩
   all_goals
    have hw:q≠0\/19*2^j<=W:=o;have t:=A43 (w:=W) (h:=q) (l:=r) (k:=19*2^j) f hw;rw[<- B]at t;have aa:(pad (19*2^j) r).length=19*2^j:=Zi f;have ai:(pad W v).length=(pad (W-19*2^j) q).length+19*2^j:=gz0;refine⟨⟨o,o⟩,?_⟩
    have e3:(if(0:Z)>C4 ((W:Z)-((19*2^j:J):Z))then(0:Z)else C4 ((W:Z)-((19*2^j:J):Z)))=((W-19*2^j:J):Z):=by
     rw[C0 o o];omega
    rw[e3];refine ih (d.mono b) N M1 T o ((u.mono b).take o) o o o o ?_;intro A3 n3 c3 e3 g3 h3 m;have ag:=m.len;have H:=B6 b m.le;refine⟨_,_,_,rfl,⟨o,o⟩,?_⟩;refine ih (d.mono H) m.priv (M2.mono m.le) Q o ((u.mono H).take o) o o (.inr rfl) o ?_;intro A4 n4 c4 R L h4 z;refine⟨_,_,_,rfl,D _ _ _ R L _ ?_⟩;rw[t];exact(m.trans z).weak b
def Jf:∀(k:J) {h:aM} {K:VP} {PA:Option aN} {pc:J} {l:Y UInt8},(∀c∈l,I8 c)->l.length<=140737488351232->Pws h PA k->k<=pc->k<=50->(∀A n c h',h.le h'->n<=c->Mw h' A n (K9 l:Z)->K (.slice A n c) h')->aK prog 278 #[.string (bs l),.slice PA k pc] h K:=by
 intro k
 induction k using Nat.strongRecOn with
 |_ k ih=>
  intro h K PA pc l p hl z W hk R;refine(fnk func278 [(2,[5],[],[I 0])] (os:=[(7,[0,1,2,3,4,5,7,8,9,10,6,11,12])])) ?_;rw[J2]
  have b:aK prog 310 #[.string (bs l)] h (fun r q=>∃(A:Option aN) (n c:J),r= .slice A n c/\K (.slice A n c) q):=by
   refine Tj p hl ?_;grind
  refine⟨fun s q=>q=h/\∃j:J,s=[I ((j:Z)-1)]/\j<=k,fun s _=>(iAt s 0+1).toNat,⟨rfl,k,by rw[C0 o o],bN _⟩,?_⟩;rintro last q ⟨rfl,j,hs,hj⟩;obtain rfl:last=(j:Z)-1:=gz0;refine B9 (fun M=>?_) (fun M=>B9 (fun _=>b) (fun e=>absurd (show(j:Z)-1<0 from o) e));obtain⟨i,rfl⟩:∃i,j=i+1:=⟨j-1,o⟩;have L:((i+1:J):Z)-1=(i:Z):=o;simp only[L,aC,bI,I7,C01 (show i<=50 from o)];refine B9 (fun e=>absurd e o) (fun _=>B9 (fun E=>?_) (fun E=>?_))
  ·refine⟨⟨trivial,i,by rw[C0 o o],o⟩,?_⟩;simp only[iAt,aF];rw[C0 o o];omega
  refine B9 (fun e=>absurd e o) (fun _=>B9 (fun _=>b) (fun D=>B9 (fun e=>absurd e o) (fun _=>?_)));have T:C4 ((l.length:Z)-((19*2^i:J):Z))=((l.length-19*2^i:J):Z):=by rw[C0 o o];omega
  simp only[T,aC,R8,bF,bI];obtain⟨a,PA',pn,S,ha,m,g,Mp⟩:=z.at (i:=i) o;refine⟨⟨o,o⟩,⟨o,o⟩,a,ha,o,o,_,_,_,by rw[aY];exact m,?_⟩;have aa:=Mp.tenP_le;have f:∀c∈l.take (l.length-19*2^i),I8 c:=fun c m=>p c (aZ m);have d:∀c∈l.drop (l.length-19*2^i),I8 c:=fun c m=>p c (List.mem_of_mem_drop m);have ac:(l.take (l.length-19*2^i)).length=l.length-19*2^i:=gz0;have u:(l.drop (l.length-19*2^i)).length=19*2^i:=gz0
  have F:K9 l=K9 (l.take (l.length-19*2^i))*Nn i+K9 (l.drop (l.length-19*2^i)):=by
   have:=Hm (l.take (l.length-19*2^i)) (l.drop (l.length-19*2^i));rw[cR,u]at this;exact this
  have N:=A1z p;have C:=A1z f;have y:=A1z d;refine ih i o f o (z.take o) o o ?_;intro A1 n1 c1 E t H M1;refine⟨_,_,_,rfl,t,?_⟩;have O:=M1.len_le dc C;refine J1 M1 (Mp.mono t) H g o o ?_;intro A2 n2 c2 h2 B k2 M2;refine⟨_,_,_,rfl,B,⟨o,o⟩,⟨o,o⟩,?_⟩;have X:=M2.len_le dc (Int.lt_of_le_of_lt (Int.ofNat_le.2 o) N);rw[aJ o];refine ih i o d o ((z.mono (B6 t B)).take o) o o ?_;intro A3 n3 c3 h3 w Q M3;refine⟨_,_,_,rfl,w,?_⟩;have V:=M3.len_le dc y;refine W7 (M2.mono w) M3 k2 Q o o ?_;intro A4 n4 c4 h4 G k4 M4;refine⟨_,_,_,rfl,G,R _ _ _ _ (B6 t (B6 B (B6 w G))) k4 ?_⟩;grind
section
variable {h g:aM} {K:VP} {A XA:Option aN} {n c:J} {eT:aQ} {l:Y UInt8}
def A34{hs:aM}{ss:Y (Option aN×J×J)}{s:Option aN×J×J}(h3:∀i s,ss[i]? = some s->s.2.1<=s.2.2/\Mw hs s.1 s.2.1 (Nn i:Z))(h4:s.2.1<=s.2.2/\Mw hs s.1 s.2.1 (Nn ss.length:Z)):∀i t,(ss++[s])[i]? = some t->t.2.1<=t.2.2/\Mw hs t.1 t.2.1 (Nn i:Z):=by grind
def A0j{hs:aM}{b:J}{e:aQ}:∀i (t:Option aN×J×J),[((some ⟨b,0,none⟩:Option aN),1,1)][i]? = some t->t.2.1<=t.2.2/\Mw (hs.put b (.cells #[U 10000000000000000000] e)) t.1 t.2.1 (Nn i:Z):=by intro i t a;rcases i with _|i;{simp at a;subst a;refine⟨bN _,[10000000000000000000],rfl,SlI.new _ _ _ _ _,?_,?_,?_⟩;{intro x c;grind};{unfold Norm;simp};rfl};grind
def Vt(hd:∀c∈l,I8 c)(hl:l.length<=140737488351232)(hK:∀A n c h',h.le h'->n<=c->Mw h' A n (K9 l:Z)->K (.slice A n c) h'):aK prog 231 #[.string (bs l)] h K:=by
 refine(fnk func231 [(4,[3],[],[.slice none 0 0])]) ?_;rw[J2];refine B9 (fun h5=>?_) (fun _=>?_)
 ·refine T6 U3 rfl ?_;intro q w;refine⟨_,_,_,rfl,?_⟩;refine Fb A7y (Priv.nil _ _ _ none) rfl rfl o o ?_;intro A1 c1 h1 R m Q;refine⟨fun s t=>∃(d:Y (Option aN×J×J)) (PA:Option aN) (k u:J) (g:aM),s=[.slice PA k u]/\cC t g 116 1 PA k u (d.map slT)/\d.length=k/\0<k/\h.le g/\(∀i s,d[i]? = some s->s.2.1<=s.2.2/\Mw g s.1 s.2.1 (Nn i:Z))/\2^(k-1)<=l.length,fun s _=>match s with|[.slice _ n _]=>l.length-n|_=>0,⟨[(some ⟨q,0,none⟩,1,1)],A1,1,c1,R,rfl,Q,rfl,o,B6 (Heap.le_put _ w) m,fun i s e=>⟨(A0j (hs:=h) (b:=q) (e:=161) i s e).1,(A0j (hs:=h) (b:=q) (e:=161) i s e).2.mono m⟩,o⟩,?_⟩
  rintro PA k u t ⟨d,PA',k',N,g,hs,p,B,O,z,j,hkl⟩;obtain⟨rfl,rfl,rfl⟩:=hs
  have F:k-1<47:=by
   by_cases f:k-1<47;·exact f
   ·have:2^47<=2^(k-1):=aI dc o;omega
  rw[aC,C01 (show k<=50 from o)];have V:C4 ((k:Z)-1)=((k-1:J):Z):=by rw[C0 o o];omega
  have y:Pws t PA k:=⟨d,B,p.slV,fun i s e=>⟨(j i s e).1,(j i s e).2.mono p.le⟩⟩;refine B9 (fun e=>absurd e o) (fun _=>B9 (fun S=>?_) (fun S=>?_))
  ·obtain⟨a,W,f⟩:=p.slV.at (i:=k-1) gz0;rw[List.getElem_map]at f;obtain⟨C,M⟩:=j (k-1) (d[k-1]'o) (bK o);generalize d[k-1]'o=s at *;dsimp only;rw[V];refine⟨a,W,o,o,_,_,_,by rw[aC,aY];exact f,?_⟩;have D:=M.tenP_le;have L:2^k=2*2^(k-1):=by rw[<- Nat.pow_succ',show(k-1).succ=k from o]
   refine p.call ?_;refine J1 M M C C o o ?_;intro A2 G c2 g2 E T M2 h2 H;refine⟨_,_,_,rfl,?_⟩;refine Fb A7y H rfl rfl o o ?_;intro A3 c3 h3 g3 r p3;refine⟨⟨d++[(A2,G,c2)],A3,k+1,c3,g3,rfl,?_,gz0,o,B6 z (B6 E r),?_,?_⟩,?_⟩;·grind
   ·refine A34 (fun i s e=>⟨(j i s e).1,(j i s e).2.mono (B6 E r)⟩) ⟨T,?_⟩;rw[B,show Nn k=Nn (k-1)*Nn (k-1) by rw[<- A33];grind,cO];exact M2.mono r
   ·grind
   grind
  ·refine Jf k hd hl y p.2.1 o ?_;intro A n c h' X f M;exact⟨_,_,_,rfl,hK _ _ _ _ (B6 z (B6 p.le X)) f M⟩
 ·refine Jf 0 hd hl ⟨[],rfl,SlV.nil,by simp⟩ o o ?_;grind
def Ko(hd:∀c∈l,I8 c)(hl:l.length<=140737488351232)(hK:∀A n c h',h.le h'->ZI h' false A n c (K9 l:Z)->K (.agg #[.bool false,.slice A n c]) h'):aK prog 166 #[.string (bs l)] h K:=by refine(fnk func166 (own:=[2])) ?_;refine Vt hd hl ?_;intro A n c h' b a M;refine⟨_,_,_,rfl,hK _ _ _ _ b ⟨a,?_,?_⟩⟩;{assumption};rfl
end
def Priv.le_put'{h g:aM}{e:aQ}{s:J}{A:Option aN}{n c:J}{xs:Y bZ}(p:cC h g e s A n c xs){b:J}(hb:h b=none)(o:Obj):g.le (g.put b o):=by intro k f d;have a:k≠b:=by{rintro rfl;rw[p.le k f d]at hb;cases hb};rw[C1 _ _ a];exact d
def B1i{n:Z}(h0:9223372036854775808<=n)(h1:n<18446744073709551616):C4 n=n-18446744073709551616:=by unfold C4 IntKind.wrap;simp only[IntKind.signed,IntKind.bits];grind
section
variable {h g:aM} {K:VP} {A XA:Option aN} {n c:J} {eT:aQ} {l:Y UInt8}
def C5k{v xn:J}(hv:(v:Z)<b64^xn):(dd v).length<=20*xn:=by refine V6.2 ?_;rw[dB];have a:((v:J):Z)<((18446744073709551616^xn:J):Z):=by{assumption};exact aR (Int.ofNat_lt.1 a) (cV dc _)
def Ic{xn xc v:J}(gp:Gp g)(p:cC h g eT 1 A n c (yv l))(M:Mw g XA xn (v:Z))(hxc:xn<=xc)(hx:xn<=10000000)(hn:n<=200000000)
 (hK:∀A' n' c' e3 g' h',Ext g eT A n c l (T7 v) A' n' c' e3 g' h'->K (.slice A' n' c') h'):aK prog 222 #[.slice A n c,.slice XA xn xc] h K:=by
 have h0:=M.len_zero dc;refine(fnk func222 [(6,[5],[],[.slice none 0 0])]) ?_;refine D4 (fun e=>?_) (fun e=>?_)
 ·obtain rfl:v=0:=o;refine Hf (ch:=48) rfl p o ?_;assumption
 ·have R:v≠0:=o;refine D4 (fun X=>?_) (fun X=>?_)
  ·obtain⟨xs,N,sx,dx,nx,G⟩:=M
   obtain⟨w,rfl⟩:∃w,xs=[w]:=by
    rcases xs with _|⟨w,_|⟨w',r⟩⟩;·grind
    ·grind
    grind
   rw[At]at G;subst G;refine(SlI.mono p.le sx).load N o o ?_;have t:=dx v (by simp);refine Ia (gp.mono p.le) p gz0 o ?_;grind
  ·have al:=C5k (M.lt dc);have af:(pad 0 v).length<=200000000:=by rw[A8d];omega
   refine T6 U3 rfl ?_;intro B H;refine⟨_,_,_,rfl,?_⟩;have p1:=p.put H (.cells #[U 10000000000000000000] 161);have l1:=p.le_put' H (.cells #[U 10000000000000000000] 161);have w1:=fun i s e=>A0j (hs:=g) (b:=B) (e:=161) i s e;generalize h.put B (Obj.cells #[U 10000000000000000000] 161)=h1 at *;generalize g.put B (Obj.cells #[U 10000000000000000000] 161)=g1 at *;refine T6 A7y rfl ?_;intro b2 S;refine⟨_,_,_,rfl,?_⟩
   have split:∀{y:aM} {m:Y (Option aN×J×J)} {PA:Option aN} {k u:J} {f d:aM},cC y f 116 1 PA k u (m.map slT)->cC f d eT 1 A n c (yv l)->m.length=k->g.le d->(∀i s,m[i]? = some s->s.2.1<=s.2.2/\Mw d s.1 s.2.1 (Nn i:Z))->k<=26->
    aK prog 275 #[.slice A n c,.slice XA xn xc,I (0:Z),.slice PA k u] y (fun r aa=>∃(A1:Option aN) (n1 c1:J),r= .slice A1 n1 c1/\K (.slice A1 n1 c1) aa):=by
    intro y m PA k u f d z C E D t j;obtain⟨g3,O,q⟩:=z.swap C;have F:=B6 D q.le;refine Tm k (W:=0) (gp.mono F) O (M.mono F) hxc hx ⟨m,E,q.slV,fun i s e=>⟨(t i s e).1,(t i s e).2.mono q.le⟩⟩ q.2.1 j (.inl rfl) o ?_;intro A' n' c' e2 g' h' x;refine⟨_,_,_,rfl,hK _ _ _ e2 g' _ ?_⟩;rw[A8d,<- Et R]at x;exact x.weak F
   refine⟨fun s y=>∃(m:Y (Option aN×J×J)) (PA:Option aN) (k u:J) (f d:aM),s=[.slice PA k u]/\cC y f 116 1 PA k u (m.map slT)/\cC f d eT 1 A n c (yv l)/\m.length=k/\0<k/\g.le d/\(∀i s,m[i]? = some s->s.2.1<=s.2.2/\Mw d s.1 s.2.1 (Nn i:Z))/\2^(k-1)<=2*xn,fun s _=>match s with|[.slice _ n _]=>xn-n|_=>0,⟨[(some ⟨B,0,none⟩,1,1)],_,1,1,h1,g1,rfl,⟨by simp,by simp,.inr ⟨b2,[.slice (some ⟨B,0,none⟩) 1 1],rfl,S,rfl,by simp,by simp⟩⟩,p1,rfl,o,l1,w1,o⟩,?_⟩
   rintro PA k u y ⟨m,PA',k',ah,f,d,hs,z,C,E,ai,D,t,ak⟩;obtain⟨rfl,rfl,rfl⟩:=hs
   have j:k<=26:=by
    by_cases L:k<=26;·exact L
    ·have h1:2^26<=2^(k-1):=aI dc o;omega
   refine B9 (fun aj=>?_) (fun _=>split z C E D t j);have X:C4 ((k:Z)-1)=((k-1:J):Z):=by rw[C0 o o];omega
   obtain⟨a,ha,L⟩:=z.slV.at (i:=k-1) gz0;rw[List.getElem_map]at L;obtain⟨h4,Mk⟩:=t (k-1) (m[k-1]'o) (bK o);generalize m[k-1]'o=s at *;simp only[X,aC,aY];refine⟨a,ha,o,o,_,_,_,L,?_⟩;have ae:=Mk.tenP_ge;have am:=Mk.tenP_le;have e2:C4 (2*(s.2.1:Z))=2*(s.2.1:Z):=C0 o o;refine B9 (fun h5=>?_) (fun _=>split z C E D t j);refine⟨a,ha,o,o,_,_,_,L,?_⟩;refine z.call (C.call ?_);refine J1 Mk Mk h4 h4 o o ?_;intro A2 m2 c2 g2 l2 k2 M2 ad ac ag T;refine⟨_,_,_,rfl,?_⟩;refine Fb A7y T rfl rfl o o ?_;intro A3 c3 h3 g3 F p3;obtain⟨g4,Q,V⟩:=ac.after F
   have hm:2^k=2*2^(k-1):=by
    obtain⟨i,rfl⟩:∃i,k=i+1:=⟨k-1,o⟩;grind
   refine⟨⟨m++[(A2,m2,c2)],A3,k+1,c3,g3,g4,rfl,?_,V,gz0,o,B6 D (B6 l2 Q),?_,?_⟩,?_⟩;·rw[dE];exact p3
   ·refine A34 (fun i s e=>⟨(t i s e).1,(t i s e).2.mono (B6 l2 Q)⟩) ⟨k2,?_⟩;rw[E,show Nn k=Nn (k-1)*Nn (k-1) by rw[<- A33];grind,cO];exact M2.mono Q
   ·grind
   omega
def B5m{z:Z}{s:Bool}{xn xc m:J}(i:ZI h s XA xn xc z)(hz:ZB m z)(hm:m<=100000000):xn<=10000000:=by obtain⟨k,hk⟩:∃k,k=10000000:=⟨_,rfl⟩;rw[<- hk];refine i.mag.len_le dc ?_;rw[My];have a:(z.natAbs:Z)<2^m:=by{have:((z.natAbs:J):Z)<((2^m:J):Z):=Int.ofNat_lt.2 hz;assumption};have b:=D7 (B:=2) dc (show m<=64*k from o);omega
def Ip{s:Bool}{xn xc:J}{z:Z}(gp:Gp g)(p:cC h g eT 1 A n c (yv l))(i:ZI g s XA xn xc z){m:J}(hz:ZB m z)(hm:m<=100000000)(hn:n<=100000000) (hK:∀A' n' c' e3 g' h',Ext g eT A n c l (Qp z) A' n' c' e3 g' h'->K (.slice A' n' c') h'):aK prog 148 #[.agg #[.bool s,.slice XA xn xc],.slice A n c] h K:=by have d:=B5m i hz hm;refine(fnk func148 (own:=[2])) ?_;refine Br.of (fun e=>?_) (fun e=>?_);{have a:z<0:=by{have:=i.sgn;grind};rw[Tu a]at hK;refine Hf (ch:=45) rfl p o ?_;intro A1 u c1 t r f b;have:=b.len;refine Ic (gp.mono b.le) b.priv (i.mag.mono b.le) i.cap d gz0 ?_;intro A2 y c2 w q k j;exact⟨_,_,_,rfl,hK _ _ _ _ _ _ (b.trans j)⟩};·have a:¬z<0:=by{have:=i.sgn;grind};rw[Ob a]at hK;refine Ic gp p i.mag i.cap d o ?_;grind
def A2h{s:Bool}{xn xc:J}{z:Z}(gp:Gp h)(i:ZI h s XA xn xc z){m:J}(hz:ZB m z)(hm:m<=100000000)(hK:K (.string (bs (Qp z))) h):aK prog 147 #[.agg #[.bool s,.slice XA xn xc]] h K:=by refine FCall.pure ((fnk func147 (own:=[1])) ?_);refine Ip (l:=[]) (eT:=5) gp (Priv.nil _ _ _ _) i hz hm o ?_;intro A' a c e d b x;refine⟨_,_,_,rfl,?_⟩;have f:=x.len;refine Ki Fp.und Dk Y9 x.priv.slV gz0 ⟨_,rfl,?_⟩;exact⟨B6 x.le x.priv.le,hK⟩
def A5t{s:Bool}{xn xc:J}{z:Z}(i:ZI h s XA xn xc z)(hK1: -9223372036854775808<=z->z<9223372036854775808->K (.tuple #[I z,.bool true]) h)(hK0:¬(-9223372036854775808<=z/\z<9223372036854775808)->K (.tuple #[I 0,.bool false]) h):aK prog 146 #[.agg #[.bool s,.slice XA xn xc]] h K:=by have y:=i.zeroIff;have k:=Fs i.sgn;refine(fnk func146 (own:=[1])) ?_;refine D4 (fun e=>?_) (fun e=>?_);{grind};·obtain⟨xs,a,l,u,t,b⟩:=i.mag;refine l.load a o o ?_;rw[show((0:Z)).toNat=0 from rfl];refine B9 (fun j=>?_) (fun j=>?_);{refine hK0 ?_;have g:=i.mag.ge dc o;have q:b64^1<=b64^(xn-1):=D7 dc o;grind};·obtain⟨w,rfl⟩:∃w,xs=[w]:=by{rcases xs with _|⟨w,_|⟨p,r⟩⟩;{grind};{grind};grind};rw[At]at b;have n:[w].getD 0 0=w:=rfl;rcases k with⟨rfl,m⟩|⟨rfl,m⟩;{refine Br.of (fun _=>?_) (fun f=>by cases f);refine B9 (fun c=>?_) (fun c=>?_);{have:C4 (C7 (0-w))=z:=by{rw[F8,B1i o o];omega};grind};·refine Br.of (fun d=>by cases d) (fun _=>?_);grind};·refine Br.of (fun f=>by cases f) (fun _=>?_);refine Br.of (fun _=>?_) (fun d=>by cases d);refine B9 (fun c=>?_) (fun c=>?_);{have:C4 w=z:=by{rw[C0 o o];omega};grind};grind
end
def B9u(q:Rat)(f:Z):(q-f).num=q.num-f*q.den/\(q-f).den=q.den:=by have b:aS (q.num-f*q.den).natAbs q.den=1:=by{have a:aU (q.num-f*q.den) q.den=aU q.num q.den:=Int.gcd_sub_mul_right_left _ _ _;have c:aU q.num q.den=1:=by{have:=q.reduced;assumption};rw[c]at a;assumption};have e:q-f=⟨q.num-f*q.den,q.den,q.den_nz,b⟩:=by{rw[Rat.sub_def',Rat.mk_eq_mkRat];simp};grind
def B3c(a b:Rat):(a*b).num=a.num.tdiv (aS a.num.natAbs b.den:J)*b.num.tdiv (aS b.num.natAbs a.den:J)/\(a*b).den=a.den/(aS b.num.natAbs a.den)*(b.den/(aS a.num.natAbs b.den)):=by show(Rat.mul a b).num=_/\(Rat.mul a b).den=_;delta Rat.mul;simp only[Int.divExact_eq_tdiv,Nat.divExact_eq_div,and_self]
def A03(a b:Rat)(h:a.den.gcd b.den=1):(a+b).num=a.num*b.den+b.num*a.den/\(a+b).den=a.den*b.den:=by show(dH a b).num=_/\(dH a b).den=_;delta dH;grind
def A02(a b:Rat)(h:a.den.gcd b.den≠1){g r:J}{z:Z}(hg:g=a.den.gcd b.den)(hz:z=a.num*(b.den/g:J)+b.num*(a.den/g:J))(hr:r=z.natAbs.gcd g):(a+b).num=z.tdiv r/\(a+b).den=a.den/g*(b.den/r):=by subst hg hz;have c:r∣b.den:=by{rw[hr];exact Nat.dvd_trans (cH ..) (cH ..)};show(dH a b).num=_/\(dH a b).den=_;delta dH;simp only[h,dif_neg,not_false_eq_true];rw[Rat.maybeNormalize_eq];subst hr;refine⟨?_,Nat.mul_div_assoc _ c⟩;simp only[Int.divExact_eq_tdiv]
def Qa(a:Rat)(z:Z):(a+z).num=z*a.den+a.num/\(a+z).den=a.den:=by have:=B9u a (-z);have e:a - -(z:Rat)=a+z:=gz0;grind
def Zq{q:Rat}(h:q.den=1):q=(q.num:Rat):=by apply Rat.ext;{simp};assumption
abbrev dgt(c:UInt8):Bool:=decide (I8 c)
def Od(l:Y UInt8):∀c∈l.takeWhile dgt,I8 c:=by
 induction l with
 |nil=>simp
 |cons d r ih=>
  intro c b;by_cases a:I8 d
  ·simp[a]at b;grind
  simp_all
def B6x(l:Y UInt8):Bool:=decide ([45] <+: l)
def Lc(l:Y UInt8):Y UInt8:=if [45] <+: l then l.drop 1 else l
def A89(l:Y UInt8):l=(if B6x l then [45]else [])++Lc l:=by unfold B6x Lc;by_cases h:[45] <+: l;{obtain⟨t,rfl⟩:=h;simp};grind
def B2r(l:Y UInt8):B6x l=(l.head? == some 45):=by
 unfold B6x
 cases l with
 |nil=>simp
 |cons c r=>
  grind
def Form.parts{l:Y UInt8}{neg:Bool}{a b:Y UInt8}(f:Form l neg a b):neg=B6x l/\a=(Lc l).takeWhile dgt/\(if b=[]then []else 47::b)=(Lc l).dropWhile dgt:=by have j:neg=B6x l:=by{rw[B2r];exact f.head};have e:=A89 l;have i:=e.symm.trans f.eq;have g:∀c,(if b=[]then []else 47::b:Y UInt8).head? = some c->¬I8 c:=by{intro c d;split at d;{grind};·simp at d;subst d;decide};have:=Ha f.da g;grind
section
variable {h g:aM} {K:VP} {l:Y UInt8}
def Ly(hl:l.length<=1000000000000000)(hK:K (.tuple #[.string (bs (l.takeWhile dgt)),.string (bs (l.dropWhile dgt))]) h):aK prog 230 #[.string (bs l)] h K:=by refine(fnk func230 [(2,[4],[],[I 0])] (cs:=[(4,[4],[],[I 0])])) ?_;simp only[J2];refine⟨fun L d=>L=[I (((l.takeWhile dgt).length:J):Z)]/\d=h,?_,?_⟩;{refine⟨fun L d=>∃k:J,L=[I k]/\d=h/\k<=l.length/\(∀c∈l.take k,I8 c),fun L _=>l.length-(iAt L 0).toNat,⟨0,rfl,rfl,o,by simp⟩,?_⟩;rintro n d ⟨k,u,rfl,y,f⟩;obtain rfl:n=(k:Z):=gz0;have a:(∀c,(l.drop k).head? = some c->¬I8 c)->[I (k:Z)]=[I (((l.takeWhile dgt).length:J):Z)]/\d=d:=by{intro hs;have:=Ha f hs;simp_all};refine B9 (fun s=>?_) (fun s=>?_);{have hkl:k<l.length:=o;have b:(bs l)[(k:Z).toNat]? = some l[k]:=by{rw[aC,Zz,bK hkl]};have m:(l.drop k).head? = some l[k]:=by{simp_all};refine⟨l[k],⟨o,b⟩,B9 (fun i=>?_) (fun i=>?_)⟩;{refine⟨l[k],⟨o,b⟩,B9 (fun q=>?_) (fun q=>?_)⟩;{rw[C0 o o];refine⟨⟨k+1,rfl,rfl,o,?_⟩,by simp only[iAt,aF];omega⟩;rw[aT hkl];intro c e;rcases List.mem_append.1 e with j|j;{grind};·rw[List.mem_singleton.1 j];exact⟨o,o⟩};·exact a (fun c e=>by rw[m]at e;cases e;intro f;exact q (by have:=f.2;omega))};·exact a (fun c e=>by rw[m]at e;cases e;intro f;exact i (by have:=f.1;omega))};grind};·rintro n d ⟨u,rfl⟩;obtain rfl:n=(((l.takeWhile dgt).length:J):Z):=gz0;have r:(l.takeWhile dgt).length<=l.length:=(List.takeWhile_sublist _).length_le;have g:l.take (l.takeWhile dgt).length=l.takeWhile dgt:=by{(conv=>lhs;rw[<- bX (p:=dgt) (l:=l)]);rw[bX,List.prefix_iff_eq_take.1 (List.takeWhile_prefix _)];grind};have w:l.drop (l.takeWhile dgt).length=l.dropWhile dgt:=by{have t:l.takeWhile dgt++l.drop (l.takeWhile dgt).length=l.takeWhile dgt++l.dropWhile dgt:=by{rw[bX];(conv=>lhs;lhs;rw[<- g]);exact cR _ _};exact List.append_cancel_left t};refine⟨⟨o,o⟩,⟨o,o⟩,?_⟩;rw[aC,R8,R8,bF,bI,g,w,aJ gz0];exact hK
def W6(a:Y UInt8):((bs a).toList==({data:=#[] }:ByteArray).toList)=decide (a=[]):=Ib a []
def Qs(hl:l.length<=1000000000000000)(hK1:∀neg a b,Form l neg a b->K (.tuple #[.agg #[.bool neg,.string (bs a),.string (bs b)],.bool true]) h)(hK0:(∀neg a b,¬Form l neg a b)->∀neg a b,K (.tuple #[.agg #[.bool neg,.string (bs a),.string (bs b)],.bool false]) h):aK prog 165 #[.string (bs l)] h K:=by refine(fnk func165 (cs:=[(8,[31],[],[.bool false])]) (own:=[2,4])) ?_;refine Ym (q:=[45]) ⟨_,_,rfl,?_⟩;have aa:(Lc l).length<=l.length:=by{unfold Lc;grind};show aK prog 230 #[.string (bs (Lc l))] h _;refine Ly o ⟨_,_,rfl,?_⟩;show Br _ _ _;have y:Lc l=(Lc l).takeWhile dgt++(Lc l).dropWhile dgt:=List.takeWhile_append_dropWhile.symm;have A:∀c∈(Lc l).takeWhile dgt,I8 c:=Od _;have j:∀neg a b,Form l neg a b->neg=B6x l/\a=(Lc l).takeWhile dgt/\(if b=[]then []else 47::b)=(Lc l).dropWhile dgt:=fun neg a b f=>f.parts;have G:=A89 l;show Br _ _ _;have B:decide ([45] <+: l)=B6x l:=rfl;rw[B];generalize B6x l=neg at *;generalize (Lc l).takeWhile dgt=a at *;generalize (Lc l).dropWhile dgt=r at *;generalize Lc l=t at *;subst y;have N:((bs a).toList==({data:=#[48] }:ByteArray).toList)=decide (a=[48]):=Ib a [48];rw[N,W6,W6];refine B9 (fun S=>?_) (fun S=>?_);{subst S;refine Br.not (Br.of (fun hn=>?_) (fun hn=>?_));{refine hK0 ?_ _ _ [];intro C p g f;obtain⟨rfl,rfl,_⟩:=j _ _ _ f;rcases f.ha with d|d;{grind};grind};·subst hn;by_cases hr:r=[];{subst hr;refine hK1 false [48] [] ⟨by assumption,o,by simp,by simp,.inr ⟨rfl,rfl,rfl⟩,by simp,by simp⟩};·rw[decide_eq_false hr];refine hK0 ?_ _ _ [];intro C p g f;obtain⟨rfl,rfl,w⟩:=j _ _ _ f;rcases f.ha with d|d;{grind};grind};·refine⟨fun L W=>L=[.bool (decide (a=[]\/a.head? = some 48))]/\W=h,?_,?_⟩;{refine B9 (fun d=>⟨by simp[d],rfl⟩) (fun d=>?_);obtain⟨c,i,rfl⟩:=bC d;refine⟨c,⟨o,by rfl⟩,?_,rfl⟩;congr 2;rw[cP,beq_iff_eq,decide_eq_true_iff];simp only[reduceCtorEq,false_or,dF,aW];constructor;{intro e;apply UInt8.toNat_inj.1;grind};·rintro rfl;rfl};rintro H W ⟨hL,rfl⟩;obtain rfl:H=decide (a=[]\/a.head? = some 48):=gz0;refine B9 (fun d=>?_) (fun d=>?_);{refine hK0 ?_ _ _ [];intro C p g f;obtain⟨rfl,rfl,_⟩:=j _ _ _ f;rcases d with d|d;{exact f.ne d};·rcases f.ha with w|w;{grind};grind};·have k:a≠[]:=fun e=>d (.inl e);have u:a.head? ≠ some 48:=fun e=>d (.inr e);refine B9 (fun w=>?_) (fun w=>?_);{exact hK1 neg a [] ⟨gz0,A,by simp,k,.inl u,by simp,by simp⟩};·obtain⟨c,i,rfl⟩:=bC w;refine⟨c,⟨o,by rfl⟩,D8 (fun R=>?_) (fun R=>?_)⟩;{refine hK0 ?_ _ _ [];intro C p g f;obtain⟨rfl,rfl,m⟩:=j _ _ _ f;by_cases E:g=[];{grind};·rw[iN E]at m;simp at m;exact R (by rw[<- m.1];rfl)};·have hc:c=47:=by{apply UInt8.toNat_inj.1;grind};subst hc;refine⟨⟨o,by rw[J2];grind⟩,?_⟩;rw[R8,show((1:Z)).toNat=1 from rfl,J2,aJ (by simp),List.drop_succ_cons,bF];refine Ly gz0 ⟨_,_,rfl,?_⟩;have V:i=i.takeWhile dgt++i.dropWhile dgt:=List.takeWhile_append_dropWhile.symm;have F:∀c∈i.takeWhile dgt,I8 c:=Od _;have Q:∀g:Y UInt8,(∀c∈g,I8 c)->g=i->i.takeWhile dgt=g/\i.dropWhile dgt=[]:=by{intro g hd e;have:=Ha (r:=[]) hd (by simp);grind};generalize i.takeWhile dgt=b at *;generalize i.dropWhile dgt=s at *;have no:(s≠[]\/b=[]\/b.head? = some 48\/b=[49])->∀neg' p g,¬Form (((if neg=true then [45]else [])++(a++47::i))) neg' p g:=by{rintro z C p g f;rw[<- G]at f;obtain⟨rfl,rfl,m⟩:=j _ _ _ f;by_cases E:g=[];{grind};·rw[iN E]at m;simp at m;obtain⟨e6,e7⟩:=Q g f.db m;subst e6;rcases z with n|n|n|n;{grind};{grind};{exact f.hb n};·exact f.b1 n};rw[W6,W6];have M:((bs b).toList==({data:=#[49] }:ByteArray).toList)=decide (b=[49]):=Ib b [49];rw[M];refine B9 (fun n=>?_) (fun n=>hK0 gz0 _ _ _);refine Br.not (B9 (fun T=>hK0 gz0 _ _ _) (fun T=>?_));obtain⟨c,D,rfl⟩:=bC T;refine⟨c,⟨o,by rfl⟩,D8 (fun X=>?_) (fun X=>?_)⟩;{by_cases O:c::D=[49];{rw[decide_eq_true O];exact hK0 gz0 _ _ _};·rw[decide_eq_false O];refine hK1 neg a (c::D) ⟨gz0,A,F,k,.inl u,?_,O⟩;intro e;simp at e;exact X (by rw[e];rfl)};·have hh:(c::D).head? = some 48:=by{simp only[dF,aW];apply UInt8.toNat_inj.1;grind};grind
end
def B81:(prog.info? 226).map (fun i=>i.zero)=some (some (.agg (bM 48 (.int .u8 0)))):=by kernel_rfl
def A52{x y:Z}(hy:0<y):(cF x y).num=x.tdiv (aU x y)/\((cF x y).den:Z)=y.tdiv (aU x y):=by have b:(aU x y:Z)∣x:=Int.gcd_dvd_left ..;have a:(aU x y:Z)∣y:=Int.gcd_dvd_right ..;constructor;{rw[Rat.num_divInt,bU hy,Int.one_mul,Int.gcd_comm,dK b]};·rw[Rat.den_divInt,iN o,Int.gcd_comm,Int.natCast_ediv,Int.natAbs_of_nonneg o,dK a]
def A0g{q:Rat}(h:q.den=1):E7 q=Qp q.num:=by unfold E7;grind
def A2w{q:Rat}(h:q.den≠1):E7 q=Qp q.num++[47]++Qp (q.den:Z):=by unfold E7;rw[iN h,Ob (i:=(q.den:Z)) o,Int.natAbs_natCast];simp
section
variable {h g:aM} {K:VP} {l:Y UInt8}
def C6c{k:J}(h:k<=18):10^k<=1000000000000000000:=bO (aI dc h) dc
def Hz(hd:∀c∈l,I8 c)(hl:l.length<=18)(hK:K (I (K9 l:Z)) h):aK prog 218 #[.string (bs l)] h K:=by refine(fnk func218 [(3,[3,7],[],[I 0,I 0])]) ?_;simp only[J2];refine⟨fun L d=>∃k:J,L=[I (K9 (l.take k):Z),I k]/\d=h/\k<=l.length,fun L _=>l.length-(iAt L 1).toNat,⟨0,rfl,rfl,o⟩,?_⟩;rintro n p d ⟨k,i,rfl,j⟩;obtain⟨rfl,rfl⟩:=i;refine B9 (fun f=>?_) (fun f=>?_);{have hkl:k<l.length:=o;have b:=hd l[k] (cK hkl);have a:=Ff (l:=l.take (k+1)) (fun c g=>hd c (aZ g));rw[bY,cN o]at a;have m:=C6c (k:=k+1) o;have hs:K9 (l.take (k+1))=10*K9 (l.take k)+(l[k].toNat-48):=by{rw[aT hkl,Jo]};unfold I8 at b;refine⟨l[k],⟨o,by rw[aC,Zz,bK hkl]⟩,?_⟩;have e:C4 (C4 (10*((K9 (l.take k):J):Z))+C4 (wu8 (((l[k].toNat:J):Z)-48)))=((K9 (l.take (k+1)):J):Z):=by{rw[Ys o o,C0 (n:=((l[k].toNat:J):Z)-48) o o,C0 (n:=10*((K9 (l.take k):J):Z)) o o,C0 o o];omega};rw[e,C0 (n:=(k:Z)+1) o o];exact⟨⟨k+1,rfl,rfl,o⟩,by simp only[iAt,aF,aH];omega⟩};grind
def A32{a b:J}(hK:K (I (aS a b:Z)) h):aK prog 140 #[I (a:Z),I (b:Z)] h K:=by refine(fnk func140 [(1,[0,1],[],[I 0,I 0])]) ?_;refine⟨fun L c=>∃x y:J,L=[I x,I y]/\c=h/\aS x y=aS a b,fun L _=>(iAt L 1).toNat,⟨a,b,rfl,rfl,rfl⟩,?_⟩;rintro i g c ⟨x,y,l,rfl,k⟩;obtain⟨rfl,rfl⟩:i=(x:Z)/\g=(y:Z):=gz0;refine D8 (fun d=>?_) (fun d=>?_);{have j:y≠0:=o;refine B9 (fun e=>absurd e d) (fun _=>?_);have f:=Nat.mod_lt x (Nat.pos_of_ne_zero j);refine⟨⟨y,x%y,rfl,rfl,?_⟩,by assumption⟩;rw[<- k,Nat.gcd_comm x y,Nat.gcd_rec y x,Nat.gcd_comm]};simp_all
def Ez(hK1:∀q,l=E7 q->q.num.natAbs<1000000000->q.den<1000000000->K (.tuple #[.agg #[I q.num,I (q.den:Z)],.bool true]) h)(hK0:K (.tuple #[.agg #[I 0,I 0],.bool false]) h):aK prog 139 #[.string (bs l)] h K:=by refine(fnk func139 (cs:=[(5,[29],[],[.bool false]),(11,[],[(2,2),(6,2)],[I 0,I 0,I 0,I 0]),(13,[],[(6,2)],[I 0,I 0])]) (own:=[2,4,6])) ?_;rw[J2];refine B9 (fun _=>hK0) (fun N=>?_);refine Qs o ?_ ?_;{intro neg a b f;refine⟨_,_,_,_,rfl,?_⟩;simp only[J2];refine⟨fun L i=>L=[.bool (decide (a.length>9\/b.length>9))]/\i=h,Br.of (fun e=>by cases e) (fun _=>B9 (fun n=>⟨?_,rfl⟩) (fun n=>⟨?_,rfl⟩)),?_⟩;{grind};{by_cases z:b.length>9;{grind};grind};rintro g i ⟨B,rfl⟩;obtain rfl:g=decide (a.length>9\/b.length>9):=gz0;refine B9 (fun _=>hK0) (fun n=>?_);have r:(Tk neg a).natAbs=K9 a:=by{unfold Tk;omega};have C:=Ff f.da;have t:=Ff f.db;have F:∀k,k<=9->10^k<=1000000000:=fun k w=>bO (aI dc w) dc;have E:=F a.length o;refine Hz f.da o ⟨_,rfl,?_⟩;refine⟨fun L d=>L=[I 0,I 0,I (K9 a:Z),I (Np b:Z)]/\d=i/\aS (K9 a) (Np b)=1,?_,?_⟩;{rw[W6];refine Br.not (B9 (fun s=>?_) (fun s=>?_));{subst s;exact⟨rfl,rfl,by unfold Np;simp⟩};·refine Hz f.db o ⟨_,rfl,A32 ⟨_,rfl,D8 (fun _=>hK0) (fun M=>?_)⟩⟩;have G:Np b=K9 b:=by{unfold Np;grind};grind};·rintro D A H Q j ⟨m,rfl,u⟩;obtain⟨_,_,rfl,rfl⟩:=m;obtain⟨q,y⟩:=f.isNum.2 u;have c:=f.of_txt y;have p:Np b<1000000000:=by{unfold Np;grind};refine⟨fun L d=>L=[I q.num,I (q.den:Z)]/\d=j,Br.of (fun e=>?_) (fun e=>?_),?_⟩;{rw[c.1,c.2,e,C0 o o];exact⟨by unfold Tk;simp,rfl⟩};{rw[c.1,c.2,e];exact⟨by rfl,rfl⟩};grind};·intro O neg a b;refine⟨_,_,_,_,rfl,?_⟩;refine⟨fun L i=>L=[.bool true]/\i=h,Br.not ⟨rfl,rfl⟩,?_⟩;rintro g i ⟨B,rfl⟩;obtain rfl:g=true:=gz0;exact Br.of (fun _=>hK0) (fun e=>by cases e)
def Jb{l':Y UInt8}(hK1:∀p q,l=E7 p->l'=E7 q->p.num.natAbs<1000000000->p.den<1000000000->q.num.natAbs<1000000000->q.den<1000000000->K (.tuple #[.agg #[I p.num,I (p.den:Z)],.agg #[I q.num,I (q.den:Z)],.bool true]) h)(hK0:K (.tuple #[.agg #[I 0,I 0],.agg #[I 0,I 0],.bool false]) h):aK prog 69 #[.string (bs l),.string (bs l')] h K:=by refine(fnk func69 (own:=[4,5,7,9])) ?_;refine Ez ?_ ⟨_,_,_,rfl,Br.not hK0⟩;intro p a e c;refine⟨_,_,_,rfl,Br.not ?_⟩;refine Ez ?_ ⟨_,_,_,rfl,Br.not hK0⟩;intro q b f d;exact⟨_,_,_,rfl,Br.not (hK1 p q a b e c f d)⟩
def Ce{num den:Z}(gp:Gp h)(hd:den≠0)(h1:num.natAbs<4000000000000000000)(h2:den.natAbs<4000000000000000000)(hK:K (.string (bs (E7 (cF num den)))) h):aK prog 70 #[I num,I den] h K:=by refine FCall.pure ((fnk func70 (cs:=[(3,[0,1],[],[I 0,I 0]),(6,[0,1],[],[I 0,I 0])]) (wr:=[141])) ?_);refine⟨fun L t=>t=h/\∃n d:Z,L=[I n,I d]/\0<d/\cF n d=cF num den/\n.natAbs=num.natAbs/\d.natAbs=den.natAbs,B9 (fun j=>⟨rfl,-num,-den,?_,o,Rat.neg_divInt_neg num den,o,o⟩) (fun j=>⟨rfl,num,den,rfl,o,rfl,rfl,rfl⟩),?_⟩;{rw[C0 o o,C0 o o,Int.zero_sub,Int.zero_sub]};rintro f m t ⟨rfl,n,d,M,p,H,hn,T⟩;obtain⟨rfl,rfl⟩:=M;rw[<- H]at hK;have g:=A52 (x:=f) p;have O:=Ps (a:=f) (b:=m) o;generalize cF f m=q at *;refine⟨fun L s=>s=t/\L=[I q.num,I (q.den:Z)],D8 (fun j=>?_) (fun j=>?_),?_⟩;{have z:(if(C4 (0-f))>f then C4 (0-f)else f)=((f.natAbs:J):Z):=by{rw[C0 o o];omega};obtain⟨k,rfl⟩:∃k:J,m=k:=⟨m.toNat,o⟩;rw[z];refine A32 ⟨_,rfl,?_⟩;have V:0<aS f.natAbs k:=Nat.gcd_pos_of_pos_right _ o;refine B9 (fun e=>o) (fun _=>B9 (fun e=>o) (fun _=>⟨rfl,?_⟩));have A:cX f ((aS f.natAbs k:J):Z)=q.num:=g.1.symm;have e4:cX (k:Z) ((aS f.natAbs k:J):Z)=(q.den:Z):=g.2.symm;rw[A,e4,C0 o o,C0 o o]};{subst j;have F:aU f 1=1:=by{simp};rw[F]at g;grind};rintro n2 d2 l ⟨rfl,w⟩;obtain⟨rfl,rfl⟩:=w;refine D4 (fun j=>?_) (fun j=>?_);{rw[A0g o]at hK;exact Fe gp o o ⟨_,rfl,B8 _,hK⟩};·rw[A2w o]at hK;refine An B81 ?_;intro b D;refine⟨_,rfl,⟨o,o⟩,?_⟩;have W:cC (l.put b (.cells (aE 48 (aP .u8 0)).toArray 226)) l 226 1 (some ⟨b,0,none⟩) 0 48 (yv []):=⟨by simp[yv],o,.inr ⟨b,aE 48 (aP .u8 0),rfl,D,rfl,by simp,by simp[yv]⟩⟩;refine Md gp W o o o ?_;intro A1 aa c1 z g1 R u;refine⟨_,_,_,rfl,?_⟩;have X:(Qp q.num).length<=20:=by{unfold Qp;have:(T7 q.num.natAbs).length<=19:=(Pu dc).2 (aR (show q.num.natAbs<10000000000000000000 from o) dc);grind};have N:=u.len;refine Hf (ch:=47) rfl u.priv o ?_;intro A2 C c2 e2 g2 Q y;have i:=u.trans y;have r:=i.len;rw[aL,cT]at r;refine Md (gp.mono i.le) y.priv o o o ?_;intro A3 G c3 A g3 S E;refine⟨_,_,_,rfl,?_⟩;have c:=i.trans E;have B:=c.len;refine Ki Fp.und Dk Y9 c.priv.slV gz0 ⟨_,rfl,?_⟩;refine⟨B6 c.le c.priv.le,?_⟩;assumption
end
structure RQ (h:aM) (w:QV) (q:Rat):Prop where
 num:ZI h w.s w.A w.n w.c q.num
 den:ZI h w.s2 w.A2 w.n2 w.c2 (if q.den=1 then 0 else (q.den:Z))
def ZB.gcd{m:J}{x y:Z}(hy:y≠0)(h:ZB m y):ZB m (aU x y:Z):=by refine h.le ?_;exact dI o (Int.natAbs_dvd_natAbs.2 (Int.gcd_dvd_right x y))
def C00{x y a b:Z}(ha:0<a)(hb:0<b)(hs:x.sign≠y.sign):Gr (x*a) (y*b)=Gr x y:=by have c:(x*a).sign=x.sign:=by{rw[Int.sign_mul,bU ha,Int.mul_one]};have d:(y*b).sign=y.sign:=by{rw[Int.sign_mul,bU hb,Int.mul_one]};have key:∀u v:Z,u.sign≠v.sign->(u<v↔u.sign<v.sign)/\(v<u↔v.sign<u.sign):=by{grind};have e:=key x y hs;have f:=key (x*a) (y*b) o;unfold Gr;omega
section
variable {h h':aM} {K:VP} {A B:Option aN} {n c n' c':J} {s s':Bool} {x y z:Z} {m:J} {p q:Rat} {a b w:QV} {l:Y UInt8}
def RQ.mono(hl:h.le h')(i:RQ h w q):RQ h' w q:=⟨i.num.mono hl,i.den.mono hl⟩
def RQ.whole(i:ZI h s A n c z):RQ h ⟨s,A,n,c,false,none,0,0⟩ (z:Rat):=⟨by assumption,by simpa using ZI.zero⟩
def RQ.zero:RQ h ⟨false,none,0,0,false,none,0,0⟩ 0:=⟨ZI.zero,ZI.zero⟩
def T4(i:RQ h w q)(hK:K (.bool (decide (q.den=1))) h):aK prog 132 #[.agg #[.bool w.s2,.slice w.A2 w.n2 w.c2]] h K:=by refine F6 i.den ?_;have:=q.den_nz;simp_all
def Y8(i:ZI h s A n c z)(j:ZI h s' B n' c' y)(h1:q.num=z)(h2:(q.den:Z)=y)(hK:∀w,RQ h w q->K w.v h):aK prog 145 #[.agg #[.bool s,.slice A n c],.agg #[.bool s',.slice B n' c']] h K:=by subst h1 h2;refine(fnk func145 (own:=[2,3,4])) ?_;refine O1 j ⟨_,rfl,B9 (fun e=>?_) (fun e=>?_)⟩;{exact hK ⟨s,A,n,c,false,none,0,0⟩ ⟨i,by rw[iP o];exact ZI.zero⟩};·exact hK ⟨s,A,n,c,s',B,n',c'⟩ ⟨i,gz0⟩
def Do(i:RQ h w q)(hK:∀s A n c h',h.le h'->ZI h' s A n c (q.den:Z)->K (.agg #[.bool s,.slice A n c]) h'):aK prog 150 #[w.v] h K:=by refine(fnk func150 (own:=[1,2])) ?_;refine T4 i ⟨_,rfl,B9 (fun e=>?_) (fun e=>?_)⟩;{refine O0 dc dc ?_;grind};·have:=i.den;rw[iN e]at this;exact hK _ _ _ _ _ (B8 _) this
def Xg(gl:Gtz h)(i:ZI h s A n c x)(j:ZI h s' B n' c' y)(hx:ZB m x)(hy:ZB m y)(hm:m<=6400000000)(hy0:0<y)(hK:∀s1 A1 n1 c1 s2 A2 n2 c2 h',h.le h'->ZI h' s1 A1 n1 c1 (x.tdiv (aU x y))->ZI h' s2 A2 n2 c2 (y.tdiv (aU x y))->K (.tuple #[.agg #[.bool s1,.slice A1 n1 c1],.agg #[.bool s2,.slice A2 n2 c2]]) h'):aK prog 149 #[.agg #[.bool s,.slice A n c],.agg #[.bool s',.slice B n' c']] h K:=by refine(fnk func149 (os:=[(4,[0,1,3,4,2,5,6,7])]) (own:=[2,3,4,5,6])) ?_;refine O1 j ⟨_,rfl,B9 (fun e=>?_) (fun e=>?_)⟩;{subst e;have g:aU x 1=1:=by{simp};rw[g]at hK;exact hK _ _ _ _ _ _ _ _ _ (B8 _) gz0 (by assumption)};·refine Bp gl i j hx hy o ?_;intro A1 n1 c1 r d i1;have g:=Int.gcd_pos_of_ne_zero_right x (show y≠0 from o);have a:ZB m (aU x y:Z):=ZB.gcd o hy;refine⟨_,_,_,_,rfl,R3 (i.mono d) i1 hx a hm o ?_⟩;intro s2 A2 n2 c2 q b l;refine⟨_,_,_,_,rfl,b,R3 (j.mono (B6 d b)) (i1.mono b) hy a hm o ?_⟩;intro p A3 u c3 t f k;exact⟨_,_,_,_,rfl,f,hK _ _ _ _ _ _ _ _ _ (B6 d (B6 b f)) (l.mono f) k⟩
def A9t(i:RQ h w q)(hK:∀w',RQ h w' (-q)->K w'.v h):aK prog 217 #[w.v] h K:=by refine C26 _ _ _ _ _ _ _ _ ?_;refine Z8 i.num ?_;intro a b;exact⟨_,_,_,_,rfl,B8 _,hK ⟨a,w.A,w.n,w.c,w.s2,w.A2,w.n2,w.c2⟩ ⟨by assumption,by simpa using i.den⟩⟩
def Dn(i:RQ h w q)(hK:K (I q.num.sign) h):aK prog 255 #[w.v] h K:=by refine B86 _ _ _ _ _ _ _ _ ?_;exact Cw i.num ⟨_,rfl,hK⟩
def Bv(i:RQ h w q)(hK:K (.bool (decide (q=0))) h):aK prog 118 #[w.v] h K:=by refine(fnk func118 (own:=[1])) ?_;refine F6 i.num ⟨_,rfl,?_⟩;simp_all
def Kn(gl:Gtz h)(i:RQ h a p)(j:RQ h b q)(hp:Sz m p)(hq:Sz m q)(hm:2*m+1<=6400000000)(hK:∀w h',h.le h'->RQ h' w (p+q)->K w.v h'):aK prog 72 #[a.v,b.v] h K:=by have aq:=q.den_nz;have M:∀{z:Z},ZB m z->ZB (2*m+1) z:=fun B=>B.mono o;refine C29 _ _ _ _ _ _ _ _ _ _ _ _ _ _ _ _ ?_;refine⟨fun L hp=>L=[.bool (decide (p.den=1/\q.den=1))]/\hp=h,T4 i ⟨_,rfl,B9 (fun e=>?_) (fun e=>?_)⟩,?_⟩;{exact T4 j ⟨_,rfl,by simp[e],rfl⟩};{grind};rintro af ai ⟨hL,rfl⟩;obtain rfl:af=decide (p.den=1/\q.den=1):=gz0;refine B9 (fun e=>?_) (fun e=>?_);{refine Fm i.num j.num hp.num hq.num o ?_;intro s1 A1 n1 c1 h1 k i1;refine⟨_,_,_,_,rfl,hK ⟨s1,A1,n1,c1,false,none,0,0⟩ _ k ?_⟩;have:=RQ.whole i1;rw[Rat.intCast_add,<- Zq e.1,<- Zq e.2]at this;exact this};·refine⟨fun L hp=>L=[.bool (decide (p.den=1))]/\hp=ai,T4 i ⟨_,rfl,rfl,rfl⟩,?_⟩;rintro ad au ⟨hL,rfl⟩;obtain rfl:ad=decide (p.den=1):=gz0;refine B9 (fun O=>?_) (fun O=>?_);{have al:q.den≠1:=fun W=>e ⟨O,W⟩;have jd:=j.den;rw[iN al]at jd;refine I6 i.num jd hp.num hq.den o ?_;intro s1 A1 n1 c1 h1 k i1;refine⟨_,_,_,_,rfl,k,Fm (m:=2*m+1) i1 (j.num.mono k) ((hp.num.mul hq.den).mono o) (M hq.num) o ?_⟩;intro s2 A2 n2 c2 h2 l i2;have c:=Qa q p.num;rw[<- Zq O,Rat.add_comm]at c;refine⟨_,_,_,_,rfl,l,hK ⟨s2,A2,n2,c2,b.s2,b.A2,b.n2,b.c2⟩ _ (B6 k l) ⟨gz0,?_⟩⟩;rw[c.2];exact j.den.mono (B6 k l)};·refine T4 j ⟨_,rfl,B9 (fun W=>?_) (fun W=>?_)⟩;{have f:=i.den;rw[iN O]at f;refine I6 j.num f hq.num hp.den o ?_;intro s1 A1 n1 c1 h1 k i1;refine⟨_,_,_,_,rfl,k,Fm (m:=2*m+1) i1 (i.num.mono k) ((hq.num.mul hp.den).mono o) (M hp.num) o ?_⟩;intro s2 A2 n2 c2 h2 l i2;have c:=Qa p q.num;rw[<- Zq W]at c;refine⟨_,_,_,_,rfl,l,hK ⟨s2,A2,n2,c2,a.s2,a.A2,a.n2,a.c2⟩ _ (B6 k l) ⟨gz0,?_⟩⟩;rw[c.2];exact i.den.mono (B6 k l)};·have f:=i.den;have s:=j.den;rw[iN O]at f;rw[iN W]at s;refine Bp gl f s hp.den hq.den o ?_;intro A1 n1 c1 h1 k F;rw[dL]at F;obtain⟨g,hg⟩:∃g,g=p.den.gcd q.den:=⟨_,rfl⟩;rw[<- hg]at F;have ae:0<g:=gz0;have ac:g∣q.den:=by{rw[hg];exact cH ..};have u:ZB m (g:Z):=hq.den.le (by simpa using dI o ac);refine⟨_,_,_,_,rfl,R3 (s.mono k) F hq.den u o o ?_⟩;intro s2 A2 n2 c2 h2 l il;rw[<- bH]at il;refine⟨_,_,_,_,rfl,l,R3 (f.mono (B6 k l)) (F.mono l) hp.den u o o ?_⟩;intro s3 A3 n3 c3 h3 N ir;rw[<- bH]at ir;have E:ZB m ((q.den/g:J):Z):=hq.den.le (by exact aV _ _);have t:ZB m ((p.den/g:J):Z):=hp.den.le (by exact aV _ _);have D:=B6 k (B6 l N);refine⟨_,_,_,_,rfl,N,I6 (i.num.mono D) (il.mono N) hp.num E o ?_⟩;intro s4 A4 n4 c4 h4 C i4;refine⟨_,_,_,_,rfl,C,I6 (j.num.mono (B6 D C)) (ir.mono C) hq.num t o ?_⟩;intro s5 A5 n5 c5 h5 G i5;refine⟨_,_,_,_,rfl,G,Fm (m:=2*m) (i4.mono G) i5 ((hp.num.mul E).mono o) ((hq.num.mul t).mono o) o ?_⟩;intro s6 A6 n6 c6 h6 V H;obtain⟨z,B⟩:∃z,z=p.num*((q.den/g:J):Z)+q.num*((p.den/g:J):Z):=⟨_,rfl⟩;rw[<- B]at H;have Q:ZB (2*m+1) z:=by{rw[B];exact((hp.num.mul E).mono (show m+m<=2*m from o)).add ((hq.num.mul t).mono (show m+m<=2*m from o))};have d:=B6 D (B6 C (B6 G V));refine⟨_,_,_,_,rfl,V,F6 H ⟨_,rfl,B9 (fun R=>?_) (fun R=>?_)⟩⟩;{have:p+q=0:=by{rw[<- dC];by_cases aa:p.den.gcd q.den=1;{have:=(A03 p q aa).1;grind};·have:=(A02 p q aa hg B rfl).1;rw[this,R];simp};rw[this]at hK;exact hK ⟨false,none,0,0,false,none,0,0⟩ _ d RQ.zero};·refine O1 (F.mono (B6 l (B6 N (B6 C (B6 G V))))) ⟨_,rfl,B9 (fun ag=>?_) (fun ag=>?_)⟩;{have n:g=1:=o;have c:=A03 p q o;rw[n,Nat.div_one,Nat.div_one]at B;refine I6 (f.mono d) (s.mono d) hp.den hq.den o ?_;intro s7 A7 n7 c7 h7 y S;refine⟨_,_,_,_,rfl,y,Y8 (q:=p+q) (H.mono y) S o o ?_⟩;intro w iw;exact⟨_,_,_,_,_,_,_,_,rfl,B8 _,hK _ _ (B6 d y) iw⟩};·have n:p.den.gcd q.den≠1:=o;obtain⟨r,hr⟩:∃r,r=z.natAbs.gcd g:=⟨_,rfl⟩;have c:=A02 p q n hg B hr;have ar:0<r:=gz0;have av:r<=g:=by{rw[hr];exact dI ae (cH ..)};have ak:=F.mono (B6 l (B6 N (B6 C (B6 G V))));refine Bp (gl.mono d) H ak Q (M u) o ?_;intro A7 n7 c7 h7 y S;have e7:aU z (g:Z)=r:=hr.symm;rw[e7]at S;have X:ZB m (r:Z):=u.le o;refine⟨_,_,_,_,rfl,R3 (H.mono y) S Q (M X) hm o ?_⟩;intro s8 A8 n8 c8 h8 T i8;refine⟨_,_,_,_,rfl,T,R3 (s.mono (B6 d (B6 y T))) (S.mono T) hq.den X o o ?_⟩;intro s9 A9 n9 c9 h9 l9 i9;rw[<- bH]at i9;have aj:ZB m ((q.den/r:J):Z):=hq.den.le (by exact aV _ _);refine⟨_,_,_,_,rfl,l9,I6 (ir.mono (B6 C (B6 G (B6 V (B6 y (B6 T l9)))))) i9 t aj o ?_⟩;intro an A10 ap am ao A ah;refine⟨_,_,_,_,rfl,A,Y8 (q:=p+q) (i8.mono (B6 l9 A)) ah c.1 o ?_⟩;intro w iw;exact⟨_,_,_,_,_,_,_,_,rfl,B8 _,hK _ _ (B6 d (B6 y (B6 T (B6 l9 A)))) iw⟩
def A9q(gl:Gtz h)(i:RQ h a p)(j:RQ h b q)(hp:Sz m p)(hq:Sz m q)(hm:2*m+1<=6400000000)(hK:∀w h',h.le h'->RQ h' w (p-q)->K w.v h'):aK prog 138 #[a.v,b.v] h K:=by refine C25 _ _ _ _ _ _ _ _ _ _ _ _ _ _ _ _ ?_;refine A9t j ?_;intro d c;refine⟨_,_,_,_,_,_,_,_,rfl,B8 _,Kn gl i c hp hq.neg hm ?_⟩;grind
end
structure Gl (h:aM):Prop where
 tz:Gtz h
 p10:Gp h
def Gl.mono{h h':aM}(g:Gl h)(l:h.le h'):Gl h':=⟨g.tz.mono l,g.p10.mono l⟩
section
variable {h h':aM} {K:VP} {A B:Option aN} {n c n' c':J} {s s':Bool} {x y z:Z} {m:J} {p q:Rat} {a b w:QV} {l:Y UInt8}
def Qu(gl:Gtz h)(i:RQ h a p)(j:RQ h b q)(hp:Sz m p)(hq:Sz m q)(hm:m<=6400000000)(hK:∀w h',h.le h'->RQ h' w (p*q)->K w.v h'):aK prog 74 #[a.v,b.v] h K:=by have W:=p.den_nz;have T:=q.den_nz;refine C27 _ _ _ _ _ _ _ _ _ _ _ _ _ _ _ _ ?_;refine⟨fun L hp=>L=[.bool (decide (p.num=0\/q.num=0))]/\hp=h,F6 i.num ⟨_,rfl,B9 (fun e=>?_) (fun e=>?_)⟩,?_⟩;{grind};{exact F6 j.num ⟨_,rfl,by simp[e],rfl⟩};rintro n t ⟨Q,rfl⟩;obtain rfl:n=decide (p.num=0\/q.num=0):=gz0;refine B9 (fun e=>?_) (fun e=>?_);{have:p*q=0:=by{rw[dC,dC]at e;grind};rw[this]at hK;exact hK ⟨false,none,0,0,false,none,0,0⟩ _ (B8 _) RQ.zero};·refine⟨fun L hp=>L=[.bool (decide (p.den=1/\q.den=1))]/\hp=t,T4 i ⟨_,rfl,B9 (fun e=>?_) (fun e=>?_)⟩,?_⟩;{exact T4 j ⟨_,rfl,by simp[e],rfl⟩};{grind};rintro l M ⟨Q,rfl⟩;obtain rfl:l=decide (p.den=1/\q.den=1):=gz0;refine B9 (fun e=>?_) (fun e=>?_);{refine I6 i.num j.num hp.num hq.num o ?_;intro C A1 D c1 O f i1;refine⟨_,_,_,_,rfl,hK ⟨C,A1,D,c1,false,none,0,0⟩ _ f ?_⟩;have:=RQ.whole i1;rw[Rat.intCast_mul,<- Zq e.1,<- Zq e.2]at this;exact this};·have r:=B3c p q;refine Do j ?_;intro C A1 D c1 O f S;refine⟨_,_,_,_,rfl,f,Xg (gl.mono f) (i.num.mono f) S hp.num hq.den hm o ?_⟩;intro s2 A2 n2 c2 s3 A3 n3 c3 h2 E A u;have c:=B6 f E;refine⟨_,_,_,_,_,_,_,_,rfl,E,Do (i.mono c) ?_⟩;intro s4 A4 n4 c4 h4 d z;refine⟨_,_,_,_,rfl,d,Xg (gl.mono (B6 c d)) (j.num.mono (B6 c d)) z hq.num hp.den hm o ?_⟩;intro s5 A5 n5 c5 s6 A6 n6 c6 h5 g B y;have X:aU p.num (q.den:Z)=aS p.num.natAbs q.den:=rfl;have R:aU q.num (p.den:Z)=aS q.num.natAbs p.den:=rfl;rw[X]at A u;rw[R]at B y;rw[<- bH]at u y;refine⟨_,_,_,_,_,_,_,_,rfl,g,I6 (A.mono (B6 d g)) B hp.num.tdiv hq.num.tdiv o ?_⟩;intro s7 A7 n7 c7 h7 k N;have G:ZB m ((p.den/aS q.num.natAbs p.den:J):Z):=hp.den.le (by exact aV _ _);have V:ZB m ((q.den/aS p.num.natAbs q.den:J):Z):=hq.den.le (by exact aV _ _);refine⟨_,_,_,_,rfl,k,I6 (y.mono k) (u.mono (B6 d (B6 g k))) G V o ?_⟩;intro s8 A8 n8 c8 h8 s H;refine⟨_,_,_,_,rfl,s,Y8 (q:=p*q) (N.mono s) H r.1 o ?_⟩;intro w F;exact⟨_,_,_,_,_,_,_,_,rfl,B8 _,hK _ _ (B6 c (B6 d (B6 g (B6 k s)))) F⟩
def A0x(i:RQ h w q)(hK:∀w h',h.le h'->RQ h' w q⁻¹->K w.v h'):aK prog 311 #[w.v] h K:=by refine(fnk func311 (os:=[(5,[0,3,4,1,2,5,6,7]),(6,[0,2,3,1,4,5])]) (own:=[1,2])) ?_;refine Cw i.num ⟨_,rfl,D4 (fun e=>?_) (fun e=>?_)⟩;{have:q⁻¹=0:=by{simp_all};rw[this]at hK;exact hK ⟨false,none,0,0,false,none,0,0⟩ _ (B8 _) RQ.zero};·have f:q.num≠0:=fun p=>e gz0;refine D4 (fun d=>?_) (fun d=>?_);{have g:q.num<0:=Int.sign_neg_iff.1 o;refine Do i ?_;intro n A1 k c1 m a i1;refine⟨_,_,_,_,rfl,a,Z8 i1 ?_⟩;intro s l;refine⟨_,_,_,_,rfl,B8 _,Z8 (i.num.mono a) ?_⟩;intro r j;refine⟨_,_,_,_,rfl,B8 _,Y8 (q:=q⁻¹) l j ?_ ?_ ?_⟩;{rw[Rat.num_inv,d];omega};{rw[Rat.den_inv,iN f];omega};·intro w c;exact⟨_,_,_,_,_,_,_,_,rfl,B8 _,hK _ _ a c⟩};·have b:0<q.num:=by{grind};refine Do i ?_;intro n A1 k c1 m a i1;refine⟨_,_,_,_,rfl,a,Y8 (q:=q⁻¹) i1 (i.num.mono a) ?_ ?_ ?_⟩;{rw[Rat.num_inv,bU b,Int.one_mul]};{rw[Rat.den_inv,iN f];omega};·intro w c;exact⟨_,_,_,_,_,_,_,_,rfl,B8 _,hK _ _ a c⟩
def Zd(gl:Gtz h)(i:RQ h a p)(j:RQ h b q)(hp:Sz m p)(hq:Sz m q)(hm1:1<=m)(hm:m<=6400000000)(hK:∀w h',h.le h'->RQ h' w (p/q)->K w.v h'):aK prog 284 #[a.v,b.v] h K:=by refine C28 _ _ _ _ _ _ _ _ _ _ _ _ _ _ _ _ ?_;refine A0x j ?_;intro g l c e;refine⟨_,_,_,_,_,_,_,_,rfl,c,Qu (gl.mono c) (i.mono c) e hp (hq.inv hm1) hm ?_⟩;intro n k d f;exact⟨_,_,_,_,_,_,_,_,rfl,d,hK _ _ (B6 c d) f⟩
def C5n(p q:Rat):Z:=Gr (p.num*q.den) (q.num*p.den)
def B4p:C5n p q<0↔p<q:=by rw[Rat.lt_iff];unfold C5n Gr;omega
def A16(i:RQ h a p)(j:RQ h b q)(hp:Sz m p)(hq:Sz m q)(hm:2*m<=1152000000000000)(hK:K (I (C5n p q)) h):aK prog 198 #[a.v,b.v] h K:=by have z:=p.den_nz;have u:=q.den_nz;refine FCall.pure ((fnk func198 (cs:=[(2,[19],[],[.bool false])]) (os:=[(1,[0,1,2,3,4,5,6,7,8,9,11,10,12,13,14]),(3,[0,1,2,5,6,7,3,4,8,9,10,11])]) (own:=[2,3])) ?_);refine⟨fun L hp=>L=[.bool (decide ((p.den=1/\q.den=1)\/p.num.sign≠q.num.sign))]/\hp=h,T4 i ⟨_,rfl,B8 _,B9 (fun e=>T4 j ⟨_,rfl,B8 _,B9 (fun g=>?_) (fun g=>?_)⟩) (fun e=>?_)⟩,?_⟩;{exact⟨by simp[e,g],rfl⟩};{refine Dn i ⟨_,rfl,B8 _,Dn j ⟨_,rfl,B8 _,?_,rfl⟩⟩;simp[g,bne];rw[cP];simp};{refine Dn i ⟨_,rfl,B8 _,Dn j ⟨_,rfl,B8 _,?_,rfl⟩⟩;simp[e,bne];rw[cP];simp};rintro l s ⟨t,rfl⟩;obtain rfl:l=decide ((p.den=1/\q.den=1)\/p.num.sign≠q.num.sign):=by{simpa using t};refine B9 (fun e=>?_) (fun e=>?_);{refine Gs i.num j.num hp.num hq.num o ⟨_,rfl,B8 _,?_⟩;have:Gr p.num q.num=C5n p q:=by{unfold C5n;rcases e with e|e;{rw[e.1,e.2];simp};·exact(C00 o o e).symm};rw[this];exact hK};·refine Do j ?_;intro H A1 O c1 G c n;refine⟨_,_,_,_,rfl,c,I6 (i.num.mono c) n hp.num hq.den o ?_⟩;intro E A2 Q c2 B f r;refine⟨_,_,_,_,rfl,f,Do (i.mono (B6 c f)) ?_⟩;intro N A3 C c3 M d w;refine⟨_,_,_,_,rfl,d,I6 (j.num.mono (B6 c (B6 f d))) w hq.num hp.den o ?_⟩;intro A A4 D c4 F k y;refine⟨_,_,_,_,rfl,k,Gs (m:=m+m) (r.mono (B6 d k)) y (hp.num.mul hq.den) (hq.num.mul hp.den) o ⟨_,rfl,B8 _,?_⟩⟩;exact⟨B6 c (B6 f (B6 d k)),hK⟩
def Rq{t:Y UInt8}{k:J}(h:∀c∈t,I8 c)(hk:t.length<=k):ZB (4*k) (K9 t:Z):=by exact aR (Dx h) (aI dc o)
def Form.lens{neg:Bool}{a b:Y UInt8}(f:Form l neg a b):a.length<=l.length/\b.length<=l.length:=by have:=congrArg List.length f.eq;grind
def Qw(gl:Gtz h)(hl:l.length<=140737488351232)(hK1:∀q,l=E7 q->∀w h',h.le h'->RQ h' w q->K (.tuple #[w.v,.bool true]) h')(hK0:¬IsNum l->∀(w:QV) h',h.le h'->RQ h' w 0->K (.tuple #[w.v,.bool false]) h'):aK prog 142 #[.string (bs l)] h K:=by refine(fnk func142 (cs:=[(7,[],[(6,4)],[.bool false,.slice none 0 0,.bool false,.slice none 0 0])]) (own:=[2,4,6])) ?_;refine Qs o ?_ ?_;{intro neg a b f;refine⟨_,_,_,_,rfl,Br.not ?_⟩;have H:=f.lens;refine Ko f.da o ?_;intro A1 R c1 G s i1;refine⟨_,_,_,_,rfl,?_⟩;refine⟨fun L hp=>∃i:Bool,L=[.bool i,.slice A1 R c1,.bool false,.slice none 0 0]/\hp=G/\ZI G i A1 R c1 (Tk neg a),Br.of (fun e=>?_) (fun e=>?_),?_⟩;{refine Z8 i1 ?_;intro i t;exact⟨_,_,_,_,rfl,i,rfl,rfl,by unfold Tk;grind⟩};{exact⟨false,rfl,rfl,by unfold Tk;grind⟩};rintro D p n d x2 W aa ac V ⟨i,M,rfl,t⟩;simp only[List.cons.injEq,Value.slice.injEq,Value.bool.injEq,and_true]at M;obtain⟨rfl,⟨rfl,rfl,rfl⟩,rfl,rfl,rfl,rfl⟩:=M;have j:(Tk neg a).natAbs=K9 a:=by{unfold Tk;omega};rw[W6];refine B9 (fun u=>?_) (fun u=>?_);{subst u;obtain⟨q,g⟩:=f.isNum.2 (by unfold Np;simp);obtain⟨F,A⟩:=f.of_txt g;refine hK1 q g ⟨D,p,n,d,false,none,0,0⟩ _ s ⟨gz0,?_⟩;rw[A,show Np []=1 from rfl,iP rfl];exact ZI.zero};·refine Ko f.db o ?_;intro A4 S c4 h4 m N;have C:ZB (4*l.length) (Tk neg a):=(Rq f.da (k:=l.length) o).le o;refine⟨_,_,_,_,rfl,Bp (gl.mono (B6 s m)) (t.mono m) N C (Rq f.db (k:=l.length) o) o ?_⟩;intro A5 n5 c5 h5 r T;refine⟨_,_,_,_,rfl,O1 T ⟨_,rfl,?_⟩⟩;have c:Np b=K9 b:=by{unfold Np;grind};have z:aU (Tk neg a) (K9 b:Z)=aS (K9 a) (Np b):=by{rw[c];show aS (Tk neg a).natAbs (K9 b)=_;rw[j]};rw[z];refine Br.not (B9 (fun Q=>?_) (fun Q=>?_));{obtain⟨q,g⟩:=f.isNum.2 o;obtain⟨F,A⟩:=f.of_txt g;have y:Np b≠1:=by{intro X;have O:=Pv f.db u (.inl f.hb);rw[<- c,X]at O;apply f.b1;rw[<- O];simp[T7,Fz,Q7,dch]};refine hK1 q g ⟨D,p,n,d,false,A4,S,c4⟩ _ (B6 s (B6 m r)) ⟨by rw[F];exact t.mono (B6 m r),?_⟩;rw[A,iN y,c];exact N.mono r};·refine hK0 ?_ ⟨false,none,0,0,false,none,0,0⟩ _ (B6 s (B6 m r)) RQ.zero;intro B;exact Q (by rw[f.isNum.1 B];rfl)};·intro hf neg a b;refine⟨_,_,_,_,rfl,Br.not ?_⟩;refine hK0 ?_ ⟨false,none,0,0,false,none,0,0⟩ _ (B8 _) RQ.zero;intro B;obtain⟨E,a',b',f⟩:=B.form;grind
def Cx(gl:Gtz h)(hl:l.length<=140737488351232)(hK:∀w h',h.le h'->RQ h' w (rv l)->K w.v h'):aK prog 71 #[.string (bs l)] h K:=by refine(fnk func71 (own:=[2,3])) ?_;refine Qw gl hl ?_ ?_;{intro q e w a b i1;exact⟨_,_,_,_,_,_,_,_,_,rfl,hK w a b (by rw[e,F3];exact i1)⟩};·intro c w a b i1;exact⟨_,_,_,_,_,_,_,_,_,rfl,hK w a b (by rw[B23 c];exact i1)⟩
def Z1(gp:Gp h)(i:RQ h w q)(hq:Sz m q)(hm:m<=40000000)(hK:K (.string (bs (E7 q))) h):aK prog 73 #[w.v] h K:=by refine FCall.pure ((fnk func73 (own:=[1])) ?_);refine T4 i ⟨_,rfl,B9 (fun e=>?_) (fun e=>?_)⟩;{rw[A0g e]at hK;refine A5t i.num (fun f j=>?_) (fun f=>?_);{refine⟨_,_,rfl,Br.of (fun _=>(fnk func67) ?_) (fun e=>by cases e)⟩;exact Fe gp f j ⟨_,rfl,_,rfl,B8 _,hK⟩};·refine⟨_,_,rfl,Br.of (fun e=>by cases e) (fun _=>?_)⟩;exact A2h gp i.num hq.num o ⟨_,rfl,B8 _,hK⟩};·rw[A2w e]at hK;have c:=i.den;rw[iN e]at c;refine Ip (l:=[]) (eT:=5) gp (Priv.nil _ _ _ _) i.num hq.num o o ?_;intro A1 D c1 B z f g;refine⟨_,_,_,rfl,?_⟩;have s:(Qp q.num).length<=50000000:=by{unfold Qp;have:=Dy hq.num;grind};have r:=g.len;refine Hf (ch:=47) rfl g.priv o ?_;intro A2 E c2 y u j k;have b:=g.trans k;have d:=b.len;rw[aL,cT]at d;refine Ip (gp.mono b.le) k.priv (c.mono b.le) hq.den o o ?_;intro A3 t c3 C F A p;refine⟨_,_,_,rfl,?_⟩;have a:=b.trans p;have n:=a.len;refine Ki Fp.und Dk Y9 a.priv.slV gz0 ⟨_,rfl,?_⟩;refine⟨B6 a.le a.priv.le,?_⟩;assumption
end
structure Tx (m:J) (l:Y UInt8):Prop where
 len:l.length<=140737488351232
 sz:Sz m (rv l)
def B5t{m:J}{z:Z}(h:ZB m z):(Qp z).length<=m+2:=by have:=Dy h;unfold Qp;grind
def Oa{m:J}{q:Rat}(h:Sz m q):(E7 q).length<=2*m+4:=by have a:=B5t h.num;have b:=Dy (n:=q.den) (m:=m) (by have:=h.den;assumption);unfold E7;grind
def Tx.of{m:J}{q:Rat}(h:Sz m q)(hm:m<=40000000):Tx m (E7 q):=⟨by have:=Oa h;omega,by rw[F3];exact h⟩
def St{x y:Z}(hx:x.natAbs<1000000000)(hy:y.natAbs<1000000000):(x*y).natAbs<1000000000000000000:=by rw[Int.natAbs_mul];exact Nat.mul_lt_mul'' hx hy
def B1o(q:Rat):∃c r,E7 q=c::r/\(c=45↔q<0):=by have f:=Fo q;have a:E7 q≠[]:=by{intro e;have:=f.eq;rw[e]at this;have d:=f.ne;have:=congrArg List.length this;simp only[aL,List.length_nil]at this;exact d (aO o)};obtain⟨c,r,e⟩:=bC a;refine⟨c,r,e,?_⟩;have b:=f.head;rw[e,dF,cP,decide_eq_true_iff,beq_iff_eq,aW]at b;rw[<- b,Rat.lt_iff];simp
def A7v{q:Rat}(h:q<0):E7 q=45::E7 (-q):=by have a:q.num<0:=by{have:=(Rat.lt_iff q 0).1 h;simp_all};unfold E7;rw[Rat.neg_num,Rat.neg_den,Tu a,Ob (i:=-q.num) o,Int.natAbs_neg];simp
def B5s:E7 0=[48]:=by rfl
section
variable {h:aM} {K:VP} {m:J} {a b:Y UInt8}
def Qo(gl:Gl h)(hl:a.length<=140737488351232)(hK1:IsNum a->K (.bool true) h)(hK0:¬IsNum a->K (.bool false) h):aK prog 89 #[.string (bs a)] h K:=by refine FCall.pure ((fnk func89 (os:=[(7,[0,1,3,4,2,5,6,7,8])]) (own:=[3,5])) ?_);refine Ez ?_ ?_;{intro q e _ _;exact⟨_,_,_,rfl,Br.of (fun _=>⟨B8 _,hK1 ⟨q,e⟩⟩) (fun e=>by cases e)⟩};·refine⟨_,_,_,rfl,Br.of (fun e=>by cases e) (fun _=>?_)⟩;refine Qs o ?_ ?_;{intro neg x y f;refine⟨_,_,_,_,rfl,Br.of (fun e=>by cases e) (fun _=>?_)⟩;have j:=f.lens;rw[W6];refine B9 (fun e=>?_) (fun e=>?_);{subst e;exact⟨B8 _,hK1 (f.isNum.2 (by unfold Np;simp))⟩};·refine Ko f.da o ?_;intro A1 B c1 w d i1;refine⟨_,_,_,_,rfl,d,Ko f.db o ?_⟩;intro A2 C c2 r b m;refine⟨_,_,_,_,rfl,b,Bp (gl.tz.mono (B6 d b)) (i1.mono b) m (Rq f.da (k:=a.length) o) (Rq f.db (k:=a.length) o) o ?_⟩;intro A3 t c3 A l p;refine⟨_,_,_,_,rfl,l,O1 p ⟨_,rfl,B8 _,B6 d (B6 b l),?_⟩⟩;rw[dL];have g:Np y=K9 y:=by{unfold Np;grind};by_cases n:aS (K9 x) (K9 y)=1;{rw[decide_eq_true o];exact hK1 (f.isNum.2 gz0)};·rw[decide_eq_false o];exact hK0 (fun c=>n (by rw[<- g];exact f.isNum.1 c))};·intro z neg x y;refine⟨_,_,_,_,rfl,Br.of (fun _=>⟨B8 _,hK0 ?_⟩) (fun e=>by cases e)⟩;intro c;obtain⟨i,u,s,f⟩:=c.form;grind
def B1s(gl:Gl h)(hl:a.length<=140737488351232)(hK:K (.string (bs (E7 (-rv a)))) h):aK prog 98 #[.string (bs a)] h K:=by refine(fnk func98) ?_;have d:((bs a).toList==({data:=#[48] }:ByteArray).toList)=decide (a=[48]):=Ib a [48];rw[d];refine B9 (fun e=>?_) (fun e=>?_);{subst e;assumption};·refine Qo gl hl ?_ ?_;{rintro⟨q,rfl⟩;rw[F3]at hK;have k:q≠0:=by{rintro rfl;exact e B5s};obtain⟨c,r,i,l⟩:=B1o q;refine⟨_,rfl,Br.not ?_⟩;refine⟨c,⟨o,by rw[Zz,i];rfl⟩,D4 (fun f=>?_) (fun f=>?_)⟩;{have g:c=45:=by{apply UInt8.toNat_inj.1;grind};have b:=A7v (l.1 g);rw[b,J2];refine⟨⟨o,gz0⟩,?_⟩;rw[R8,show((1:Z)).toNat=1 from rfl,aJ (by simp),List.drop_succ_cons,bF];exact hK};·have g:¬q<0:=fun n=>f (by simp_all);have j: -q<0:=by{grind};rw[A7v j,Rat.neg_neg]at hK;refine⟨?_,?_⟩;{show(((bs [45]).size+(bs (E7 q)).size:J):Z)<=_;rw[J2,J2];grind};assumption};·intro m;rw[B23 m,Rat.neg_zero,B5s]at hK;exact⟨_,rfl,Br.not hK⟩
def Is(gl:Gl h)(ta:Tx m a)(tb:Tx m b)(hm:2*m+1<=40000000)(hK:K (.string (bs (E7 (rv a+rv b)))) h):aK prog 28 #[.string (bs a),.string (bs b)] h K:=by refine FCall.pure ((fnk func28 (own:=[5,6])) ?_);refine Jb ?_ ?_;{intro p q j s g k i y;rw[j,s,F3,F3,Gi]at hK;refine⟨_,_,_,_,_,rfl,Br.of (fun _=>?_) (fun e=>by cases e)⟩;have w:=St g (show((q.den:J):Z).natAbs<1000000000 from o);have A:=St i (show((p.den:J):Z).natAbs<1000000000 from o);have C:=St (show((p.den:J):Z).natAbs<1000000000 from o) (show((q.den:J):Z).natAbs<1000000000 from o);rw[C0 (n:=p.num*q.den) o o,C0 (n:=q.num*p.den) o o,C0 (n:=(p.den:Z)*q.den) o o,C0 o o];exact Ce gl.p10 (dG (den_ne p) (den_ne q)) o o ⟨_,rfl,B8 _,hK⟩};·refine⟨_,_,_,_,_,rfl,Br.of (fun e=>by cases e) (fun _=>?_)⟩;refine Cx gl.tz ta.len ?_;intro u g d i1;refine⟨_,_,_,_,_,_,_,_,rfl,Cx (gl.tz.mono d) tb.len ?_⟩;intro B k f r;refine⟨_,_,_,_,_,_,_,_,rfl,Kn (gl.tz.mono (B6 d f)) (i1.mono f) r ta.sz tb.sz o ?_⟩;intro z i t l;have c:=B6 d (B6 f t);exact⟨_,_,_,_,_,_,_,_,rfl,Z1 (gl.p10.mono c) l (ta.sz.add tb.sz) o ⟨_,rfl,c,hK⟩⟩
def A2y(gl:Gl h)(ta:Tx m a)(tb:Tx m b)(hm:2*m+1<=40000000)(hK:K (.string (bs (E7 (rv a-rv b)))) h):aK prog 68 #[.string (bs a),.string (bs b)] h K:=by refine FCall.pure ((fnk func68 (own:=[5,6])) ?_);refine Jb ?_ ?_;{intro p q j s g k i y;have hs:p-q=cF (p.num*q.den-q.num*p.den) (p.den*q.den):=by{rw[Rat.sub_eq_add_neg,Gi,Rat.neg_num,Rat.neg_den,Int.neg_mul,<- Int.sub_eq_add_neg]};rw[j,s,F3,F3,hs]at hK;refine⟨_,_,_,_,_,rfl,Br.of (fun _=>?_) (fun e=>by cases e)⟩;have w:=St g (show((q.den:J):Z).natAbs<1000000000 from o);have A:=St i (show((p.den:J):Z).natAbs<1000000000 from o);have C:=St (show((p.den:J):Z).natAbs<1000000000 from o) (show((q.den:J):Z).natAbs<1000000000 from o);rw[C0 (n:=p.num*q.den) o o,C0 (n:=q.num*p.den) o o,C0 (n:=(p.den:Z)*q.den) o o,C0 o o];exact Ce gl.p10 (dG (den_ne p) (den_ne q)) o o ⟨_,rfl,B8 _,hK⟩};·refine⟨_,_,_,_,_,rfl,Br.of (fun e=>by cases e) (fun _=>?_)⟩;refine Cx gl.tz ta.len ?_;intro u g d i1;refine⟨_,_,_,_,_,_,_,_,rfl,Cx (gl.tz.mono d) tb.len ?_⟩;intro B k f r;refine⟨_,_,_,_,_,_,_,_,rfl,A9q (gl.tz.mono (B6 d f)) (i1.mono f) r ta.sz tb.sz o ?_⟩;intro z i t l;have c:=B6 d (B6 f t);exact⟨_,_,_,_,_,_,_,_,rfl,Z1 (gl.p10.mono c) l (ta.sz.sub tb.sz) o ⟨_,rfl,c,hK⟩⟩
def Dl(gl:Gl h)(ta:Tx m a)(tb:Tx m b)(hm:2*m<=40000000)(hK:K (.string (bs (E7 (rv a*rv b)))) h):aK prog 29 #[.string (bs a),.string (bs b)] h K:=by refine FCall.pure ((fnk func29 (own:=[5,6])) ?_);refine Jb ?_ ?_;{intro p q j s g k i y;rw[j,s,F3,F3,Kq]at hK;refine⟨_,_,_,_,_,rfl,Br.of (fun _=>?_) (fun e=>by cases e)⟩;have w:=St g i;have B:=St (show((p.den:J):Z).natAbs<1000000000 from o) (show((q.den:J):Z).natAbs<1000000000 from o);rw[C0 (n:=p.num*q.num) o o,C0 (n:=(p.den:Z)*q.den) o o];exact Ce gl.p10 (dG (den_ne p) (den_ne q)) o o ⟨_,rfl,B8 _,hK⟩};·refine⟨_,_,_,_,_,rfl,Br.of (fun e=>by cases e) (fun _=>?_)⟩;refine Cx gl.tz ta.len ?_;intro u g d i1;refine⟨_,_,_,_,_,_,_,_,rfl,Cx (gl.tz.mono d) tb.len ?_⟩;intro A k f r;refine⟨_,_,_,_,_,_,_,_,rfl,Qu (gl.tz.mono (B6 d f)) (i1.mono f) r ta.sz tb.sz o ?_⟩;intro z i t l;have c:=B6 d (B6 f t);exact⟨_,_,_,_,_,_,_,_,rfl,Z1 (gl.p10.mono c) l (ta.sz.mul tb.sz) o ⟨_,rfl,c,hK⟩⟩
end
def C85(h:aM)(r:bZ)(h':aM):Prop:=r= .bool true/\h.le h'
def C04{x:Y UInt8}{k:J}(hl:x.length<=k)(hk:1<=k):Sz (4*k) (rv x):=by by_cases d:IsNum x;{obtain⟨neg,a,b,f⟩:=d.form;obtain⟨i,g⟩:=f.rv_num d;have e:=f.lens;have c:(Tk neg a).natAbs=K9 a:=by{unfold Tk;split<;>simp};refine⟨?_,?_⟩;{rw[i];exact(Rq f.da (k:=k) o).le (by rw[c,Int.natAbs_natCast];exact bN _)};·rw[g];unfold Np;split;{exact ZB.one o};·exact Rq f.db o};·rw[B23 d];exact Sz.zero o
end Go.Proofs.YteppbhimdjmabaaGreatDoor
namespace Go.Proofs.YteppbhimdjmabaaGreatDoor
set_option maxRecDepth 20000
open Go Go.RowKit
def memOf(W:World):aM:=fun b=>W.heap[b]?
def frame_of{P:cW}{f:FuncId}{args:Array bZ}{W:World}(x:aK P f args (memOf W) (C85 (memOf W))):Calls P f args W fun e w'=>e= .returned (.bool true)/\Below W.heap.size W w':=by refine(x W (fun b o e=>e)).mono ?_;rintro e W' ⟨r,l,i,⟨j,c⟩,a⟩;subst j;refine⟨i,a.os,a.tape,a.output,a.size,fun k g=>?_⟩;have d:memOf W k=some W.heap[k]:=Array.getElem?_eq_getElem g;have:=a.sim k _ (c k _ d);rw[this];exact d.symm
def Kt{W:World}{a:aN}{v:bZ}(e:W.cell? a=some v):(memOf W).cell? a=some v:=by unfold World.cell? at e;unfold Heap.cell? memOf;exact e
def A8l{P:cW}{W:World}{x:String×DataW Unit}{rest:Y (String×DataW Unit)}(h:laidMet P (x::rest) W):laidMet P rest W:=by obtain⟨n,d⟩:=x;obtain⟨ps,⟨g,t,cs,a,p,q,l,j,m,k,f,rfl⟩,c,e⟩:=h;exact⟨q,f,(List.nodup_append.1 c).2.1,fun b off i=>e b off (List.mem_append_right _ i)⟩
def C6d:Y Z:=[0,1,28,2,29,14,24,3,30,22,20,15,25,17,4,8,31,27,13,23,21,19,16,7,26,12,18,6,11,5,10,9]
def B60:Y Z:=[0,1,56,2,57,49,28,3,61,58,42,50,38,29,17,4,62,47,59,36,45,43,51,22,53,39,33,30,24,18,12,5,63,55,48,27,60,41,37,16,46,35,44,21,52,32,23,11,54,26,40,15,34,20,31,10,25,14,19,9,13,8,7,6]
def B9q:Y Z:=[1,10,100,1000,10000,100000,1000000,10000000,100000000,1000000000,10000000000,100000000000,1000000000000,10000000000000,100000000000000,1000000000000000,10000000000000000,100000000000000000,1000000000000000000,10000000000000000000]
def B8x:prog.globalNamed "math/bits.deBruijn64tab" = some 1:=by kernel_rfl
def B8y:prog.globalNamed "internal/strconv.uint64pow10" = some 0:=by kernel_rfl
def tabs_gl{W:World}(h:laidMet prog [("math/bits.deBruijn32tab",Rows.laid_math_bits_deBruijn32tab),("math/bits.deBruijn64tab",Rows.laid_math_bits_deBruijn64tab),("internal/strconv.uint64pow10",Rows.laid_internal_strconv_uint64pow10)] W):Gl (memOf W):=by have i:=A8l h;have j:=A8l i;have e:Lib.TabIs prog W "math/bits.deBruijn64tab" .u8 B60:=Lib.tabIs_of_head (rest:=[("internal/strconv.uint64pow10",Rows.laid_internal_strconv_uint64pow10)]) B8x (by kernel_rfl) underlying415 underlying5 (by kernel_rfl) (by kernel_rfl) i;have g:Lib.TabIs prog W "internal/strconv.uint64pow10" .u64 B9q:=Lib.tabIs_of_head (rest:=[]) B8y (by kernel_rfl) underlying397 underlying161 (by kernel_rfl) (by kernel_rfl) j;have d:∀k,k<64->A60 k<B60.length/\B60.getD (A60 k) 0=(k:Z):=by{decide +kernel};have f:∀k,k<20->B9q.getD k 0=((10^k:J):Z):=by{decide +kernel};refine⟨fun k c=>?_,fun k c=>?_⟩;{obtain⟨a,b⟩:=d k c;have:=Kt (e.cell B8x (A60 k) a);rw[D9,aY,cD,this,b]};·have:=Kt (g.cell B8y k (by show k<20;exact c));rw[D9,aY,cD,this,f k c]
def B3m(zs:Y Z)(k:IntKind):Obj->Obj
 |.cells _ t frozen=>.cells (zs.map (aP k)).toArray t frozen
 |o=>o
def layTabs(a:Array Obj):Array Obj:=((a.modify 4 (B3m C6d .u8)).modify 1 (B3m B60 .u8)).modify 0 (B3m B9q .u64)
section
set_option maxRecDepth 100000
variable {h:aM} {K:VP}
end
section
set_option maxRecDepth 100000
variable {h:aM} {K:VP}
def Oe:cQ prog 38 3 (I 0) 1 8:=⟨by kernel_rfl,by kernel_rfl,rfl,dc⟩
def Up:prog.cellsOf 3=1/\(prog.info? 3).isSome=true:=⟨by kernel_rfl,by kernel_rfl⟩
def A0k:cQ prog 128 143 (Qv false none 0 0 false none 0 0) 4 64:=⟨by kernel_rfl,by kernel_rfl,rfl,dc⟩
def Gy:prog.cellsOf 143=4/\(prog.info? 143).isSome=true:=⟨by kernel_rfl,by kernel_rfl⟩
def tZs:cQ prog 114 118 (Zv false none 0 0) 2 32:=⟨by kernel_rfl,by kernel_rfl,rfl,dc⟩
def Uo:prog.cellsOf 118=2/\(prog.info? 118).isSome=true:=⟨by kernel_rfl,by kernel_rfl⟩
def C62:cQ prog 29 28 (N0) 1 24:=⟨by kernel_rfl,by kernel_rfl,rfl,dc⟩
def C6e:cQ prog 387 390 (.agg #[Sl none 0 0,.bool false,Sl none 0 0]) 3 56:=⟨by kernel_rfl,by kernel_rfl,rfl,dc⟩
def B1u:cQ prog 23 22 (N0) 1 24:=⟨by kernel_rfl,by kernel_rfl,rfl,dc⟩
def A2d:∀(args:Array bZ) (W:World),(callFunc 290 args).run prog W= .ok (.enter 290 args) W:=call290
end
section
set_option maxRecDepth 100000
variable {h:aM} {K:VP}
def C8s:cQ prog 123 64 (.agg #[.string ({data:=#[] }:ByteArray),.string ({data:=#[] }:ByteArray)]) 2 32:=⟨by kernel_rfl,by kernel_rfl,rfl,dc⟩
end
section
set_option maxRecDepth 100000
variable {h:aM} {K:VP}
end
section
set_option maxRecDepth 100000
variable {h:aM} {K:VP}
def C2w:cQ prog 186 185 (.agg #[.string ({data:=#[] }:ByteArray),N0]) 2 40:=⟨by kernel_rfl,by kernel_rfl,rfl,dc⟩
def A0l:cQ prog 347 406 (.agg #[I 0,I 0,I 0,I 0,I 0,I 0,.bool false,Sl none 0 0,.bool false,Sl none 0 0]) 10 112:=⟨by kernel_rfl,by kernel_rfl,rfl,dc⟩
def B2c:prog.cellsOf 143=4/\(prog.info? 143).isSome=true:=⟨by kernel_rfl,by kernel_rfl⟩
end
def Xb:Y Z->Z->Z
 | [],d=>d
 |e::r,d=>if e<0\/e>24-d then -1 else Xb r (d+e)
def B4g(xs:Y Z):Z:=if xs.length>6 then -1 else Xb xs 0
def W9(xs:Y Z):Bool:=decide (0<=B4g xs)
def B0u{xs:Y Z}{k:J}{d:Z}(hk:k<xs.length):Xb (xs.drop k) d=if xs.getD k 0<0\/xs.getD k 0>24-d then -1 else Xb (xs.drop (k+1)) (d+xs.getD k 0):=by rw[bJ hk,Xb];simp[List.getD,hk]
def Pd{xs:Y Z}{A:Option aN}{c:J}{h:aM}{K:VP}(s:SlI .i64 h A xs)(hK:K (I (B4g xs)) h):aK prog 248 #[.slice A xs.length c] h K:=by refine(fnk func248 [(5,[3,11],[],[I 0,I 0])]) ?_;refine B9 (fun t=>?_) (fun t=>?_);{have:xs.length>6:=o;simpa[B4g,this]using hK};·have q:¬xs.length>6:=o;refine⟨fun l p=>∃(k:J) (d:Z),l=[I d,I k]/\k<=xs.length/\0<=d/\d<=24/\B4g xs=Xb (xs.drop k) d/\p=h,fun l _=>xs.length-(iAt l 1).toNat,⟨0,0,rfl,o,o,o,by simp[B4g,q],rfl⟩,?_⟩;rintro a i w ⟨k,d,hl,y,u,m,e,rfl⟩;obtain⟨rfl,rfl⟩:a=d/\i=(k:Z):=by{simpa using hl};refine B9 (fun r=>?_) (fun r=>?_);{refine s.load rfl o o ?_;have hkl:k<xs.length:=o;rw[aC];have b:=B0u (d:=a) hkl;have j:C4 (24-a)=24-a:=C0 o o;refine B9 (fun g=>?_) (fun g=>?_);{rw[e,b,iP (.inl g)]at hK;exact hK};·rw[j];refine B9 (fun f=>?_) (fun f=>?_);{rw[e,b,iP (.inr f)]at hK;exact hK};·rw[C0 (n:=a+xs.getD k 0) o o,C0 (n:=(k:Z)+1) o o];refine⟨⟨k+1,a+xs.getD k 0,by simp,o,o,o,?_,rfl⟩,by simp only[iAt,aH,aF];omega⟩;rw[e,b,iN o]};·have:k=xs.length:=o;subst this;rw[e]at hK;simpa[Xb]using hK
def Ek{xs:Y Z}{A:Option aN}{c:J}{h:aM}{K:VP}(s:SlI .i64 h A xs)(hK:K (.bool (W9 xs)) h):aK prog 292 #[.slice A xs.length c] h K:=by refine(fnk func292) ?_;exact Pd s ⟨_,rfl,by simpa[W9]using hK⟩
def Us{l:Y Z}(h:∀x∈l,0<=x):0<=l.sum:=by
 induction l with
 |nil=>simp
 |cons x l ih=>have:=ih (fun y a=>h y (by simp[a]));have:=h x (by simp);simp;omega
def Of{xs:Y Z}{k:J}(hk:k<xs.length):(xs.take (k+1)).sum=(xs.take k).sum+xs.getD k 0:=by rw[aT hk,List.sum_append];simp[List.getD,hk]
structure ExB (xs:Y Z):Prop where
 len:xs.length<=6
 all:∀ x∈xs,0<=x/\x<=1048576
def B9t{l:Y Z}(h:∀x∈l,x<=1048576):l.sum<=1048576*(l.length:Z):=by
 induction l with
 |nil=>simp
 |cons x l ih=>have:=ih (fun y a=>h y (by simp[a]));have:=h x (by simp);simp only[List.sum_cons,cY];omega
def Ur{xs:Y Z}(h:ExB xs)(k:J):0<=(xs.take k).sum/\(xs.take k).sum<=6291456:=by refine⟨Us fun x a=>(h.all x (aZ a)).1,?_⟩;have:=B9t (l:=xs.take k) fun x a=>(h.all x (aZ a)).2;have:=h.len;have:(xs.take k).length<=6:=by{simp;omega};omega
def Nc(a b:Y Z):J->Z
 |0=>0
 |k+1=>if a.getD k 0≠b.getD k 0 then Gr (b.getD k 0) (a.getD k 0)else Nc a b k
def C2l(a b:Y Z):Z:=if a.sum≠b.sum then Gr a.sum b.sum else Nc a b a.length
section
variable {h:aM} {K:VP} {a b:Y Z} {A B:Option aN} {ac bc:J}
def Wa(hl:a.length=b.length)(va:ExB a)(vb:ExB b)(sa:SlI .i64 h A a)(sb:SlI .i64 h B b)(hK:K (I (C2l a b)) h):aK prog 287 #[.slice A a.length ac,.slice B b.length bc] h K:=by have z:=va.len;refine(fnk func287 [(3,[5,6,12],[],[I 0,I 0,I 0]),(11,[9],[],[I 0])]) ?_;refine⟨fun l f=>∃k:J,l=[I (a.take k).sum,I (b.take k).sum,I k]/\k<=a.length/\f=h,fun l _=>a.length-(iAt l 2).toNat,⟨0,by simp,o,rfl⟩,?_⟩;rintro q C i e ⟨k,j,E,rfl⟩;obtain⟨rfl,rfl,rfl⟩:q=(a.take k).sum/\C=(b.take k).sum/\i=(k:Z):=by{simpa using j};have F:=Ur va (k+1);have D:=Ur vb (k+1);refine B9 (fun s=>?_) (fun s=>?_);{refine sa.load rfl o o ?_;refine sb.load rfl o o ?_;rw[aC,<- Of o,<- Of o,C0 o o,C0 o o,C0 o o];exact⟨⟨k+1,by simp,o,rfl⟩,by simp only[iAt,aH,aF];omega⟩};·have p:k=a.length:=o;subst p;rw[List.take_length,show b.take a.length=b by rw[hl];exact List.take_length];refine D8 (fun n=>Xf ⟨_,rfl,by simpa[C2l,n]using hK⟩) (fun n=>?_);have w:C2l a b=Nc a b a.length:=by{simp[C2l,n]};rw[w]at hK;refine⟨fun l f=>∃k:J,l=[I ((k:Z)-1)]/\k<=a.length/\Nc a b a.length=Nc a b k/\f=e,fun l _=>(iAt l 0+1).toNat,⟨a.length,by rw[C0 o o],o,rfl,rfl⟩,?_⟩;rintro i y ⟨k,d,r,c,rfl⟩;obtain rfl:i=(k:Z)-1:=by{simpa using d};refine B9 (fun u=>?_) (fun u=>?_);{obtain⟨k,rfl⟩:∃m,k=m+1:=⟨k-1,o⟩;have t:((k+1:J):Z)-1=(k:Z):=o;rw[t];refine sa.load rfl o o ?_;refine sb.load rfl o o ?_;rw[aC];refine D8 (fun g=>?_) (fun g=>?_);{refine sb.load rfl o o ?_;refine sa.load rfl o o ?_;rw[aC];refine Xf ⟨_,rfl,B8 _,?_⟩;rw[c,Nc,iP g]at hK;exact hK};·rw[C0 o o];refine⟨⟨k,rfl,o,?_,rfl⟩,by simp only[iAt,aF];omega⟩;rw[c,Nc,iN (by simpa using g)]};·have:k=0:=o;subst this;rw[c]at hK;exact hK
end
