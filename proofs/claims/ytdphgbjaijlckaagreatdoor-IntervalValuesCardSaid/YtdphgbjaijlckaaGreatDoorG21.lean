/- A part. -/
import Derived.Test.YtdphgbjaijlckaaGreatDoorG20
open Go.Proofs.Tryz
set_option linter.all false
open _root_.Array renaming replicate->bL
open Bool renaming false_eq_true->cH,eq_iff_iff->cR
open _root_.Go.Builtin renaming zeroCells->bB,append_->bK
open _root_.ByteArray renaming size->cX
open Int renaming toNat_natCast->aC,sign_eq_one_of_pos->aP,gcd->aR,gcd_natCast_natCast->aS,natCast_pow->aX,natCast_mul->aY,sign_eq_neg_one_of_neg->bD,ofNat_tmod->bF,ofNat_tdiv->bG,eq_ofNat_of_zero_le->bN,mul_le_mul_of_nonneg_right->cA,mul_le_mul_of_nonneg_left->cC,lt_of_le_of_lt->cG,tmod->cN,emod_lt_of_pos->dC,tdiv->dG,pow_succ->dH,le_of_lt->dI,natCast_ediv->dJ,natCast_add->dN,mul_ne_zero->dO,tdiv_eq_ediv_of_dvd->dT,gcd_comm->dU
open List renaming replicate->aD,getElem?_cons_zero->aE,getElem?_cons_succ->aF,take_of_length_le->aH,eq_nil_of_length_eq_zero->aI,length_append->aM,length_take->aO,exists_cons_of_ne_nil->bC,getElem?_eq_getElem->bJ,take_succ_eq_append_getElem->bU,drop_zero->bV,append_assoc->bW,takeWhile_append_dropWhile->bY,take_append_drop->bZ,drop_eq_getElem_cons->cI,length_drop->cL,getElem_mem->cM,drop_of_length_le->cP,map_append->cQ,length_singleton->cT,replicate_succ'->cV,mem_of_mem_take->cW,map_singleton->dB,take_append_of_le_length->dK,head?_cons->dM,getLast?_singleton->dS
open List.cons renaming injEq->cD
open Nat renaming pow_le_pow_right->aJ,div_le_self->aT,lt_of_lt_of_le->aU,gcd->aV,min_eq_left->aW,le_refl->aZ,sub_zero->bH,mul_one->bM,le_trans->bO,pow_le_pow_left->cF,gcd_dvd_right->cK,pow_mul->cU,le_of_dvd->cY,zero_add->dD,pow_succ->dE,gcd_comm->dF
open Option.some renaming injEq->bA
open Rat renaming divInt->cO,lt_iff->cZ,num_eq_zero->dL,add->dP,ceil_eq_neg_floor_neg->dQ
open _root_.Go.Value renaming int->aN
open _root_.Go.Value.slice renaming injEq->cJ
open _root_.Go renaming Addr->aK,TypeId->aQ,Value->bX,Program->dR
open _root_.Go.Proofs.YtdphgbjaijlckaaGreatDoor renaming FCall->aG,Heap->aL,Priv->bI
namespace Go.Proofs.YtdphgbjaijlckaaGreatDoor
set_option maxRecDepth 20000
open Go
def Win.swap{k k':IntKind}{h g1 g:aL}{ba bb:Nat}{e e':aQ}{A B:Option aK}{pa qa pb qb:List bX}{us bs:List Int}(wa:Win k h g1 ba e A pa us qa)(wb:Win k' g1 g bb e' B pb bs qb):∃ g2,Win k' h g2 bb e' B pb bs qb/\Win k g2 g ba e A pa us qa:=by
 have a:ba≠bb:=by
  rintro rfl
  have:=wa.free
  rw [wb.eq,B8] at this
  cases this
 have b:g ba=none:=by
  have:=wa.free
  rwa [wb.eq,B6 _ _ a] at this
 refine ⟨g.put ba (.cells (pa++us.map (aN k)++qa).toArray e),⟨?_,?_,wb.at_⟩,⟨b,rfl,wa.at_⟩⟩
 ·rw [B6 _ _ a.symm];exact wb.free
 ·rw [wa.eq,wb.eq];exact Heap.put_comm _ _ _ a.symm
def Lu{z y c:Int}(hz:0<=z/\z<18446744073709551616)(hy:0<=y/\y<18446744073709551616)(hc:0<=c/\c<=1):(z-y-c)%18446744073709551616=z-y-c+18446744073709551616*(if z-y-c<0 then 1 else 0):=by
 omega
def Pc(z:Int):z%18446744073709551616=z-18446744073709551616*(z/18446744073709551616):=o
def Es{x y c:Int}(hx:0<=x/\x<18446744073709551616)(hy:0<=y/\y<18446744073709551616)(hc:0<=c/\c<18446744073709551616):0<=(x*y+c)/18446744073709551616/\(x*y+c)/18446744073709551616<18446744073709551616:=by
 have b:=Int.mul_nonneg hx.1 hy.1
 have a:x*y<=18446744073709551615*y:=cA o hy.1
 omega
def pin{v w B m:Int}(h:v=w+B*m)(hv:0<=v/\v<B)(hw:0<=w/\w<B):v=w:=by
 have a:0<B:=o
 by_cases c:m <= -1
 ·have:=cC c (dI a);omega
 ·by_cases b:1<=m
  ·have:=cC b (dI a);omega
  grind
section
variable {h g g1:aL} {K:VP} {A B:Option aK} {ac bc an bn ba bb:Nat} {e:aQ} {qa qb:List bX}
set_option maxHeartbeats 1000000 in
def Vq{us bs:List Int}{u0 u1 v0 v1:Int}{odd:Bool}(wa:Win .u64 h g1 ba e A [] us qa)(wb:Win .u64 g1 g bb e B [] bs qb)(ha:an=us.length)(hb:bn=bs.length)(hab:us.length=bs.length)(da:Dig b64 us)(db:Dig b64 bs)(hl:us.length<=100000000000000)(hu0:0<=u0/\u0<18446744073709551616)(hu1:0<=u1/\u1<18446744073709551616)(hv0:0<=v0/\v0<18446744073709551616)(hv1:0<=v1/\v1<18446744073709551616)
 (hX0:0<=Fy (val b64 us) (val b64 bs) u0 v0 odd/\Fy (val b64 us) (val b64 bs) u0 v0 odd<b64^us.length) (hX1:0<=Fx (val b64 us) (val b64 bs) u1 v1 odd/\Fx (val b64 us) (val b64 bs) u1 v1 odd<b64^us.length)
 (hK:∀ us' bs' h' g1',us'.length=us.length->bs'.length=us.length->Dig b64 us'->Dig b64 bs'->val b64 us'=Fy (val b64 us) (val b64 bs) u0 v0 odd->val b64 bs'=Fx (val b64 us) (val b64 bs) u1 v1 odd->Win .u64 h' g1' ba e A [] us' qa->Win .u64 g1' g bb e B [] bs' qb->K (.tuple #[]) h'):
 aG prog 232 #[.agg #[U u0,U u1,U v0,U v1,.bool odd],.slice A an ac,.slice B bn bc] h K:=by
 subst ha hb
 refine (fnk func232 [(4,[6,7,8,9,10,11,21],[],[U 0,U 0,U 0,U 0,U 0,U 0,I 0])] (own:=[3])) ?_
 refine ⟨fun l hp=>∃ (k:Nat) (b c d j V X:Int) (xs C:List Int) (g1:aL),l=[U b,U c,U d,U j,U V,U X,I k]/\k<=us.length/\xs.length=us.length/\C.length=us.length/\Dig b64 xs/\Dig b64 C/\(0<=b/\b<18446744073709551616)/\(0<=c/\c<18446744073709551616)/\(0<=d/\d<18446744073709551616)/\(0<=j/\j<18446744073709551616)/\(0<=V/\V<=1)/\(0<=X/\X<=1)/\Win .u64 hp g1 ba e A [] xs qa/\Win .u64 g1 g bb e B [] C qb/\xs.drop k=us.drop k/\C.drop k=bs.drop k/\
  val b64 (xs.take k)=Fy (val b64 (us.take k)) (val b64 (bs.take k)) u0 v0 odd+b64^k*((if odd then c-b else b-c)+V)/\val b64 (C.take k)=Fx (val b64 (us.take k)) (val b64 (bs.take k)) u1 v1 odd+b64^k*((if odd then j-d else d-j)+X),fun l _=>us.length-(iAt l 6).toNat,⟨0,0,0,0,0,0,0,us,bs,g1,rfl,o,rfl,hab.symm,da,db,o,o,o,o,o,o,wa,wb,rfl,rfl,by simp [val,Fy],by simp [val,Fx]⟩,?_⟩
 rintro b c d j V X i hp ⟨k,ad,ah,ab,ae,af,ai,xs,C,g1,W,hk,a,n,R,Q,hP,hQ,hR,hT,m,D,O,S,F,L,s,E⟩
 simp only [cD,Value.int.injEq,and_true,true_and] at W
 obtain ⟨rfl,rfl,rfl,rfl,rfl,rfl,rfl⟩:=W
 refine B4 (fun h1=>?_) (fun h1=>?_)
 ·have gx:=I5 R k
  have gy:=I5 Q k
  have w:=F9 F
  have u:=F9 L
  have vx:=C5 b64 us k
  have vy:=C5 b64 bs k
  obtain ⟨g2,aa,ag⟩:=O.swap S
  refine O.sl.load a.symm o o ?_
  refine aa.sl.load o o o ?_
  simp only [aC]
  obtain ⟨aA,hA,_⟩:=SlV.at O.sl (i:=k) (by simp;omega)
  obtain ⟨aB,hB,_⟩:=SlV.at S.sl (i:=k) (by simp;omega)
  generalize hx0:xs.getD k 0=x at *
  generalize hy0:C.getD k 0=y at *
  refine L3 gx hu0 hP ⟨_,_,rfl,?_⟩
  refine L3 gy hv0 hQ ⟨_,_,rfl,?_⟩
  refine L3 gy hv1 hR ⟨_,_,rfl,?_⟩
  refine L3 gx hu1 hT ⟨_,_,rfl,?_⟩
  have bP:=Es gx hu0 hP
  have bQ:=Es gy hv0 hQ
  have bR:=Es gy hv1 hR
  have bT:=Es gx hu1 hT
  have mP:=W5 (x*u0+b)
  have mQ:=W5 (y*v0+c)
  have mR:=W5 (y*v1+d)
  have mT:=W5 (x*u1+j)
  have kP:=Pc (x*u0+b)
  have kQ:=Pc (y*v0+c)
  have kR:=Pc (y*v1+d)
  have kT:=Pc (x*u1+j)
  have ek:B7 ((k:Int)+1)=((k+1:Nat):Int):=by rw [B5 o o];omega
  rw [ek]
  generalize (x*u0+b)/18446744073709551616=cP2 at *
  generalize (y*v0+c)/18446744073709551616=cQ2 at *
  generalize (y*v1+d)/18446744073709551616=cR2 at *
  generalize (x*u1+j)/18446744073709551616=cT2 at *
  generalize (x*u0+b)%18446744073709551616=p at *
  generalize (y*v0+c)%18446744073709551616=q at *
  generalize (y*v1+d)%18446744073709551616=r at *
  generalize (x*u1+j)%18446744073709551616=t at *
  have z:b64^(k+1)=b64^k*18446744073709551616:=dH _ _
  cases odd with
  | true=>
   refine Br.of (fun _=>?_) (fun e=>by cases e)
   refine Y8 mP mQ m ⟨_,_,rfl,aA,hA,o,o,O.storeN (i:=k) D8 hA o ?_⟩
   intro h2 w2
   refine Y8 mR mT D ⟨_,_,rfl,aB,hB,o,o,?_⟩
   obtain ⟨g3,G,N⟩:=w2.swap S
   refine G.storeN (i:=k) D8 hB o ?_
   intro h4 w4
   obtain ⟨g5,H,M⟩:=w4.swap N
   refine ⟨⟨k+1,_,_,_,_,_,_,_,_,g5,rfl,o,by simpa using a,by simpa using n,R.set (W5 _),Q.set (W5 _),bP,bQ,bR,bT,by split<;>omega,by split<;>omega,H,M,?_,?_,?_,?_⟩,by simp only [iAt,aE,aF];omega⟩
   ·rw [E2 o];exact E6 F
   ·rw [E2 o];exact E6 L
   ·rw [C9 o,F5,aO,aW o,z,vx,vy,<- w,<- u,s,Lu mP mQ m]
    simp only [Fy,if_true]
    grind
   ·rw [C9 o,F5,aO,aW o,z,vx,vy,<- w,<- u,E,Lu mR mT D]
    simp only [Fx,if_true]
    grind
  | false=>
   refine Br.of (fun e=>by cases e) (fun _=>?_)
   refine Y8 mQ mP m ⟨_,_,rfl,aA,hA,o,o,O.storeN (i:=k) D8 hA o ?_⟩
   intro h2 w2
   refine Y8 mT mR D ⟨_,_,rfl,aB,hB,o,o,?_⟩
   obtain ⟨g3,G,N⟩:=w2.swap S
   refine G.storeN (i:=k) D8 hB o ?_
   intro h4 w4
   obtain ⟨g5,H,M⟩:=w4.swap N
   refine ⟨⟨k+1,_,_,_,_,_,_,_,_,g5,rfl,o,by simpa using a,by simpa using n,R.set (W5 _),Q.set (W5 _),bP,bQ,bR,bT,by split<;>omega,by split<;>omega,H,M,?_,?_,?_,?_⟩,by simp only [iAt,aE,aF];omega⟩
   ·rw [E2 o];exact E6 F
   ·rw [E2 o];exact E6 L
   ·rw [C9 o,F5,aO,aW o,z,vx,vy,<- w,<- u,s,Lu mQ mP m]
    simp only [Fy,cH,if_false]
    grind
   ·rw [C9 o,F5,aO,aW o,z,vx,vy,<- w,<- u,E,Lu mT mR D]
    simp only [Fx,cH,if_false]
    grind
 ·obtain rfl:k=us.length:=o
  rw [aH (show xs.length<=us.length from o),List.take_length,aH (show bs.length<=us.length from o)] at s
  rw [aH (show C.length<=us.length from o),List.take_length,aH (show bs.length<=us.length from o)] at E
  have bx:=J4 dc R
  have T:=J4 dc Q
  rw [a] at bx
  rw [n] at T
  exact hK xs C hp g1 a n R Q (pin s ⟨C3 dc R,bx⟩ hX0) (pin E ⟨C3 dc Q,T⟩ hX1) O S
end
def Win.priv{k:IntKind}{h g:aL}{b m c:Nat}{e:aQ}{A:Option aK}{xs:List Int}{post:List bX}(w:Win k h g b e A [] xs post)(hx:xs≠[])(hc:c=xs.length+post.length)(hm:m<=xs.length):bI h g e 1 A m c ((xs.take m).map (aN k)):=by
 refine ⟨gz0,o,.inr ⟨b,xs.map (aN k)++post,?_,w.free,?_,gz0,?_⟩⟩
 ·rcases w.at_ with a|a
  ·grind
  omega
 ·have:=w.eq
  assumption
 ·rw [bM,dK gz0,List.map_take]
def Y2{k:IntKind}{h g:aL}{n c:Nat}{e:aQ}{A:Option aK}{xs:List Int}(p:bI h g e 1 A n c (xs.map (aN k)))(hx:xs≠[]):∃ b post,Win k h g b e A [] xs post/\c=xs.length+post.length:=by
 obtain ⟨r,m,i⟩:=p
 rcases i with ⟨s,rfl⟩|⟨b,a,l,j,rfl,q,d⟩
 ·simp_all
 ·refine ⟨b,a.drop (n*1),⟨j,?_,.inr l⟩,?_⟩
  ·rw [List.nil_append,<- d,bZ]
  grind
def Priv.swap{h g1 g:aL}{e e':aQ}{s s' n c m d:Nat}{A B:Option aK}{xs ys:List bX}(pa:bI h g1 e s A n c xs)(pb:bI g1 g e' s' B m d ys):∃ g2,bI h g2 e' s' B m d ys/\bI g2 g e s A n c xs:=by
 obtain ⟨r,u,D⟩:=pa
 obtain ⟨k,q,x⟩:=pb
 rcases D with ⟨G,rfl⟩|⟨j,i,y,a,rfl,z⟩
 ·exact ⟨g,⟨k,q,x⟩,⟨r,u,.inl ⟨G,rfl⟩⟩⟩
 ·rcases x with ⟨C,rfl⟩|⟨w,p,F,l,rfl,E⟩
  ·exact ⟨_,⟨k,q,.inl ⟨C,rfl⟩⟩,⟨r,u,.inr ⟨j,i,y,a,rfl,z⟩⟩⟩
  ·have b:j≠w:=by
    rintro rfl
    rw [B8] at a;cases a
   rw [B6 _ _ b] at a
   refine ⟨g.put j (.cells i.toArray e),⟨k,q,.inr ⟨w,p,F,?_,Heap.put_comm _ _ _ b.symm,E⟩⟩,⟨r,u,.inr ⟨j,i,y,a,rfl,z⟩⟩⟩
   rw [B6 _ _ b.symm];exact l
abbrev Pw(h g:aL)(A:Option aK)(n c:Nat)(us:List Int):Prop:=bI h g 230 1 A n c (us.map (aN .u64))
def GI(h:aL)(G:Nat)(hp:aL)(A:Option aK)(n c:Nat)(B:Option aK)(m d:Nat):Prop:=∃ (us vs:List Int) (g1 g:aL),h.le g/\Pw hp g1 A n c us/\Pw g1 g B m d vs/\Dig b64 us/\Dig b64 vs/\Norm us/\Norm vs/\n=us.length/\m=vs.length/\val b64 vs<=val b64 us/\aR (val b64 us) (val b64 vs)=G/\us.length<=9000000000000
def Yp{a b:Int}(ha:0<=a)(hb:0<=b):aR b (a%b)=aR a b:=by
 obtain ⟨x,rfl⟩:=bN ha
 obtain ⟨y,rfl⟩:=bN hb
 rw [<- Int.natCast_emod,aS,aS,dF x,dF y,<- Nat.gcd_rec]
section
variable {h g:aL} {K:VP} {A B:Option aK} {ac bc:Nat}
set_option maxHeartbeats 1000000 in
def A1k{G an bn:Nat}{hp:aL}(gl:Gtz h)(gi:GI h G hp A an ac B bn bc)(hK:∀ A' m c' h',h.le h'->m<=c'->Mw h' A' m (G:Int)->K (.slice A' m c') h'):Dq prog K A an ac B bn bc hp:=by
 unfold Dq
 refine ⟨fun l hp=>∃ (A B:Option aK) (n c m d:Nat),l=[.slice A n c,.slice B m d]/\GI h G hp A n c B m d,fun l hp=>match l with|[_,.slice B n _]=>A4a b64 hp B n|_=>0,⟨_,_,_,_,_,_,rfl,gi⟩,?_⟩
 rintro A1 X c1 B1 m1 d1 hp ⟨A,B,n,c,m,d,hl,s,k,g1,g,lg,R,pb,du,dv,nu,nv,hn,W,V,a,br⟩
 simp only [cD,cJ,and_true] at hl
 obtain ⟨⟨rfl,rfl,rfl⟩,rfl,rfl,rfl⟩:=hl
 have Ma:Mw hp A1 X (val b64 s):=⟨s,hn,R.slV,du,nu,rfl⟩
 have Mb:Mw hp B1 m1 (val b64 k):=⟨k,W,SlV.mono R.le pb.slV,dv,nv,rfl⟩
 have aa:=R.2.1
 have a7:=pb.2.1
 have M:=C3 dc du
 have bf:=C3 dc dv
 have a1:m1<=X:=Mb.len_le dc (cG V (Ma.lt dc))
 have T:h.le hp:=A0 lg (A0 pb.le R.le)
 have av:=Mb.len_zero dc
 refine B4 (fun h1=>?_) (fun h1=>?_)
 ·refine Lw Ma Mb V o o ?_
  intro u0 u1 v0 v1 bo st
  refine ⟨_,_,_,_,_,rfl,E4 (fun e=>?_) (fun e=>?_)⟩
  ·refine L6 Ma Mb aa a7 o o o ?_
   intro A2 m2 c2 A3 m3 c3 h6 l6 q k3 M2 M3
   refine ⟨_,_,_,_,_,_,rfl,?_⟩
   have bt:m3<=m1:=M3.len_le dc (by have:=dC (val b64 s) (show 0<val b64 k from o);have:=Mb.lt dc;omega)
   obtain ⟨ws,a9,a2,N,aq,a5⟩:=M3
   refine W8 a2 a9 o ?_
   intro A4 c4 h7 g7 l7 p7
   obtain ⟨g2,Q,F⟩:=R.swap pb
   obtain ⟨g8,l8,a0⟩:=Q.after (A0 l6 l7)
   obtain ⟨g9,au,a6⟩:=Priv.swap p7 a0
   have bl:=dC (val b64 s) (show 0<val b64 k from o)
   have Mn:Mw h7 A4 ws.length (val b64 ws):=⟨ws,rfl,p7.slV,N,aq,rfl⟩
   refine ⟨_,_,_,rfl,⟨_,_,_,_,_,_,rfl,k,ws,g9,g8,A0 lg (A0 F.le l8),au,a6,dv,N,nv,aq,W,rfl,o,?_,o⟩,?_⟩
   ·rw [a5,Yp M bf];exact a
   ·simp only [Bj Mn,Bj Mb]
    have:=C3 dc N
    omega
  ·obtain ⟨af,ao,ak,al,lh⟩:=st
   have lh:=lh e
   unfold Ha
   obtain ⟨g2,Q,F⟩:=R.swap pb
   refine ⟨fun l hp=>∃ (B:Option aK) (m d j:Nat) (g1 g:aL),l=[.slice B m d]/\h.le g/\Pw hp g1 B m d (k++aD j 0)/\Pw g1 g A1 X c1 s/\m=k.length+j/\m<=X,fun l _=>match l with|[.slice _ m _]=>X-m|_=>0,⟨B1,m1,d1,0,g2,g,rfl,lg,by simpa using Q,F,o,a1⟩,?_⟩
   rintro B2 m2 d2 bq ⟨B',m',d',j,g3,g4,aj,ab,ah,ar,bm,bg⟩
   simp only [cD,cJ,and_true] at aj
   obtain ⟨rfl,rfl,rfl⟩:=aj
   refine B4 (fun h2=>?_) (fun h2=>?_)
   ·refine Bf I6 ah rfl rfl o o ?_
    intro A5 c5 h5 g5 l5 p5
    obtain ⟨g6,l6,bd⟩:=ar.after l5
    refine ⟨⟨A5,m2+1,c5,j+1,g5,g6,rfl,A0 ab l6,?_,bd,o,o⟩,by simp only;omega⟩
    have p6:=p5
    rw [<- dB (f:=aN .u64),<- cQ,bW,<- cV] at p6
    exact p6
   ·obtain ⟨g5,ay,a4⟩:=ah.swap ar
    have y:(k++aD j (0:Int)).length=s.length:=by simp;omega
    have i:s≠[]:=by rintro rfl;simp at hn;omega
    have ai:k++aD j (0:Int)≠[]:=by intro h0;rw [h0] at y;simp at y;exact i (aI y.symm)
    obtain ⟨ba,qa,wa,bk⟩:=Y2 ay i
    obtain ⟨bb,qb,wb,bp⟩:=Y2 a4 ai
    have ax:=lh.gcd
    have bh:=lh.ord
    have a3:=lh.le
    have bi:val b64 k<b64^s.length:=by rw [<- hn];exact cG V (Ma.lt dc)
    refine Vq wa wb hn o y.symm du (dv.append (H7 dc _)) o af ao ak al (by rw [T1];omega) (by rw [T1];omega) ?_
    intro x p h6 g6 z C aw ad S u H ag
    rw [T1] at S u
    have D:x≠[]:=by rintro rfl;simp at z;exact i (aI z.symm)
    have E:p≠[]:=by rintro rfl;simp at C;exact i (aI C.symm)
    refine ⟨rfl,?_⟩
    rw [show X=x.length from o]
    refine V4 H.sl o o ?_
    intro k1 a8 be ae
    refine ⟨_,_,_,rfl,?_⟩
    rw [show m2=p.length from o]
    refine V4 (SlV.mono H.le ag.sl) o o ?_
    intro q az ap L
    have pA:=H.priv (m:=k1) (c:=c1) D o a8
    have pB:=ag.priv (m:=q) (c:=d2) E o az
    have e1:(x.take k1).length=k1:=by rw [aO];omega
    have e2:(p.take q).length=q:=by rw [aO];omega
    have Mn:Mw h6 B2 q (val b64 (p.take q)):=⟨p.take q,e2.symm,SlV.mono pA.le pB.slV,ad.take _,ap,rfl⟩
    refine ⟨_,_,_,rfl,⟨_,_,_,_,_,_,rfl,x.take k1,p.take q,_,_,ab,pA,pB,aw.take _,ad.take _,be,ap,e1.symm,e2.symm,?_,?_,o⟩,?_⟩
    ·rw [ae,L,S,u];omega
    ·rw [ae,L,S,u,ax];exact a
    ·simp only [Bj Mn,Bj Mb]
     rw [L,u];omega
 ·refine E4 (fun h2=>?_) (fun h2=>?_)
  ·have h0:val b64 k=0:=av.2 o
   rw [h0,Int.gcd_zero_right] at a
   refine hK _ _ _ _ T aa ?_
   rw [<- a,Int.natAbs_of_nonneg M];exact Ma
  ·have bu:m1=1:=o
   obtain ⟨w,rfl⟩:∃ w,k=[w]:=by
    rcases k with _|⟨w,_|⟨w',r⟩⟩
    ·simp at W;omega
    ·exact ⟨w,rfl⟩
    ·simp at W;omega
   have hw:=dv w (by simp)
   rw [Y6] at *
   obtain ⟨t,rfl⟩:∃ t:Nat,w=(t:Int):=bN hw.1
   have bj:(t:Int)<18446744073709551616:=hw.2
   have am:0<t:=o
   have sb:SlI .u64 hp B1 [(t:Int)]:=SlV.mono R.le pb.slV
   refine sb.load W o o ?_
   refine sb.load W o o ?_
   show aG _ _ #[_,U ((t:Nat):Int)] _ _
   refine Eh Ma ⟨am,o⟩ o ⟨_,rfl,B3 _,?_⟩
   have r0:=Int.emod_nonneg (val b64 s) (b:=(t:Int)) o
   have r1:=dC (val b64 s) (show (0:Int)<(t:Int) from o)
   have O:=Yp M (show (0:Int)<=(t:Int) from o)
   obtain ⟨r,hr⟩:=bN r0
   rw [hr] at r1 O ⊢
   show aG _ _ #[U ((t:Nat):Int),_] _ _
   refine Po (gl.mono T) o o ⟨_,rfl,B3 _,?_⟩
   rw [aS] at O
   have a3:aV t r<=t:=cY am (Nat.gcd_dvd_left t r)
   refine R7 o ?_
   intro A2 m2 c2 h2 l2 q M2
   rw [O,a] at M2
   exact ⟨_,_,_,rfl,l2,hK _ _ _ _ (A0 T l2) q M2⟩
def Ev{x y:Int}{an bn:Nat}(gl:Gtz h)(ma:Mw h A an x)(mb:Mw h B bn y)(ha:an<=ac)(hb:bn<=bc)(hl:an<=9000000000000)(hl2:bn<=9000000000000)(hK:∀ A' m c' h',h.le h'->m<=c'->Mw h' A' m (aR x y:Int)->K (.slice A' m c') h'):aG prog 186 #[.slice A an ac,.slice B bn bc] h K:=by
 refine Qf _ _ _ _ _ _ ?_
 refine ⟨fun l s=>s=h/\∃ (A B:Option aK) (n c m d:Nat) (e a:Int),l=[.slice A n c,.slice B m d]/\Mw h A n e/\Mw h B m a/\a<=e/\n<=c/\m<=d/\n<=9000000000000/\m<=9000000000000/\aR e a=aR x y,?_,?_⟩
 ·refine E3 ma mb o ⟨_,rfl,B4 (fun b=>?_) (fun b=>?_)⟩
  ·rw [T8] at b
   exact ⟨rfl,_,_,_,_,_,_,_,_,rfl,mb,ma,o,hb,ha,hl2,hl,dU _ _⟩
  ·rw [T8] at b
   grind
 ·rintro A1 n1 c1 B1 m1 V s ⟨rfl,A2,B2,n,c,m,d,e,a,k,M1,M2,j,u,k2,l1,l2,q⟩
  obtain ⟨⟨rfl,rfl,rfl⟩,rfl,rfl,rfl⟩:=k
  refine E4 (fun b=>?_) (fun b=>?_)
  ·have:a=0:=(M2.len_zero dc).2 o
   subst this
   rw [Int.gcd_zero_right] at q
   refine hK _ _ _ _ (B3 _) u ?_
   grind
  ·obtain ⟨R,i,E,w,N,rfl⟩:=M1
   obtain ⟨H,g,O,F,nv,rfl⟩:=M2
   refine W8 E i o ?_
   intro A3 X h3 g3 r p
   refine ⟨_,_,_,rfl,?_⟩
   refine W8 (SlV.mono (A0 r p.le) O) g o ?_
   intro A4 c4 T W M z
   refine ⟨_,_,_,rfl,?_⟩
   obtain ⟨Q,G,C⟩:=p.after M
   obtain ⟨D,S,L⟩:=Priv.swap z C
   exact A1k gl ⟨R,H,D,Q,A0 r G,S,L,w,F,N,nv,rfl,rfl,j,q,o⟩ hK
end
structure ZI (h:aL) (s:Bool) (A:Option aK) (n c:Nat) (z:Int):Prop where
 cap:n<=c
 mag:Mw h A n (z.natAbs:Int)
 sgn:s=decide (z<0)
def ZI.mono{h h':aL}{s:Bool}{A:Option aK}{n c:Nat}{z:Int}(i:ZI h s A n c z)(l:h.le h'):ZI h' s A n c z:=⟨i.cap,i.mag.mono l,i.sgn⟩
def ZI.zero{h:aL}{A:Option aK}:ZI h false A 0 0 0:=⟨aZ _,Mag.zero,rfl⟩
def ZI.lenG{h:aL}{s:Bool}{A:Option aK}{n c m k:Nat}{z:Int}(i:ZI h s A n c z)(hz:ZB m z)(hm:m<=64*k):n<=k:=by
 refine i.mag.len_le dc ?_
 rw [Bh]
 have a:(z.natAbs:Int)<2^m:=by
  have:((z.natAbs:Nat):Int)<((2^m:Nat):Int):=Int.ofNat_lt.2 hz
  simpa using this
 have b:=C8 (B:=2) dc hm
 exact Int.lt_of_lt_of_le a b
def ZI.len{h:aL}{s:Bool}{A:Option aK}{n c m:Nat}{z:Int}(i:ZI h s A n c z)(hz:ZB m z)(hm:m<=6400000000):n<=100000000:=i.lenG hz o
def ZI.zeroIff{h:aL}{s:Bool}{A:Option aK}{n c:Nat}{z:Int}(i:ZI h s A n c z):z=0↔n=0:=by
 have:=i.mag.len_zero dc
 omega
section
variable {h g:aL} {K:VP} {A B:Option aK} {s s':Bool} {an ac bn bc m:Nat} {x y:Int}
def G6{v:Nat}{n c:Nat}{neg:Bool}(M:Mw h A n (v:Int))(hc:n<=c)(hK:∀ s,ZI h s A n c (if neg then -(v:Int) else v)->K (.agg #[.bool s,.slice A n c]) h):aG prog 188 #[.bool neg,.slice A n c] h K:=by
 have a:=M.len_zero dc
 refine (fnk func188 (own:=[4])) ?_
 cases neg with
 | true=>
  refine Br.of (fun _=>hK _ ⟨hc,?_,?_⟩) (fun e=>by cases e)
  ·simpa using M
  ·simp only [if_true,decide_eq_decide];omega
 | false=>
  refine Br.of (fun e=>by cases e) (fun _=>hK _ ⟨hc,?_,?_⟩)
  ·simpa using M
  ·simp
def P8(i:ZI h s A an ac x)(hK:∀ s',ZI h s' A an ac (-x)->K (.agg #[.bool s',.slice A an ac]) h):aG prog 125 #[.agg #[.bool s,.slice A an ac]] h K:=by
 refine (fnk func125 (own:=[1,2])) ?_
 refine G6 (neg:= !s) i.mag i.cap ?_
 intro c a
 have e:(if (!s)=true then -(x.natAbs:Int) else x.natAbs)= -x:=by
  have:=i.sgn
  by_cases b:x<0
  ·simp only [b,decide_true] at this;subst this;simp;omega
  ·simp only [b,decide_false] at this;subst this;simp;omega
 rw [e] at a
 exact ⟨_,_,_,_,rfl,hK _ a⟩
def Ay(i:ZI h s A an ac x)(j:ZI h s' B bn bc y)(hx:ZB m x)(hy:ZB m y)(hm:m<=576000000000000)(hK:∀ s1 A' n' c' h',h.le h'->ZI h' s1 A' n' c' (x+y)->K (.agg #[.bool s1,.slice A' n' c']) h'):aG prog 138 #[.agg #[.bool s,.slice A an ac],.agg #[.bool s',.slice B bn bc]] h K:=by
 have u:=i.lenG (k:=9000000000000) hx o
 have w:=j.lenG (k:=9000000000000) hy o
 have g:=i.sgn
 have a:=j.sgn
 refine (fnk func138 (own:=[2,3,4])) ?_
 refine Br.of (fun e=>?_) (fun e=>?_)
 ·have e:s=s':=by simpa using e
  subst e
  refine K7 i.mag j.mag i.cap j.cap o o ?_
  intro A1 r c1 b d l M1
  refine ⟨_,_,_,rfl,d,?_⟩
  rw [<- dN] at M1
  refine G6 (neg:=s) M1 l ?_
  intro s1 c
  refine ⟨_,_,_,_,rfl,B3 _,hK _ _ _ _ _ d ?_⟩
  have p:(if s=true then -((x.natAbs+y.natAbs:Nat):Int) else ((x.natAbs+y.natAbs:Nat):Int))=x+y:=by
   cases s with
   | true=>have b:=of_decide_eq_true g.symm;have n:=of_decide_eq_true a.symm;simp;omega
   | false=>have b:=of_decide_eq_false g.symm;have n:=of_decide_eq_false a.symm;simp;omega
  rw [p] at c
  exact c
 ·have e:s≠s':=by simpa using e
  refine E3 i.mag j.mag o ⟨_,rfl,B4 (fun b=>?_) (fun b=>?_)⟩
  ·have q:¬ (x.natAbs:Int)<y.natAbs:=by rw [<- T8];omega
   refine E7 i.mag j.mag i.cap o o ?_
   intro A1 r c1 b d l M1
   refine ⟨_,_,_,rfl,d,?_⟩
   rw [show (x.natAbs:Int)-y.natAbs=((x.natAbs-y.natAbs:Nat):Int) from o] at M1
   refine G6 (neg:=s) M1 l ?_
   intro s1 c
   refine ⟨_,_,_,_,rfl,B3 _,hK _ _ _ _ _ d ?_⟩
   have p:(if s=true then -((x.natAbs-y.natAbs:Nat):Int) else ((x.natAbs-y.natAbs:Nat):Int))=x+y:=by
    cases s with
    | true=>cases s' with
     | true=>exact absurd rfl e
     | false=>have b:=of_decide_eq_true g.symm;have n:=of_decide_eq_false a.symm;rw [iP rfl];omega
    | false=>cases s' with
     | true=>have b:=of_decide_eq_false g.symm;have n:=of_decide_eq_true a.symm;rw [iN (by simp)];omega
     | false=>exact absurd rfl e
   rw [p] at c
   exact c
  ·have q:(x.natAbs:Int)<y.natAbs:=by rw [<- T8];omega
   refine E7 j.mag i.mag j.cap o o ?_
   intro A1 r c1 b d l M1
   refine ⟨_,_,_,rfl,d,?_⟩
   rw [show (y.natAbs:Int)-x.natAbs=((y.natAbs-x.natAbs:Nat):Int) from o] at M1
   refine G6 (neg:=s') M1 l ?_
   intro s1 c
   refine ⟨_,_,_,_,rfl,B3 _,hK _ _ _ _ _ d ?_⟩
   have p:(if s'=true then -((y.natAbs-x.natAbs:Nat):Int) else ((y.natAbs-x.natAbs:Nat):Int))=x+y:=by
    cases s with
    | true=>cases s' with
     | true=>exact absurd rfl e
     | false=>have b:=of_decide_eq_true g.symm;have n:=of_decide_eq_false a.symm;rw [iN (by simp)];omega
    | false=>cases s' with
     | true=>have b:=of_decide_eq_false g.symm;have n:=of_decide_eq_true a.symm;rw [iP rfl];omega
     | false=>exact absurd rfl e
   rw [p] at c
   exact c
def Vx(i:ZI h s A an ac x)(j:ZI h s' B bn bc y)(hx:ZB m x)(hy:ZB m y)(hm:m<=576000000000000)(hK:∀ s1 A' n' c' h',h.le h'->ZI h' s1 A' n' c' (x-y)->K (.agg #[.bool s1,.slice A' n' c']) h'):aG prog 194 #[.agg #[.bool s,.slice A an ac],.agg #[.bool s',.slice B bn bc]] h K:=by
 refine (fnk func194 (own:=[2,3,4])) ?_
 refine P8 j ?_
 intro s1 b
 refine ⟨_,_,_,_,rfl,B3 _,Ay i b hx hy.neg o ?_⟩
 intro d A2 g c2 e a c
 exact ⟨_,_,_,_,rfl,a,hK _ _ _ _ _ a (by rw [Int.sub_eq_add_neg];exact c)⟩
def G1(i:ZI h s A an ac x)(j:ZI h s' B bn bc y)(hx:ZB m x)(hy:ZB m y)(hm:m<=576000000000000)(hK:∀ s1 A' n' c' h',h.le h'->ZI h' s1 A' n' c' (x*y)->K (.agg #[.bool s1,.slice A' n' c']) h'):aG prog 137 #[.agg #[.bool s,.slice A an ac],.agg #[.bool s',.slice B bn bc]] h K:=by
 have n:=i.lenG (k:=9000000000000) hx o
 have q:=j.lenG (k:=9000000000000) hy o
 have b:=i.sgn
 have a:=j.sgn
 refine (fnk func137 (own:=[2,3,4])) ?_
 refine D6 i.mag j.mag i.cap j.cap o o ?_
 intro A1 p c1 l d e M1
 refine ⟨_,_,_,rfl,d,?_⟩
 rw [<- aY] at M1
 refine G6 (neg:= !(s==s')) M1 e ?_
 intro s1 c
 refine ⟨_,_,_,_,rfl,B3 _,hK _ _ _ _ _ d ?_⟩
 have g:(if (!(s==s'))=true then -((x.natAbs*y.natAbs:Nat):Int) else ((x.natAbs*y.natAbs:Nat):Int))=x*y:=by
  rw [aY]
  cases s with
  | true=>cases s' with
   | true=>rw [show (x.natAbs:Int)= -x by have:=of_decide_eq_true b.symm;omega,show (y.natAbs:Int)= -y by have:=of_decide_eq_true a.symm;omega];show -x * -y=x*y;exact Int.neg_mul_neg x y
   | false=>rw [show (x.natAbs:Int)= -x by have:=of_decide_eq_true b.symm;omega,show (y.natAbs:Int)=y by have:=of_decide_eq_false a.symm;omega];show -(-x*y)=x*y;rw [Int.neg_mul,Int.neg_neg]
  | false=>cases s' with
   | true=>rw [show (x.natAbs:Int)=x by have:=of_decide_eq_false b.symm;omega,show (y.natAbs:Int)= -y by have:=of_decide_eq_true a.symm;omega];show -(x * -y)=x*y;rw [Int.mul_neg,Int.neg_neg]
   | false=>rw [show (x.natAbs:Int)=x by have:=of_decide_eq_false b.symm;omega,show (y.natAbs:Int)=y by have:=of_decide_eq_false a.symm;omega];rfl
 rw [g] at c
 exact c
def V3(gl:Gtz h)(i:ZI h s A an ac x)(j:ZI h s' B bn bc y)(hx:ZB m x)(hy:ZB m y)(hm:m<=576000000000000)(hK:∀ A' n' c' h',h.le h'->ZI h' false A' n' c' (aR x y:Int)->K (.agg #[.bool false,.slice A' n' c']) h'):aG prog 117 #[.agg #[.bool s,.slice A an ac],.agg #[.bool s',.slice B bn bc]] h K:=by
 have c:=i.lenG (k:=9000000000000) hx o
 have d:=j.lenG (k:=9000000000000) hy o
 refine (fnk func117 (own:=[2,3,4])) ?_
 refine Ev gl i.mag j.mag i.cap j.cap c d ?_
 intro A1 g c1 e b a M1
 refine ⟨_,_,_,rfl,hK _ _ _ _ b ⟨a,?_,?_⟩⟩
 ·rw [aS] at M1
  rw [Int.natAbs_natCast]
  exact M1
 ·simp
def U8(i:ZI h s A an ac x)(hK:K (I (Int.sign x)) h):aG prog 122 #[.agg #[.bool s,.slice A an ac]] h K:=by
 have c:=i.zeroIff
 have b:=i.sgn
 refine (fnk func122 (own:=[1])) ?_
 refine E4 (fun e=>?_) (fun e=>?_)
 ·obtain rfl:x=0:=o
  simpa using hK
 ·refine Br.of (fun a=>?_) (fun a=>?_)
  ·subst a
   have:=of_decide_eq_true b.symm
   rw [bD this] at hK;exact hK
  ·subst a
   have:=of_decide_eq_false b.symm
   rw [aP o] at hK;exact hK
def Dv(i:ZI h s A an ac x)(j:ZI h s' B bn bc y)(hx:ZB m x)(hy:ZB m y)(hm:m<=1152000000000000)(hK:K (I (U5 x y)) h):aG prog 136 #[.agg #[.bool s,.slice A an ac],.agg #[.bool s',.slice B bn bc]] h K:=by
 have g:=i.lenG (k:=18000000000000) hx o
 have l:=j.lenG (k:=18000000000000) hy o
 have d:=i.sgn
 have a:=j.sgn
 refine (fnk func136 (own:=[2,3])) ?_
 have c1:x<0->y<0->U5 (y.natAbs:Int) x.natAbs=U5 x y:=fun c b=>by unfold U5;split<;>split<;>first|rfl|omega|(split<;>split<;>first|rfl|omega)|(split<;>first|rfl|omega)
 have c2:¬ x<0->¬ y<0->U5 (x.natAbs:Int) y.natAbs=U5 x y:=fun c b=>by rw [show (x.natAbs:Int)=x from o,show (y.natAbs:Int)=y from o]
 cases s with
 | true=>
  have c:=of_decide_eq_true d.symm
  refine Br.of (fun _=>?_) (fun e=>by cases e)
  cases s' with
  | true=>
   have b:=of_decide_eq_true a.symm
   refine Br.of (fun _=>?_) (fun e=>by cases e)
   exact E3 j.mag i.mag o ⟨_,rfl,by rw [c1 c b];exact hK⟩
  | false=>
   have b:=of_decide_eq_false a.symm
   refine Br.of (fun e=>by cases e) (fun _=>Br.of (fun _=>?_) (fun e=>by cases e))
   have:U5 x y= -1:=by unfold U5;rw [iP o]
   rw [this] at hK;exact hK
 | false=>
  have c:=of_decide_eq_false d.symm
  refine Br.of (fun e=>by cases e) (fun _=>Br.of (fun e=>by cases e) (fun _=>?_))
  cases s' with
  | true=>
   have b:=of_decide_eq_true a.symm
   refine Br.of (fun _=>?_) (fun e=>by cases e)
   have:U5 x y=1:=by unfold U5;rw [iN o,iP o]
   rw [this] at hK;exact hK
  | false=>
   have b:=of_decide_eq_false a.symm
   refine Br.of (fun e=>by cases e) (fun _=>?_)
   exact E3 i.mag j.mag o ⟨_,rfl,by rw [c2 c b];exact hK⟩
end
section
variable {h g:aL} {K:VP} {A B:Option aK} {s s':Bool} {an ac bn bc m:Nat} {x y:Int}
def S3(hs:s=decide (x<0)):(s=true/\x= -(x.natAbs:Int))\/(s=false/\x=(x.natAbs:Int)):=by
 grind
def A0g(a b:Nat):(a:Int).tdiv b=((a/b:Nat):Int)/\(-(a:Int)).tdiv (-(b:Int))=((a/b:Nat):Int)/\(-(a:Int)).tdiv b= -((a/b:Nat):Int)/\(a:Int).tdiv (-(b:Int))= -((a/b:Nat):Int):=by
 simp_all
def Te(a b:Nat):(a:Int).tmod b=((a%b:Nat):Int)/\(-(a:Int)).tmod (-(b:Int))= -((a%b:Nat):Int)/\(-(a:Int)).tmod b= -((a%b:Nat):Int)/\(a:Int).tmod (-(b:Int))=((a%b:Nat):Int):=by
 refine ⟨(bF a b).symm,?_,?_,?_⟩
 ·rw [Int.neg_tmod,Int.tmod_neg,bF]
 ·rw [Int.neg_tmod,bF]
 ·rw [Int.tmod_neg,bF]
def Gm(i:ZI h s A an ac x)(j:ZI h s' B bn bc y)(hx:ZB m x)(hy:ZB m y)(hm:m<=6400000000)(hy0:y≠0)(hK:∀ s1 A1 n1 c1 s2 A2 n2 c2 h',h.le h'->ZI h' s1 A1 n1 c1 (x.tdiv y)->ZI h' s2 A2 n2 c2 (x.tmod y)->K (.tuple #[.agg #[.bool s1,.slice A1 n1 c1],.agg #[.bool s2,.slice A2 n2 c2]]) h'):aG prog 193 #[.agg #[.bool s,.slice A an ac],.agg #[.bool s',.slice B bn bc]] h K:=by
 have q:=i.len hx hm
 have u:=j.len hy hm
 have w:=j.zeroIff
 have a:=S3 i.sgn
 have b:=S3 j.sgn
 refine (fnk func193 (os:=[(4,[0,1,2,3,4,5,7,8,9,6,10,11,12])]) (own:=[2,3,4,5])) ?_
 refine E4 (fun e=>o) (fun _=>?_)
 refine L6 i.mag j.mag i.cap j.cap o o o ?_
 intro A1 r c1 A2 l c2 n g c d M1 M2
 refine ⟨_,_,_,_,_,_,rfl,?_⟩
 refine G6 (neg:= !(s==s')) M1 c ?_
 intro s1 k
 refine ⟨_,_,_,_,rfl,B3 _,?_⟩
 refine G6 (neg:=s) M2 d ?_
 intro s2 p
 refine ⟨_,_,_,_,rfl,B3 _,hK _ _ _ _ _ _ _ _ _ g ?_ ?_⟩
 ·have e:(if (!(s==s'))=true then -((x.natAbs/y.natAbs:Nat):Int) else ((x.natAbs/y.natAbs:Nat):Int))=x.tdiv y:=by
   have t:=A0g x.natAbs y.natAbs
   rcases a with ⟨rfl,hx'⟩|⟨rfl,hx'⟩<;>rcases b with ⟨rfl,hy'⟩|⟨rfl,hy'⟩<;>rw [<- hx',<- hy'] at t
   ·exact t.2.1.symm
   ·exact t.2.2.1.symm
   ·exact t.2.2.2.symm
   grind
  grind
 ·have e:(if s=true then -((x.natAbs%y.natAbs:Nat):Int) else ((x.natAbs%y.natAbs:Nat):Int))=x.tmod y:=by
   have t:=Te x.natAbs y.natAbs
   rcases a with ⟨rfl,hx'⟩|⟨rfl,hx'⟩<;>rcases b with ⟨rfl,hy'⟩|⟨rfl,hy'⟩<;>rw [<- hx',<- hy'] at t
   ·exact t.2.1.symm
   ·exact t.2.2.1.symm
   ·exact t.2.2.2.symm
   grind
  grind
def H2(i:ZI h s A an ac x)(hK:K (.bool (decide (x=0))) h):aG prog 121 #[.agg #[.bool s,.slice A an ac]] h K:=by
 have a:=i.zeroIff
 refine (fnk func121 (own:=[1])) ?_
 have:((an:Int)==0)=decide (x=0):=by
  grind
 grind
def J2(i:ZI h s A an ac x)(hK:K (.bool (decide (x=1))) h):aG prog 118 #[.agg #[.bool s,.slice A an ac]] h K:=by
 have c:=S3 i.sgn
 have p:=i.zeroIff
 have M:=i.mag
 refine (fnk func118 (own:=[1])) ?_
 rcases c with ⟨rfl,g⟩|⟨rfl,g⟩
 ·refine Br.of (fun e=>by cases e) (fun _=>?_)
  rw [show decide (x=1)=false from gz0] at hK;exact hK
 ·refine Br.of (fun _=>?_) (fun e=>by cases e)
  obtain ⟨xs,a,d,n,m,b⟩:=M
  refine E4 (fun e=>?_) (fun e=>?_)
  ·obtain ⟨w,rfl⟩:∃ w,xs=[w]:=by
    rcases xs with _|⟨w,_|⟨k,r⟩⟩
    ·grind
    ·grind
    grind
   refine d.load a o o ?_
   rw [Y6] at b
   grind
  ·have:¬ x=1:=by
    rintro rfl
    have l:=i.mag.len_le (j:=1) dc dc
    omega
   grind
def N3(i:ZI h s A an ac x)(j:ZI h s' B bn bc y)(hx:ZB m x)(hy:ZB m y)(hm:m<=6400000000)(hy0:y≠0)(hK:∀ s1 A1 n1 c1 h',h.le h'->ZI h' s1 A1 n1 c1 (x.tdiv y)->K (.agg #[.bool s1,.slice A1 n1 c1]) h'):aG prog 139 #[.agg #[.bool s,.slice A an ac],.agg #[.bool s',.slice B bn bc]] h K:=by
 refine (fnk func139 (own:=[2,3,4,5,6])) ?_
 refine J2 j ⟨_,rfl,B4 (fun e=>?_) (fun e=>?_)⟩
 ·subst e
  exact hK _ _ _ _ _ (B3 _) gz0
 ·refine Gm i j hx hy hm hy0 ?_
  grind
def Qr(i:ZI h s A an ac x)(j:ZI h s' B bn bc y)(hx:ZB m x)(hm:m<=6400000000)(hK:K (.bool (decide (x=y))) h):aG prog 252 #[.agg #[.bool s,.slice A an ac],.agg #[.bool s',.slice B bn bc]] h K:=by
 have d:=i.len hx hm
 have c:=i.sgn
 have b:=j.sgn
 refine (fnk func252 (own:=[2,3])) ?_
 refine Br.of (fun e=>?_) (fun e=>?_)
 ·refine E3 i.mag j.mag o ⟨_,rfl,?_⟩
  have:(U5 (x.natAbs:Int) y.natAbs==0)=decide (x=y):=by
   by_cases a:x=y
   ·subst a;unfold U5;simp
   ·unfold U5
    grind
  grind
 ·have:¬ x=y:=gz0
  grind
def Hv{n:Int}(h1: -9223372036854775808<=n)(h2:n<=9223372036854775807)(hK:∀ s1 A1 n1 c1 h',h.le h'->ZI h' s1 A1 n1 c1 n->K (.agg #[.bool s1,.slice A1 n1 c1]) h'):aG prog 187 #[I n] h K:=by
 refine (fnk func187 (own:=[2])) ?_
 refine B4 (fun d=>?_) (fun d=>?_)
 ·have e:C4 (0-C4 n)=(n.natAbs:Int):=by rw [F0,F0];omega
  rw [e]
  refine R7 o ?_
  intro A1 c c1 h1 b a M1
  exact ⟨_,_,_,rfl,hK _ _ _ _ _ b ⟨a,M1,gz0⟩⟩
 ·have e:C4 n=(n.natAbs:Int):=by rw [F0];omega
  rw [e]
  refine R7 o ?_
  intro A1 c c1 h1 b a M1
  exact ⟨_,_,_,rfl,hK _ _ _ _ _ b ⟨a,M1,gz0⟩⟩
end
def Uj{P:dR}{t d e:aQ}(ht:P.underlying t=some .string)(hd:P.underlying d=some (.slice e))(he:P.underlying e=some (.int .u8)){h:aL}{l:List UInt8}{K:VP}
 (x:∀ A c h',h.le h'->l.length<=c->SlV h' A (yv l)->K (.slice A l.length c) h'):wpH P (convert t d (.string (bs l))) K h:=by
 unfold convert
 simp only [B9,D3 ht,D3 hd,D3 he]
 unfold Conv.stringToBytes
 simp only [B9]
 refine Cc rfl (fun q=>?_)
 have n:(bs l).size=l.length:=by rfl
 have a:l.length<=(Question.appendCap (bs l).size 0 e).cut q:=by
  simp only [Question.cut];omega
 generalize (Question.appendCap (bs l).size 0 e).cut q=cap at *
 intro b s
 generalize hcs:((bs l).data.map (fun b=>aN .u8 b.toNat)++bL (cap-(bs l).size) (aN .u8 0))=cs
 have j:h.le (h.put b (.cells cs e (cs.size,cs.size+1))):=Heap.le_put _ s
 have m:(h.put b (.cells cs e)).freeze { block:=b,off:=cs.size } 1=h.put b (.cells cs e (cs.size,cs.size+1)):=by
  unfold Heap.freeze
  rw [iN dc]
  funext k
  by_cases g:k=b
  ·subst g
   simp only [if_true,B8,Option.map_some]
   rfl
  ·rw [iN g,B6 _ _ g,B6 _ _ g]
 refine ⟨cs,e,_,B8 _ _ _,?_⟩
 refine ⟨⟨_,B8 _ _ _⟩,?_⟩
 show K (.slice (some ⟨b,0,none⟩) (bs l).size cap) ((h.put b (.cells cs e)).freeze { block:=b,off:=cs.size } 1)
 rw [m,n]
 refine x _ _ _ j a (.inr ⟨_,rfl,?_⟩)
 intro i v p
 have u:i<l.length:=by
  have:=(List.getElem?_eq_some_iff.1 p).1
  simpa [yv] using this
 have r:Addr.add ⟨b,0,none⟩ i=⟨b,i,none⟩:=by rw [G8,dD]
 rw [r,D5,<- hcs,Array.getElem?_append_left (by simp_all)]
 rw [<- p]
 simp [yv,bs]
def Sg{x y:Int}(hy:0<y):(x.tmod y<0->x/y=x.tdiv y-1)/\(0<=x.tmod y->x/y=x.tdiv y):=by
 have b:=Int.mul_tdiv_add_tmod x y
 have d: -y<x.tmod y/\x.tmod y<y:=by
  have c:=Nat.mod_lt x.natAbs (show 0<y.natAbs from o)
  have t:=Te x.natAbs y.natAbs
  grind
 refine ⟨fun h=>?_,fun h=>?_⟩
 ·refine (Nh (a:=x.tmod y+y) ?_ o o).1
  grind
 ·exact (Nh (a:=x.tmod y) o h o).1
def ZB.tdiv{m:Nat}{x y:Int}(h:ZB m x):ZB m (x.tdiv y):=by
 unfold ZB at *
 rw [Int.natAbs_tdiv]
 exact Nat.lt_of_le_of_lt (aT _ _) h
section
variable {h g:aL} {K:VP} {A B:Option aK} {s s':Bool} {an ac bn bc m:Nat} {x y:Int}
def Jq(i:ZI h s A an ac x)(j:ZI h s' B bn bc y)(hx:ZB m x)(hy:ZB m y)(hm:m+1<=6400000000)(hy0:0<y)(hK:∀ s1 A1 n1 c1 h',h.le h'->ZI h' s1 A1 n1 c1 (x/y)->K (.agg #[.bool s1,.slice A1 n1 c1]) h'):aG prog 133 #[.agg #[.bool s,.slice A an ac],.agg #[.bool s',.slice B bn bc]] h K:=by
 have k:=Sg (x:=x) hy0
 refine (fnk func133 (os:=[(2,[0,2,1,3,4,5])]) (own:=[2,3,4,5,6])) ?_
 refine Gm i j hx hy o o ?_
 intro s1 A1 n1 c1 C A2 D c2 F g d p
 refine ⟨_,_,_,_,_,_,_,_,rfl,?_⟩
 refine U8 p ⟨_,rfl,B3 _,?_⟩
 refine U8 (j.mono g) ⟨_,rfl,B3 _,?_⟩
 rw [aP hy0,Int.mul_one]
 have L: -1<=Int.sign (x.tmod y)/\Int.sign (x.tmod y)<=1:=by
  rcases Int.lt_trichotomy (x.tmod y) 0 with h|h|h
  ·rw [bD h];omega
  ·rw [h];decide
  ·rw [aP h];omega
 rw [B5 o o]
 refine B4 (fun e=>?_) (fun e=>?_)
 ·have b:x.tmod y<0:=Int.sign_neg_iff.1 e
  refine Hv o o ?_
  intro M A3 w G H c q
  refine ⟨_,_,_,_,rfl,c,?_⟩
  refine Vx (m:=m+1) (d.mono c) q (hx.tdiv.mono o) ?_ o ?_
  ·unfold ZB
   have:1<=2^m:=Nat.one_le_two_pow
   rw [dE];simp;omega
  ·intro u A4 z N E l n
   rw [<- k.1 b] at n
   exact ⟨_,_,_,_,rfl,l,hK _ _ _ _ _ (A0 g (A0 c l)) n⟩
 ·have a:0<=x.tmod y:=by
   by_cases r:x.tmod y<0
   ·exact absurd (by rw [bD r];decide) e
   ·omega
  rw [<- k.2 a] at d
  exact hK _ _ _ _ _ g d
end
def Ux{ws:List Int}{k:Nat}(d:Dig b64 ws)(hl:ws.length=k+1)(h:b64^k<=val b64 ws):Norm ws:=by
 intro e
 have:=(Cd (B:=b64) dc d hl).1
 grind
section
variable {h g:aL} {K:VP} {A B:Option aK} {ac bc:Nat}
def A1r{Invv:LP}{muv:LN}{d1:ByteArray}{n c:Nat}{chunk base:Int}{us:List Int}{hp hp2:aL}(p:Pw hp2 g A n c us)(hn:n=us.length)(du:Dig b64 us)(nu:Norm us)(hl:n<=9000000000000)(hch:0<=chunk/\chunk<18446744073709551616)(hba:1<=base/\base<18446744073709551616)
 (hK:∀ A' n' c' us' h' g',g.le g'->Pw h' g' A' n' c' us'->n'=us'.length->n'<=n+1->Dig b64 us'->Norm us'->val b64 us'=chunk+base*val b64 us->Invv [.string ((d1).extract ((B7 ((cN (B7 (((cX d1:Nat):Int)-(1:Int))) (19:Int))+(1:Int))).toNat) ((d1).size)),.slice A' n' c'] h'/\muv [.string ((d1).extract ((B7 ((cN (B7 (((cX d1:Nat):Int)-(1:Int))) (19:Int))+(1:Int))).toNat) ((d1).size)),.slice A' n' c'] h'<muv [.string d1,.slice A n c] hp):
 S9 prog Invv muv d1 A n c chunk base hp hp2:=by
 have G:=C3 dc du
 refine ⟨fun l q=>∃ (k:Nat) (e:Int) (d:List Int),l=[U e,I k]/\k<=n/\(0<=e/\e<18446744073709551616)/\d.length=us.length/\Dig b64 d/\Pw q g A n c d/\d.drop k=us.drop k/\val b64 (d.take k)+b64^k*e=chunk+base*val b64 (us.take k),fun l _=>n-(iAt l 1).toNat,⟨0,chunk,us,rfl,o,hch,rfl,du,p,rfl,by simp [val]⟩,?_⟩
 rintro e i q ⟨k,F,d,aa,hk,j,s,y,pw,z,B⟩
 obtain ⟨rfl,rfl⟩:e=F/\i=(k:Int):=gz0
 refine B4 (fun h1=>?_) (fun h1=>?_)
 ·have O:=I5 y k
  have E:=F9 z
  have T:=C5 b64 us k
  have D:d≠[]:=by rintro rfl;simp at s;omega
  obtain ⟨b,Q,w,hc⟩:=Y2 pw D
  refine w.sl.load o o o ?_
  simp only [aC]
  generalize hx:d.getD k 0=x at *
  refine L3 O o j ⟨_,_,rfl,?_⟩
  obtain ⟨a,R,_⟩:=SlV.at w.sl (i:=k) (by simp_all)
  refine ⟨a,R,o,o,w.storeN D8 R o ?_⟩
  intro h4 S
  have W:=Es O (show 0<=base/\base<18446744073709551616 from o) j
  have kP:=Pc (x*base+e)
  have X:B7 ((k:Int)+1)=((k+1:Nat):Int):=by rw [B5 o o];omega
  rw [X]
  have H:=S.priv (m:=n) (c:=c) (by simp_all) (by simp_all) (by simp_all)
  rw [aH (by simp_all)] at H
  refine ⟨⟨k+1,_,_,rfl,o,W,by simp_all,y.set (W5 _),H,?_,?_⟩,by simp only [iAt,aE,aF];omega⟩
  ·rw [E2 o];exact E6 z
  ·rw [C9 o,F5,aO,aW o,dH,T,<- E,kP]
   grind
 ·obtain rfl:k=n:=o
  rw [aH (show d.length<=k from o),aH (show us.length<=k from o)] at B
  refine H9 (fun N=>?_) (fun N=>?_)
  ·refine Bf I6 pw rfl rfl o o ?_
   intro A5 c5 h5 g5 V L
   rw [<- dB (f:=aN .u64),<- cQ] at L
   refine hK A5 (k+1) c5 (d++[e]) h5 g5 V L (by simp_all) o (y.append (Dig.one j)) ?_ ?_
   ·unfold Norm;simp_all
   ·rw [F5,<- B,s,<- hn]
  ·subst N
   rw [Int.mul_zero,Int.add_zero] at B
   refine hK A k c d q g (B3 _) pw o o y ?_ B
   rcases us with _|⟨u,r⟩
   ·simp_all
   ·refine Ux (k:=r.length) y o ?_
    have M:Mw hp2 A k (val b64 (u::r)):=⟨_,hn,p.slV,du,nu,rfl⟩
    have C:=M.ge dc (by simp_all)
    rw [show k-1=r.length by simp_all] at C
    have:1*val b64 (u::r)<=base*val b64 (u::r):=cA hba.1 G
    omega
end
section
variable {h g:aL} {K:VP} {A B:Option aK} {ac bc:Nat}
def A2a{k:Nat}(h:k<=19):10^k<=10000000000000000000:=bO (aJ dc h) dc
def Vl{Invv:LP}{muv:LN}{d1:ByteArray}{n c tn:Nat}{T:Option aK}{l:List UInt8}{hp hp1:aL}(sv:SlV hp1 T (yv l))(ht:tn=l.length)(hd:∀ c∈l,G4 c)(h19:l.length<=19)
 (hK:(0<=B7 ((cN (B7 (((cX d1:Nat):Int)-(1:Int))) (19:Int))+(1:Int))/\B7 ((cN (B7 (((cX d1:Nat):Int)-(1:Int))) (19:Int))+(1:Int))<=(((d1).size:Nat):Int))/\S9 prog Invv muv d1 A n c (J9 l:Int) ((10^l.length:Nat):Int) hp hp1):
 Dc prog Invv muv d1 A n c T tn hp1 hp:=by
 refine ⟨fun s hp=>hp=hp1/\∃ k:Nat,s=[U (J9 (l.take k)),U ((10^k:Nat):Int),I k]/\k<=l.length,fun s _=>l.length-(iAt s 2).toNat,⟨rfl,0,by rfl,o⟩,?_⟩
 rintro C D i z ⟨rfl,k,g,B⟩
 obtain ⟨rfl,rfl,rfl⟩:=g
 refine B4 (fun x=>?_) (fun x=>?_)
 ·have b:k<l.length:=o
  obtain ⟨a,u,m⟩:=SlV.at sv (i:=k) (by rw [Az];omega)
  have j:=hd l[k] (cM b)
  have e:=Dl (l:=l.take k) (fun c m=>hd c (cW m))
  rw [aO,aW o] at e
  have r:=A2a (k:=k+1) o
  have d:10^(k+1)=10^k*10:=dE _ _
  refine ⟨a,u,o,o,((l[k].toNat:Nat):Int),?_,?_⟩
  ·rw [aC,bM,m];simp [yv]
  ·unfold G4 at j
   have p:C4 (wu8 (((l[k].toNat:Nat):Int)-48))=((l[k].toNat-48:Nat):Int):=by
    rw [Sy o o,C0 o o];omega
   have y:C4 (C4 (10*((J9 (l.take k):Nat):Int))+C4 (wu8 (((l[k].toNat:Nat):Int)-48)))=((J9 (l.take (k+1)):Nat):Int):=by
    rw [p,C0 (n:=10*((J9 (l.take k):Nat):Int)) o o,C0 o o,bU b,Ew];omega
   have q:C4 (((10^k:Nat):Int)*10)=((10^(k+1):Nat):Int):=by rw [C0 o o,d];simp
   have w:B7 ((k:Int)+1)=((k+1:Nat):Int):=by rw [B5 o o];omega
   rw [y,q,w]
   exact ⟨⟨rfl,k+1,rfl,o⟩,by simp only [iAt,aE,aF];omega⟩
 grind
def Hc{l:List UInt8}(hd:∀ c∈l,G4 c)(hl:l.length<=140737488351232)(hK:∀ A n c h',h.le h'->n<=c->Mw h' A n (J9 l:Int)->K (.slice A n c) h'):aG prog 257 #[.string (bs l)] h K:=by
 refine Jn _ ?_
 refine ⟨fun s F=>∃ (e a:List UInt8) (b:List Int) (A:Option aK) (n c:Nat) (g:aL),s=[.string (bs a),.slice A n c]/\l=e++a/\h.le g/\Pw F g A n c b/\n=b.length/\Dig b64 b/\Norm b/\val b64 b=(J9 e:Int)/\19*n<=e.length+18/\(n=0\/a.length%19=0),fun s _=>match s with|[.string d,_]=>d.size|_=>0,⟨[],l,[],none,0,0,h,rfl,rfl,B3 h,Priv.nil _ _ _ _,rfl,Dig.nil,Norm.nil,rfl,o,.inl rfl⟩,?_⟩
 rintro d1 A1 n1 c1 F ⟨e,a,b,A2,n2,c2,g,hs,i,D,p,L,C,H,M,X,N⟩
 obtain ⟨rfl,rfl,rfl,rfl⟩:=hs
 have E:l.length=e.length+a.length:=gz0
 rw [I9]
 refine B4 (fun S=>?_) (fun S=>?_)
 ·obtain ⟨sz,hsz⟩:∃ sz,sz=(a.length-1)%19+1:=⟨_,rfl⟩
  have z:B7 (cN (B7 ((a.length:Int)-1)) 19+1)=(sz:Int):=by
   rw [B5 (n:=(a.length:Int)-1) o o,Int.tmod_eq_emod_of_nonneg o,B5 o o];omega
  rw [z,aC,N2]
  refine ⟨⟨o,o⟩,Uj O5 Bc.und V7 ?_⟩
  intro T tc h2 l2 ab G
  refine ⟨_,_,_,rfl,?_⟩
  have W:(a.drop 0).take (sz-0)=a.take sz:=by simp
  rw [W] at G ⊢
  have B:(a.take sz).length=sz:=gz0
  obtain ⟨g2,m,Q⟩:=p.after l2
  refine Vl G rfl (fun c hc=>hd c gz0) o ?_
  rw [I9,z]
  refine ⟨⟨o,o⟩,?_⟩
  have j:=Dl (l:=a.take sz) (fun c hc=>hd c gz0)
  rw [B] at j ⊢
  have ht:=A2a (k:=sz) o
  refine A1r Q L C H o o o ?_
  intro A' O R r h' V q p' x aa w y u
  rw [I9,z,aC,N2,aH gz0]
  refine ⟨⟨e++a.take sz,a.drop sz,r,A',O,R,V,rfl,by simp_all,A0 D (A0 m q),p',x,w,y,?_,?_,?_⟩,?_⟩
  ·rw [u,M,Dm,B,dN,aY,Int.mul_comm];omega
  ·rw [aM,B];omega
  ·rw [cL];omega
  ·simp only [I9,cL];omega
 ·have:a=[]:=aI o
  subst this
  rw [List.append_nil] at i
  subst i
  exact hK _ _ _ _ (A0 D p.le) p.2.1 ⟨b,L,p.slV,C,H,M⟩
end
def zb(l:List UInt8):List Int:=l.map fun c=>(c.toNat:Int)
def Au(l:List UInt8):(zb l).length=l.length:=by simp [zb]
def Ns(a b:List UInt8):zb (a++b)=zb a++zb b:=by simp [zb]
def A55(l:List UInt8):(zb l).map (aN .u8)=yv l:=by simp [zb,yv]
def Un:∀ v,v<100->F6[2*v+1]? = some (dch (v%10))/\F6[2*v]? = some (dch (v/10)):=by decide +kernel
def Ny(a:Nat):cN (a:Int) 100=((a%100:Nat):Int):=(bF a 100).symm
def tm4(a:Nat):cN (a:Int) 10000=((a%10000:Nat):Int):=(bF a 10000).symm
def tm8(a:Nat):cN (a:Int) 100000000=((a%100000000:Nat):Int):=(bF a 100000000).symm
def Rd(a:Nat):dG (a:Int) 100=((a/100:Nat):Int):=(bG a 100).symm
def td4(a:Nat):dG (a:Int) 10000=((a/10000:Nat):Int):=(bG a 10000).symm
def td8(a:Nat):dG (a:Int) 100000000=((a/100000000:Nat):Int):=(bG a 100000000).symm
def As{a:Nat}(h:a<4294967296):G5 (a:Int)=a:=Wb o o
def Er(a:Nat):(a:Int)*2=((2*a:Nat):Int):=o
def Ss(a:Nat):(a:Int)+1=((a+1:Nat):Int):=o
def FBI(g:aL)(b:Nat)(e:aQ)(A:Option aK)(pre post:List bX)(N u0 nd u:Nat)(hp:aL):Prop:=
 ∃ (ys:List Int) (t:List UInt8),Win .u8 hp g b e A pre (ys++zb t) post/\ys.length=nd/\nd+t.length=N/\pad N u0=pad nd u++t/\u<10^nd
section
variable {P:dR} {h g:aL} {K:VP} {A:Option aK} {b:Nat} {e:aQ} {pre post:List bX}
def Df(one:P.cellsOf 5=1/\(P.info? 5).isSome=true){N u0 j u:Nat}(f:FBI g b e A pre post N u0 (j+2) u h){E1 E0 I1 I2:Int}(h1:E1=((2*(u%100)+1:Nat):Int))(h0:E0=((2*(u%100):Nat):Int))(hI1:I1=((j+1:Nat):Int))(hI2:I2=(j:Int)){C:aL->Prop}(hC:∀ h',FBI g b e A pre post N u0 j (u/100) h'->C h'):
 ∃ (t:UInt8),(0<=E1/\F6[E1.toNat]? = some t)/\∃ (t0:UInt8),(0<=E0/\F6[E0.toNat]? = some t0)/\∃ a1,A=some a1/\0<=I1/\I1<((N:Nat):Int)/\wpH P (Instr.storeAt 5 (.pointer (some (Addr.add a1 (I1.toNat*1)))) (Y ((t.toNat:Nat):Int))) (fun _ hp1=>∃ a2,A=some a2/\0<=I2/\I2<((N:Nat):Int)/\wpH P (Instr.storeAt 5 (.pointer (some (Addr.add a2 (I2.toNat*1)))) (Y ((t0.toNat:Nat):Int))) (fun _ hp2=>C hp2) hp1) h:=by
 subst h1 h0 hI1 hI2
 obtain ⟨c,t,w,y,E,i,D⟩:=f
 obtain ⟨n,m⟩:=Un (u%100) o
 have r:∃ a,A=some a:=by
  rcases w.at_ with h0|h0
  ·simp_all
  grind
 obtain ⟨a,d⟩:=r
 have k:(c++zb t).length=N:=by rw [aM,Au];omega
 refine ⟨_,⟨o,by exact n⟩,_,⟨o,by exact m⟩,a,d,o,o,?_⟩
 refine w.storeN one d o ?_
 intro z q
 refine ⟨a,d,o,o,?_⟩
 refine q.storeN one d gz0 ?_
 intro p B
 refine hC p ⟨c.take j,[dch (u/10%10),dch (u%10)]++t,?_,gz0,gz0,?_,?_⟩
 ·have x:((c++zb t).set (j+1) ((dch (u%100%10)).toNat:Int)).set j ((dch (u%100/10)).toNat:Int)=c.take j++zb ([dch (u/10%10),dch (u%10)]++t):=by
   have s:c=c.take j++[c[j]'o,c[j+1]'o]:=by
    conv=>lhs;rw [<- bZ j c]
    congr 1
    rw [cI o,cI o,cP o]
   have l:(c.take j).length=j:=gz0
   rw [s,show u%100%10=u%10 from o,show u%100/10=u/10%10 from o]
   generalize c[j]'_=y0
   generalize c[j+1]'_=y1
   rw [dK o,aH (show (c.take j).length<=j from o)]
   generalize c.take j=zs at *
   rw [bW,List.set_append_right _ _ o,List.set_append_right _ _ o,l,Ns]
   simp [zb]
  grind
 ·rw [i,A44];simp
 grind
end
section
variable {h g:aL} {K:VP} {A:Option aK} {b:Nat} {e:aQ} {pre post:List bX}
def Dz:prog.cellsOf 5=1/\(prog.info? 5).isSome=true:=Ul
def A79{N u0 nd x:Nat}(hN:N<=24)(f:FBI g b e A pre post N u0 nd x h)(hn:nd<2)(hK:∀ h',Win .u8 h' g b e A pre (zb (pad N u0)) post->K (.tuple #[]) h'):Am prog A N K nd x h:=by
 obtain ⟨c,t,w,k,hN,i,u⟩:=f
 refine B4 (fun m=>?_) (fun m=>?_)
 ·obtain rfl:nd=1:=o
  obtain ⟨y,rfl⟩:∃ y,c=[y]:=by
   rcases c with _|⟨y,_|⟨z,r⟩⟩
   ·grind
   ·grind
   grind
  have q:∃ a,A=some a:=by
   rcases w.at_ with n|n
   ·grind
   grind
  obtain ⟨a,j⟩:=q
  refine ⟨a,j,o,o,?_⟩
  refine w.storeN Dz j (by simp) ?_
  intro l p
  refine hK l ?_
  have d:x<10:=o
  have ev:wu8 (G5 (48+(x:Int)))=((dch x).toNat:Int):=by
   rw [Wb o o,Sy o o,Bn d];omega
  rw [ev] at p
  have s:pad 1 x=[dch x]:=by
   rw [Hr,Xn _ o,show x%10=x from o];rfl
  rw [i,s,Ns]
  assumption
 ·obtain rfl:nd=0:=o
  have:c=[]:=aI k
  subst this
  have d:x=0:=o
  refine hK h ?_
  rw [i,Xn _ d]
  assumption
def A78{N u0 nd x:Nat}(hN:N<=24)(f:FBI g b e A pre post N u0 nd x h)(hn:nd<4)(hK:∀ h',Win .u8 h' g b e A pre (zb (pad N u0)) post->K (.tuple #[]) h'):An prog A N K nd x h:=by
 have w:x<10000:=by
  obtain ⟨_,_,_,_,_,_,n⟩:=f
  exact aU n (bO (aJ dc (show nd<=4 from o)) dc)
 refine ⟨fun l d=>∃ nd x:Nat,l=[I nd,U32 x]/\FBI g b e A pre post N u0 nd x d/\nd<2,B4 (fun m=>?_) (fun m=>?_),?_⟩
 ·obtain ⟨j,rfl⟩:∃ j,nd=j+2:=⟨nd-2,o⟩
  refine Df Dz f ?_ ?_ (by rw [B5 o o];omega) (by rw [B5 o o];omega) ?_
  ·simp (disch:=omega) only [Ny,As,Er,Ss]
  ·simp (disch:=omega) only [Ny,As,Er]
  ·intro u i
   refine ⟨j,x/100,?_,i,o⟩
   rw [B5 o o,Rd,As o]
   grind
 ·grind
 ·rintro c r d ⟨q,p,s,k,a⟩
  obtain ⟨rfl,rfl⟩:c=(q:Int)/\r=(p:Int):=gz0
  exact A79 hN k a hK
def P4{u an ac:Nat}{xs:List Int}(w:Win .u8 h g b e A pre xs post)(hn:an=xs.length)(hN:an<=24)(hu:u<10^an)(hu2:u<18446744073709551616)(hK:∀ h',Win .u8 h' g b e A pre (zb (pad an u)) post->K (.tuple #[]) h'):aG prog 241 #[.slice A an ac,U (u:Int)] h K:=by
 refine Hm _ _ _ _ ?_
 refine ⟨fun l d=>∃ a v:Nat,l=[U v,I a]/\FBI g b e A pre post an u a v d/\v<=u,fun l _=>(iAt l 1).toNat,⟨an,u,rfl,⟨xs,[],by simpa [zb] using w,hn.symm,by simp,by simp,hu⟩,aZ _⟩,?_⟩
 rintro D i d ⟨a,v,Q,f,R⟩
 obtain ⟨rfl,rfl⟩:D=(v:Int)/\i=(a:Int):=gz0
 have N:a<=an:=by obtain ⟨_,_,_,_,hN,_,_⟩:=f;omega
 refine B4 (fun y=>?_) (fun y=>?_)
 ·obtain ⟨j,rfl⟩:∃ j,a=j+8:=⟨a-8,o⟩
  refine Df (j:=j+6) Dz f ?_ ?_ (by rw [B5 o o];omega) (by rw [B5 o o];omega) ?_
  ·simp (disch:=omega) only [tm8,tm4,Ny,As,Er,Ss];omega
  ·simp (disch:=omega) only [tm8,tm4,Ny,As,Er];omega
  intro p L
  refine Df (j:=j+4) Dz L ?_ ?_ (by rw [B5 o o];omega) (by rw [B5 o o];omega) ?_
  ·simp (disch:=omega) only [tm8,tm4,Rd,As,Er,Ss];omega
  ·simp (disch:=omega) only [tm8,tm4,Rd,As,Er];omega
  intro G c
  refine Df (j:=j+2) Dz c ?_ ?_ (by rw [B5 o o];omega) (by rw [B5 o o];omega) ?_
  ·simp (disch:=omega) only [tm8,Ny,td4,As,Er,Ss];omega
  ·simp (disch:=omega) only [tm8,Ny,td4,As,Er];omega
  intro s n
  refine Df (j:=j) Dz n ?_ ?_ (by rw [B5 o o];omega) (by rw [B5 o o];omega) ?_
  ·simp (disch:=omega) only [tm8,Rd,td4,As,Er,Ss];omega
  ·simp (disch:=omega) only [tm8,Rd,td4,As,Er];omega
  intro O E
  have M:B7 (((j+8:Nat):Int)-8)=(j:Int):=by rw [B5 o o];omega
  have B:C4 (dG (v:Int) 100000000)=((v/100/100/100/100:Nat):Int):=by
   rw [td8,C0 o o];omega
  rw [M,B]
  exact ⟨⟨j,_,rfl,E,o⟩,by simp only [iAt,aE,aF];omega⟩
 ·have z:v<100000000:=by
   obtain ⟨_,_,_,_,_,_,hu⟩:=f
   exact aU hu (bO (aJ dc (show a<=8 from o)) dc)
  refine ⟨fun l d=>∃ a x:Nat,l=[I a,U32 x]/\FBI g b e A pre post an u a x d/\a<4,B4 (fun p=>?_) (fun p=>?_),?_⟩
  ·obtain ⟨j,rfl⟩:∃ j,a=j+4:=⟨a-4,o⟩
   refine Df (j:=j+2) Dz f ?_ ?_ (by rw [B5 o o];omega) (by rw [B5 o o];omega) ?_
   ·simp (disch:=omega) only [tm4,Ny,As,Er,Ss];omega
   ·simp (disch:=omega) only [tm4,Ny,As,Er];omega
   intro G c
   refine Df (j:=j) Dz c ?_ ?_ (by rw [B5 o o];omega) (by rw [B5 o o];omega) ?_
   ·simp (disch:=omega) only [tm4,Rd,As,Er,Ss];omega
   ·simp (disch:=omega) only [tm4,Rd,As,Er];omega
   intro s n
   refine ⟨j,v/100/100,?_,n,o⟩
   rw [B5 o o,As o,td4,As o]
   grind
  ·exact ⟨a,v,by rw [As o],f,o⟩
  ·rintro m H C ⟨r,q,F,c,k⟩
   obtain ⟨rfl,rfl⟩:m=(r:Int)/\H=(q:Int):=gz0
   exact A78 hN c k hK
end
def Iz{P:dR}{h:aL}{l:List UInt8}{m:Nat}{ys:List bX}(hy:ys=yv l)(hm:m=l.length){K:Array bX->aL->Prop}(x:K ys.toArray h):wpH P (Builtin.firstCells 1 m (.string (bs l))) K h:=by
 show K _ h
 have e:((bs l).extract 0 l.length).data.map (fun b=>aN .u8 b.toNat)=(yv l).toArray:=by
  apply Array.toList_inj.1
  simp [bs,yv]
 grind
def Jk{P:dR}{t e e' ty:aQ}{z:bX}{bytes:Nat}(st:SliceT P t e z 1 bytes){h g:aL}{A:Option aK}{n c:Nat}{xs:List bX}(p:bI h g e' 1 A n c xs)
 {B:Option aK} {m d:Nat} {ys:List bX} (hy:ys.length=m) (hc:SlV h B ys) (h1:∀ v∈ys,Ju v=true) (hb:(2*(n+m)+192)*bytes<=281474976710656) (hm:n+m<=9223372036854775807) {K:VP}
 (x1:n+m<=c->∀ h',bI h' g e' 1 A (n+m) c (xs++ys)->K (.slice A (n+m) c) h') (x2:c<n+m->∀ A' c' h' g',g.le g'->bI h' g' e 1 A' (n+m) c' (xs++ys)->K (.slice A' (n+m) c') h'):
 wpH P (bK #[t,t] ty #[.slice A n c,.slice B m d]) K h:=by
 obtain ⟨i,y,X,L,x⟩:=st.parts
 have S:=p.1
 unfold bK
 simp only [List.getElem?_toArray,aE,aF,B9,D3 st.und,H5 y,F4,cH,if_false,Builtin.lenOf,L,Bool.not_false,if_true]
 by_cases k:n+m<=c
 ·simp only [k,if_true,B9]
  refine H4 o hc ?_
  rcases p.2.2 with ⟨F,T⟩|⟨b,O,W,Q,hh,D,G⟩
  ·have R:n=0:=o
   subst R;subst T
   have H:ys=[]:=aI o
   have s:K (.slice A (0+m) c) h:=x1 k h ⟨gz0,o,.inl ⟨F,rfl⟩⟩
   subst H
   cases A with
   | none=>exact s
   | some a=>exact s
  ·subst W
   simp only [B9,G8,dD]
   rw [hh]
   rw [bM] at D G ⊢
   refine G2 ys.toArray.toList n 0 O ?_ (fun v hv=>h1 v o) ?_
   ·grind
   ·refine x1 k _ ⟨gz0,k,.inr ⟨b,_,rfl,Q,rfl,?_,?_⟩⟩
    ·simp only [G9,aM,aO,cL,D,hy];omega
    ·unfold G9
     grind
 ·have r:c<n+m:=o
  simp only [k,if_false,B9,E8 y,x]
  have M:=Fv r
  have aa:Builtin.nextslicecap (n+m) c*bytes<=281474976710656:=bO (Nat.mul_le_mul_right _ M) hb
  rw [iN (by rintro ⟨h',_⟩;simp only [IntKind.max,IntKind.signed,IntKind.bits] at h';omega)]
  simp only [B9,E8 y,x]
  rw [iN o]
  simp only [F4,B9]
  refine Cc rfl fun tt=>?_
  simp only [Y4,E8 y]
  have w:xs=[]\/∃ a,A=some a/\∀ j v,xs[j]? = some v->h.cell? (a.add j)=some v:=p.slV
  refine H4 p.1 w ?_
  refine H4 o hc ?_
  simp only [I0 y X,O4]
  intro b l
  have C:∃ q,(Question.appendCap (n+m) c e).cut tt=q/\n+m<=q:=⟨_,rfl,by simp only [Question.cut];omega⟩
  obtain ⟨q,N,E⟩:=C
  rw [N]
  have u:=p.le
  refine x2 r _ q _ h u ⟨gz0,E,.inr ⟨b,xs++ys++(bB z.cells (q-(n+m))).toList,rfl,l,?_,?_,?_⟩⟩
  ·congr 1;simp
  ·have V:(bB z.cells (q-(n+m))).toList.length=q-(n+m):=by simp [bB,st.cells]
   grind
  grind
def Vr{P:dR}{t e e' ty t2:aQ}{z:bX}{bytes:Nat}(st:SliceT P t e z 1 bytes)(hu:P.underlying t2=some .string){h g:aL}{A:Option aK}{n c:Nat}{xs:List bX}(p:bI h g e' 1 A n c xs)
 {m:Nat} {l:List UInt8} {ys:List bX} (hly:ys=yv l) (hm0:m=l.length) (hy:ys.length=m) (h1:∀ v∈ys,Ju v=true) (hb:(2*(n+m)+192)*bytes<=281474976710656) (hm:n+m<=9223372036854775807) {K:VP}
 (x1:n+m<=c->∀ h',bI h' g e' 1 A (n+m) c (xs++ys)->K (.slice A (n+m) c) h') (x2:c<n+m->∀ A' c' h' g',g.le g'->bI h' g' e 1 A' (n+m) c' (xs++ys)->K (.slice A' (n+m) c') h'):
 wpH P (bK #[t,t2] ty #[.slice A n c,.string (bs l)]) K h:=by
 obtain ⟨i,y,W,H,x⟩:=st.parts
 have R:=p.1
 unfold bK
 simp only [List.getElem?_toArray,aE,aF,B9,D3 st.und,D3 hu,H5 y,F4,cH,if_false,Builtin.lenOf,H,Bool.not_false,if_true,I9,<- hm0]
 by_cases d:n+m<=c
 ·simp only [d,if_true,B9]
  refine Iz hly hm0 ?_
  rcases p.2.2 with ⟨E,S⟩|⟨b,N,V,O,X,C,F⟩
  ·have Q:n=0:=o
   subst Q;subst S
   have G:ys=[]:=aI o
   have s:K (.slice A (0+m) c) h:=x1 d h ⟨gz0,o,.inl ⟨E,rfl⟩⟩
   subst G
   cases A with
   | none=>exact s
   | some a=>exact s
  ·subst V
   simp only [B9,G8,dD]
   rw [X]
   rw [bM] at C F ⊢
   refine G2 ys.toArray.toList n 0 N ?_ (fun v hv=>h1 v o) ?_
   ·grind
   ·refine x1 d _ ⟨gz0,d,.inr ⟨b,_,rfl,O,rfl,?_,?_⟩⟩
    ·simp only [G9,aM,aO,cL,C,hy];omega
    ·unfold G9
     grind
 ·have r:c<n+m:=o
  simp only [d,if_false,B9,E8 y,x]
  have L:=Fv r
  have aa:Builtin.nextslicecap (n+m) c*bytes<=281474976710656:=bO (Nat.mul_le_mul_right _ L) hb
  rw [iN (by rintro ⟨h',_⟩;simp only [IntKind.max,IntKind.signed,IntKind.bits] at h';omega)]
  simp only [B9,E8 y,x]
  rw [iN o]
  simp only [F4,B9]
  refine Cc rfl fun tt=>?_
  simp only [Y4,E8 y]
  have w:xs=[]\/∃ a,A=some a/\∀ j v,xs[j]? = some v->h.cell? (a.add j)=some v:=p.slV
  refine H4 p.1 w ?_
  refine Iz hly hm0 ?_
  simp only [I0 y W,O4]
  intro b k
  have B:∃ q,(Question.appendCap (n+m) c e).cut tt=q/\n+m<=q:=⟨_,rfl,by simp only [Question.cut];omega⟩
  obtain ⟨q,M,D⟩:=B
  rw [M]
  have u:=p.le
  refine x2 r _ q _ h u ⟨gz0,D,.inr ⟨b,xs++ys++(bB z.cells (q-(n+m))).toList,rfl,k,?_,?_,?_⟩⟩
  ·congr 1;simp
  ·have T:(bB z.cells (q-(n+m))).toList.length=q-(n+m):=by simp [bB,st.cells]
   grind
  grind
def Mh(l:List UInt8):∀ v∈yv l,Ju v=true:=by
 intro v a
 simp only [yv,List.mem_map] at a
 obtain ⟨c,_,rfl⟩:=a
 rfl
def Fb{P:dR}{t:aQ}{z v:bX}(hz:(P.info? t).map (fun i=>i.zero)=some (some z)){K:VP}{h:aL}(x:∀ b,h b=none->K (.pointer (some ⟨b,0,none⟩)) (h.put b (.cells z.cells t))):wpH P (Instr.alloc t true v) K h:=by
 cases hi:P.info? t with
 | none=>rw [hi] at hz;cases hz
 | some i=>
  rw [hi] at hz
  simp only [Option.map_some,bA] at hz
  unfold Instr.alloc
  simp only [B9,I0 hi hz]
  exact x
def Uh:(prog.info? 280).map (fun i=>i.zero)=some (some (.agg (bL 24 (.int .u8 0)))):=by kernel_rfl
def Gp(h:aL):Prop:=∀ k,k<20->h.cell? (Addr.add ⟨0,0,none⟩ (k*1))=some (U ((10^k:Nat):Int))
def Gp.mono{h h':aL}(g:Gp h)(l:h.le h'):Gp h':=fun k a=>C2 l (g k a)
section
variable {h g:aL} {K:VP}
def Kf{i:Nat}(hi:i<100)(hK:K (.string (bs (J1 i))) h):aG prog 239 #[I i] h K:=by
 refine Zx _ ?_
 have key:∀ i:Nat,i<100->(i<10->Ms.extract i (i+1)=bs (J1 i))/\(¬ i<10->F6.extract (2*i) (2*i+2)=bs (J1 i)):=by
  intro i hi
  revert i
  decide +kernel
 obtain ⟨b,c⟩:=key i hi
 refine B4 (fun d=>?_) (fun d=>?_)
 ·have a:B7 ((i:Int)+1)=((i+1:Nat):Int):=by rw [B5 o o];omega
  rw [a,aC,aC,b o]
  exact ⟨⟨o,by show _<=((36:Nat):Int);omega⟩,⟨o,o⟩,hK⟩
 ·have a:B7 ((i:Int)*2)=((2*i:Nat):Int):=by rw [B5 o o];omega
  have e:B7 (((2*i:Nat):Int)+2)=((2*i+2:Nat):Int):=by rw [B5 o o];omega
  rw [a,e,aC,aC,c o]
  exact ⟨⟨o,by show _<=((200:Nat):Int);omega⟩,⟨o,o⟩,hK⟩
def U3{d:Nat}(gp:Gp h)(h0:d≠0)(hd:d<18446744073709551616)(hK:K (I ((dd d).length:Int)) h):aG prog 240 #[U (d:Int)] h K:=by
 refine (fnk func240) ?_
 have e:L8 d<=64:=Bq hd
 obtain ⟨_,_,c⟩:=A2m (L8 d) o
 refine Mt hd ⟨_,rfl,(fnk func268) ?_⟩
 have b:Int.fdiv (B7 ((L8 d:Int)*78913)) (2^(min ((18:Int)).toNat 64))=((ndg (L8 d):Nat):Int):=by
  rw [show (2:Int)^(min ((18:Int)).toNat 64)=262144 from dc,Int.fdiv_eq_ediv_of_nonneg _ dc,B5 o o]
  rfl
 rw [b]
 refine ⟨_,rfl,⟨o,o⟩,_,by rw [aC];exact gp _ o,(fnk func269) ?_⟩
 rw [A6z h0 hd] at hK
 refine B4 (fun a=>⟨_,rfl,?_⟩) (fun a=>⟨_,rfl,?_⟩)
 ·rw [iP o] at hK
  rw [B5 o o]
  exact hK
 ·rw [iN o] at hK
  rw [B5 o o]
  exact hK
def S8{e':aQ}{A:Option aK}{n c i:Nat}{l:List UInt8}(gp:Gp h)(p:bI h g e' 1 A n c (yv l))(hi:i<18446744073709551616)(hn:n<=1000000000000)
 (hK:∀ A' c' e2 h' g',g.le g'->bI h' g' e2 1 A' (n+(J1 i).length) c' (yv (l++J1 i))->(n+(J1 i).length<=c->A'=A/\c'=c/\e2=e')->(e'=5->e2=5)->K (.slice A' (n+(J1 i).length:Nat) c') h'):aG prog 243 #[.slice A n c,U (i:Int),I 10] h K:=by
 refine (fnk func243 (wr:=[241])) ?_
 refine E4 (fun _=>?_) (fun e=>absurd rfl e)
 have y:(J1 i).length<=20:=(Ez dc).2 oo
 refine B4 (fun L=>?_) (fun L=>?_)
 ·rw [B5 oo oo]
  refine Kf oo ⟨_,rfl,?_⟩
  refine Vr Bc O5 p (l:=J1 i) rfl rfl (Az _) (Mh _) oo oo ?_ ?_
  ·intro w h' a
   rw [<- P9] at a
   exact ⟨_,_,_,rfl,hK _ _ _ _ _ (B3 _) a (fun _=>⟨rfl,rfl,rfl⟩) id⟩
  ·intro w A' c' h' g' E a
   rw [<- P9] at a
   grind
 ·refine Fb Uh ?_
  intro b d
  have M:(Value.agg (bL 24 (.int .u8 0))).cells=((aD 24 (0:Int)).map (aN .u8)).toArray:=by rfl
  rw [M]
  have G:Win .u8 (h.put b (.cells ((aD 24 (0:Int)).map (aN .u8)).toArray 280)) h b 280 (some ⟨b,0,none⟩) [] (aD 24 (0:Int)) []:=⟨d,by simp,.inr rfl⟩
  generalize (h.put b (.cells ((aD 24 (0:Int)).map (aN .u8)).toArray 280))=h1' at *
  refine ⟨_,rfl,U3 (gp.mono G.le) oo hi ⟨_,rfl,?_⟩⟩
  have j:J1 i=dd i:=Z8 oo
  rw [j] at y hK
  refine ⟨⟨oo,oo⟩,?_⟩
  rw [aC,bH]
  have C:=G.sub (l:=0) (m:=(dd i).length) (c:=24) oo gz0 (by simp)
  have x:((aD 24 (0:Int)).drop 0).take ((dd i).length-0)=aD (dd i).length 0:=by
   grind
  rw [x] at C
  have q:i<10^(dd i).length:=L4.1 (aZ _)
  refine P4 C (by simp) oo q hi ?_
  intro D B
  refine ⟨rfl,⟨oo,oo⟩,?_⟩
  have z:pad (dd i).length i=dd i:=by simp [pad]
  rw [z] at B
  have N:SlV D (Q3 (some ⟨b,0,none⟩) 24 0 1) (yv (dd i)):=by
   have:=B.sl
   unfold SlI at this
   rw [A55] at this
   exact this
  have u:=B.eq
  obtain ⟨o,ho⟩:∃ o,D=h.put b o:=⟨_,u⟩
  subst ho
  have H:=p.put d o
  have s:g.le (g.put b o):=by
   intro k O F
   have r:k≠b:=by
    rintro rfl
    rw [p.le k O F] at d;cases d
   rw [B6 _ _ r];exact F
  refine Jk Bc H (Az _) N (Mh _) oo oo ?_ ?_
  ·intro w h' a
   rw [<- P9] at a
   grind
  ·intro w A' c' h' g' E a
   rw [<- P9] at a
   exact ⟨_,_,_,rfl,hK _ _ _ _ _ (A0 s E) a (fun e=>oo) (fun _=>rfl)⟩
end
structure Ext (g:aL) (e':aQ) (A:Option aK) (n c:Nat) (l t:List UInt8) (A':Option aK) (n' c':Nat) (e2:aQ) (g' h':aL):Prop where
 le:g.le g'
 priv:bI h' g' e2 1 A' n' c' (yv (l++t))
 len:n'=n+t.length
 fit:n+t.length<=c->A'=A/\c'=c/\e2=e'
 tag:e'=5->e2=5
def Ext.trans{g g1 g2 h1 h2:aL}{e' e1 e2:aQ}{A A1 A2:Option aK}{n c n1 c1 n2 c2:Nat}{l t s:List UInt8}(x:Ext g e' A n c l t A1 n1 c1 e1 g1 h1)(y:Ext g1 e1 A1 n1 c1 (l++t) s A2 n2 c2 e2 g2 h2):Ext g e' A n c l (t++s) A2 n2 c2 e2 g2 h2:=by
 refine ⟨A0 x.le y.le,?_,?_,?_,fun e=>y.tag (x.tag e)⟩
 ·have:=y.priv;grind
 ·rw [y.len,x.len,aM];omega
 ·intro a
  rw [aM] at a
  obtain ⟨rfl,rfl,rfl⟩:=x.fit o
  have b:=x.len
  exact y.fit o
section
variable {h g:aL} {K:VP} {A:Option aK} {n c:Nat} {e':aQ} {l:List UInt8}
def Af{i:Nat}(gp:Gp h)(p:bI h g e' 1 A n c (yv l))(hi:i<18446744073709551616)(hn:n<=1000000000000)
 (hK:∀ A' n' c' e2 g' h',Ext g e' A n c l (J1 i) A' n' c' e2 g' h'->K (.slice A' n' c') h'):aG prog 237 #[.slice A n c,U (i:Int),I 10] h K:=by
 refine (fnk func237) ?_
 refine S8 gp p hi hn ?_
 intro A' c' e2 h' g' b d a e
 exact ⟨_,_,_,rfl,hK _ _ _ _ _ _ ⟨b,d,rfl,a,e⟩⟩
def Z2{ch:UInt8}{v:Int}(hv:v=(ch.toNat:Int))(p:bI h g e' 1 A n c (yv l))(hn:n<=1000000000000){KK:Option aK->Nat->Nat->aL->Prop}
 (x:∀ A' n' c' e2 g' h',Ext g e' A n c l [ch] A' n' c' e2 g' h'->KK A' n' c' h'):
 wpH prog (Instr.buildSlice 166 1 #[(0,Y v)]) (fun v1 hp1=>∃ (A1:Option aK) (n1 c1:Nat),v1= .slice A1 n1 c1/\wpH prog (bK #[166,166] 166 #[.slice A n c,.slice A1 n1 c1]) (fun v2 hp2=>∃ (A2:Option aK) (n2 c2:Nat),v2= .slice A2 n2 c2/\KK A2 n2 c2 hp2) hp1) h:=by
 subst hv
 refine S5 Bc rfl ?_
 intro b a
 refine ⟨_,_,_,rfl,?_⟩
 have w:=p.put a (.cells #[Y (ch.toNat:Int)] 5)
 have d:g.le (g.put b (.cells #[Y (ch.toNat:Int)] 5)):=by
  intro k z r
  have q:k≠b:=by
   rintro rfl
   rw [p.le k z r] at a;cases a
  rw [B6 _ _ q];exact r
 have y:SlV (h.put b (.cells #[Y (ch.toNat:Int)] 5)) (some ⟨b,0,none⟩) (yv [ch]):=by
  refine .inr ⟨_,rfl,fun j u C=>?_⟩
  rw [G8,D5]
  match j with
  | 0=>assumption
  | j+1=>assumption
 refine Jk Bc w (m:=1) (ys:=yv [ch]) rfl y (Mh _) o o ?_ ?_
 ·intro s h' i
  rw [<- P9] at i
  exact ⟨_,_,_,rfl,x _ _ _ _ _ _ ⟨d,i,rfl,fun _=>⟨rfl,rfl,rfl⟩,id⟩⟩
 ·intro s A' c' h' g' B i
  rw [<- P9] at i
  exact ⟨_,_,_,rfl,x _ _ _ _ _ _ ⟨A0 d B,i,rfl,fun e=>gz0,fun _=>rfl⟩⟩
def Lm{i:Int}(h:i<0):Ds i=[45]++J1 i.natAbs:=by unfold Ds;grind
def Hq{i:Int}(h:¬ i<0):Ds i=J1 i.natAbs:=by unfold Ds;grind
def Db{i:Int}(gp:Gp g)(p:bI h g e' 1 A n c (yv l))(h1: -9223372036854775808<=i)(h2:i<9223372036854775808)(hn:n<=100000000000)
 (hK:∀ A' n' c' e2 g' h',Ext g e' A n c l (Ds i) A' n' c' e2 g' h'->K (.slice A' n' c') h'):aG prog 132 #[.slice A n c,I i,I 10] h K:=by
 refine (fnk func132) ?_
 refine (fnk func192) ?_
 refine B4 (fun m=>?_) (fun m=>?_)
 ·rw [Lm m] at hK
  refine Z2 (ch:=45) rfl p o ?_
  intro A1 x c1 w u s a
  have e:C4 (0-C4 i)=((i.natAbs:Nat):Int):=by rw [F0,F0];omega
  rw [e]
  refine S8 (gp.mono (A0 a.le a.priv.le)) a.priv o (by have:=a.len;grind) ?_
  intro A2 c2 e2 q r d j b k
  exact ⟨_,_,_,rfl,_,_,_,rfl,hK _ _ _ _ _ _ (a.trans ⟨d,j,rfl,b,k⟩)⟩
 ·rw [Hq m] at hK
  have e:C4 i=((i.natAbs:Nat):Int):=by rw [F0];omega
  rw [e]
  refine S8 (gp.mono p.le) p o o ?_
  intro A2 c2 e2 q r d j b k
  exact ⟨_,_,_,rfl,_,_,_,rfl,hK _ _ _ _ _ _ ⟨d,j,rfl,b,k⟩⟩
def Nt{b:Nat}{e:aQ}{B:Option aK}{pre post:List bX}{s:List UInt8}(w:Win .u8 h g b e B pre (zb s) post):SlV h B (yv s):=by
 have:=w.sl
 unfold SlI at this
 rw [A55] at this
 exact this
def Cy{i:Int}(gp:Gp h)(h1: -9223372036854775808<=i)(h2:i<9223372036854775808)(hK:K (.string (bs (Ds i))) h):aG prog 131 #[I i,I 10] h K:=by
 refine FCall.pure ((fnk func131) ?_)
 refine (fnk func191 (cs:=[(3,[17],[],[.bool false])]) (wr:=[241])) ?_
 refine E4 (fun _=>?_) (fun e=>absurd rfl e)
 refine ⟨fun L n=>L=[.bool (decide (0<=i/\i<100))]/\n=h,B4 (fun p=>⟨by simp [p],rfl⟩) (fun p=>⟨by simp [p],rfl⟩),?_⟩
 rintro x n ⟨Q,rfl⟩
 obtain rfl:x=decide (0<=i/\i<100):=gz0
 refine B4 (fun p=>?_) (fun p=>?_)
 ·obtain ⟨k,rfl⟩:∃ k:Nat,i=k:=⟨i.toNat,o⟩
  refine Kf o ⟨_,rfl,⟨_,rfl,B3 _,?_⟩⟩
  assumption
 ·refine Fb Uh ?_
  intro b H
  have M:(Value.agg (bL 24 (.int .u8 0))).cells=((aD 24 (0:Int)).map (aN .u8)).toArray:=by rfl
  rw [M]
  have s:Win .u8 (n.put b (.cells ((aD 24 (0:Int)).map (aN .u8)).toArray 280)) n b 280 (some ⟨b,0,none⟩) [] (aD 24 (0:Int)) []:=⟨H,by simp,.inr rfl⟩
  generalize (n.put b (.cells ((aD 24 (0:Int)).map (aN .u8)).toArray 280))=hp1 at *
  refine ⟨_,rfl,?_⟩
  obtain ⟨u,hu⟩:∃ u:Nat,u=i.natAbs:=⟨_,rfl⟩
  have a:u≠0:=o
  have B:J1 u=dd u:=Z8 a
  have O:(dd u).length<=20:=L4.2 o
  have D:B7 (1+(((dd u).length:Nat):Int))=((1+(dd u).length:Nat):Int):=by rw [B5 o o];omega
  have w:=s.sub (l:=1) (m:=1+(dd u).length) (c:=24) o gz0 (by simp)
  have A:((aD 24 (0:Int)).drop 1).take (1+(dd u).length-1)=aD (dd u).length 0:=by
   grind
  rw [A] at w
  have g:u<10^(dd u).length:=L4.1 (aZ _)
  have r:pad (dd u).length u=dd u:=by simp [pad]
  have j:1+(dd u).length-1=(dd u).length:=o
  refine B4 (fun q=>?_) (fun q=>?_)
  ·rw [Lm q,<- hu,B] at hK
   have e:C4 (0-C4 i)=(u:Int):=by rw [F0,F0];omega
   rw [e]
   refine U3 (gp.mono s.le) a o ⟨_,rfl,?_⟩
   dsimp only;rw [D,aC]
   refine ⟨⟨o,o⟩,⟨o,o⟩,?_⟩
   rw [show ((1:Int)).toNat=1 from rfl,j]
   refine P4 w (by simp) o g o ?_
   intro z d
   rw [r] at d
   refine ⟨rfl,B4 (fun _=>?_) (fun y=>absurd q y)⟩
   have G:=s.whole (l:=1) (m:=1+(dd u).length) o gz0 (by rw [Au];omega) d
   refine ⟨⟨o,o⟩,?_⟩
   rw [show ((0:Int)).toNat=0 from rfl]
   refine G.storeN Dz rfl (by simp) ?_
   intro N C
   refine ⟨⟨o,o⟩,?_⟩
   have E:=C.sub (l:=0) (m:=1+(dd u).length) (c:=24) o (by simp [Au];omega) (by simp [Au];omega)
   have F:((((aD 24 (0:Int)).take 1++zb (dd u)++(aD 24 (0:Int)).drop (1+(dd u).length)).set 0 45).drop 0).take (1+(dd u).length-0)=zb ([45]++dd u):=by
    rw [bV,List.take_replicate,show min 1 24=1 from rfl,show aD 1 (0:Int)=[0] from rfl,bW,List.singleton_append,List.set_cons_zero,bH,Nat.add_comm 1,List.take_succ_cons,List.take_left' (Au _)]
    rfl
   rw [F] at E
   refine Ea Bc.und V7 O5 (Nt E) gz0 ⟨_,rfl,_,rfl,?_,hK⟩
   exact C.le
  ·rw [Hq q,<- hu,B] at hK
   have e:C4 i=(u:Int):=by rw [F0];omega
   rw [e]
   refine U3 (gp.mono s.le) a o ⟨_,rfl,?_⟩
   dsimp only;rw [D,aC]
   refine ⟨⟨o,o⟩,⟨o,o⟩,?_⟩
   rw [show ((1:Int)).toNat=1 from rfl,j]
   refine P4 w (by simp) o g o ?_
   intro z d
   rw [r] at d
   refine ⟨rfl,B4 (fun y=>absurd y q) (fun _=>?_)⟩
   refine ⟨⟨o,o⟩,⟨o,o⟩,?_⟩
   exact Ea Bc.und V7 O5 (Nt d) rfl ⟨_,rfl,_,rfl,d.le,hK⟩
def Jw{s q:List UInt8}(hK:K (.tuple #[.string (bs (if q <+: s then s.drop q.length else s)),.bool (decide (q <+: s))]) h):aG prog 183 #[.string (bs s),.string (bs q)] h K:=by
 refine (fnk func183) ?_
 refine (fnk func227) ?_
 have b:aG prog 256 #[.string (bs s),.string (bs q)] h (fun r b=>r= .bool (decide (q <+: s))/\b=h):=by
  refine (fnk func256) ?_
  simp only [I9]
  refine B4 (fun a=>?_) (fun a=>?_)
  ·refine ⟨⟨o,o⟩,?_,trivial⟩
   rw [aC,N2,Gz]
   congr 1
   rw [decide_eq_decide,bV,bH,List.prefix_iff_eq_take]
   exact eq_comm
  grind
 refine b.mono ?_
 rintro r c ⟨rfl,rfl⟩
 refine ⟨_,rfl,Br.not (B4 (fun a=>?_) (fun a=>?_))⟩
 ·rw [iP a,decide_eq_true a] at hK
  have:=a.length_le
  simp only [I9]
  refine ⟨⟨o,o⟩,_,_,rfl,?_⟩
  rw [aC,N2,aH gz0]
  exact hK
 grind
end
abbrev cB:Int:=10000000000000000000
section
variable {h g:aL} {K:VP} {A B:Option aK} {ac bc:Nat}
def A7j{Invv:LP}{muv:LN}{WA CA:Option aK}{wn wc cn cc:Nat}{us:List Int}{hp1 g1:aL}(p:Pw hp1 g1 WA wn wc us)(hne:us≠[])(hwn:wn=us.length)(du:Dig b64 us)(hl:wn<=100000000)
 (hK:∀ (ws:List Int) (m:Nat) (r:Int) (hp2:aL),Pw hp2 g1 WA m wc (ws.take m)->m=(ws.take m).length->m<=wn->Norm (ws.take m)->Dig b64 (ws.take m)->val b64 us=val b64 (ws.take m)*cB+r->(0<=r/\r<cB)->
  wpH prog (Instr.buildSlice 89 1 #[(0,U r)]) (fun v hp6=>∃ (t44A:Option aK) (t44n:Nat) (t44c:Nat),v= .slice t44A t44n t44c/\wpH prog (bK #[89,89] 89 #[.slice CA cn cc,.slice t44A t44n t44c]) (fun v1 hp7=>∃ (t45A:Option aK) (t45n:Nat) (t45c:Nat),v1= .slice t45A t45n t45c/\Invv [.slice WA m wc,.slice t45A t45n t45c] hp7/\muv [.slice WA m wc,.slice t45A t45n t45c] hp7<muv [.slice WA wn wc,.slice CA cn cc] hp1) hp6) hp2):
 By prog Invv muv WA wn wc CA cn cc hp1:=by
 obtain ⟨b,l,H,V⟩:=Y2 p hne
 refine ⟨fun s G=>∃ (k:Nat) (r:Int) (ws:List Int),s=[U r,I ((k:Int)-1)]/\k<=wn/\(0<=r/\r<cB)/\ws.length=us.length/\Dig b64 ws/\Win .u64 G g1 b 230 WA [] ws l/\ws.take k=us.take k/\val b64 (us.drop k)=val b64 (ws.drop k)*cB+r,fun s _=>(iAt s 1+1).toNat,⟨wn,0,us,by rw [B5 o o],o,dc,rfl,du,H,rfl,by rw [cP o];rfl⟩,?_⟩
 rintro c i hp2 ⟨k,r,ws,T,R,q,D,n,w,d,O⟩
 obtain ⟨rfl,rfl⟩:c=r/\i=(k:Int)-1:=gz0
 refine B4 (fun F=>?_) (fun F=>?_)
 ·obtain ⟨j,rfl⟩:∃ j,k=j+1:=⟨k-1,o⟩
  have e:((j+1:Nat):Int)-1=(j:Int):=o
  rw [e]
  have N:=I5 n j
  refine w.sl.load o o o ?_
  rw [aC]
  refine Hu (y:=10000000000000000000) q N dc ⟨_,_,rfl,?_⟩
  have L:us.getD j 0=ws.getD j 0:=by
   have M:(ws.take (j+1)).getD j 0=(us.take (j+1)).getD j 0:=by rw [d]
   grind
  generalize hx:ws.getD j 0=x at *
  have C:0<=c/\c<10000000000000000000:=q
  have E:0<=(c*18446744073709551616+x)/10000000000000000000/\(c*18446744073709551616+x)/10000000000000000000<18446744073709551616:=o
  obtain ⟨a,z,_⟩:=SlV.at w.sl (i:=j) gz0
  refine ⟨a,z,o,o,w.storeN D8 z o ?_⟩
  intro S A
  rw [B5 o o]
  refine ⟨⟨j,_,_,rfl,o,gz0,gz0,n.set E,A,?_,?_⟩,by simp only [iAt,aE,aF];omega⟩
  ·rw [List.take_set_of_le o]
   have M:=congrArg (List.take j) d
   grind
  ·rw [Z7 o,Hp b64 o,O,L]
   simp only [val]
   grind
 ·obtain rfl:k=0:=o
  rw [show wn=ws.length from o] at hK ⊢
  refine V4 w.sl o o ?_
  intro m u Q B
  refine ⟨_,_,_,rfl,?_⟩
  have g:ws≠[]:=gz0
  exact hK ws m c hp2 (w.priv g o u) gz0 u Q (n.take m) gz0 q
end
def nv:List Nat->Nat
 | []=>0
 | c::r=>c+10^19*nv r
def Xt(ns:List Nat)(c:Nat):((nv (ns++[c]):Nat):Int)=(nv ns:Int)+cB^ns.length*(c:Int):=by
 induction ns with
 | nil=>simp [nv]
 | cons d r ih=>
  have e:((10^19:Nat):Int)=cB:=dc
  simp only [List.cons_append,nv,List.length_cons,dH,dN,aY,ih,e]
  grind
def A94{ns:List Nat}(h:∀ c∈ns,c<10^19):nv ns<10^(19*ns.length):=by
 induction ns with
 | nil=>simp [nv]
 | cons d r ih=>
  have a:=h d (by simp)
  simp only [nv,List.length_cons]
  grind
def A93{ns:List Nat}(hne:ns≠[])(h:ns.getLast? ≠ some 0):nv ns≠0:=by
 induction ns with
 | nil=>grind
 | cons d r ih=>
  cases r with
  | nil=>simp at h;assumption
  | cons e s=>
   have:=ih (by simp) (by assumption)
   simp only [nv] at this ⊢
   omega
def A17{c:Nat}:aD (19-(J1 c).length) 48++J1 c=pad 19 c:=by
 unfold J1 pad
 split
 ·rename_i h;subst h;rw [G0];rfl
 ·rfl
def Xo{c w:Nat}(h:c≠0):aD (w-(J1 c).length) 48++J1 c=pad w c:=by
 unfold J1 pad;grind
def Uv{w n k:Nat}(h:n<10^k):(pad w n).length<=w+k:=by
 unfold pad
 have:=L4.2 h
 grind
def Vv(W:Nat)(ns:List Nat)(k:Nat):List UInt8:=if k<ns.length then pad (W-19*k) (nv (ns.drop k)) else []
def A0b{W:Nat}{ns:List Nat}(h:∀ c∈ns,c<10^19)(k:Nat):(Vv W ns k).length<=W+19*ns.length:=by
 unfold Vv
 split
 ·have:=Uv (w:=W-19*k) (A94 (ns:=ns.drop k) fun c a=>h c (List.mem_of_mem_drop a))
  grind
 ·simp
def Wn{W:Nat}{ns:List Nat}(hb:∀ c∈ns,c<10^19)(ht:ns.getLast? ≠ some 0){j:Nat}(hj:j<ns.length):Vv W ns j=Vv W ns (j+1)++(aD ((if j+1=ns.length then max (J1 ns[j]).length (W-19*j) else 19)-(J1 ns[j]).length) 48++J1 ns[j]):=by
 have e:ns.drop j=ns[j]::ns.drop (j+1):=cI hj
 unfold Vv
 rw [iP hj,e]
 by_cases h:j+1=ns.length
 ·rw [iN o,iP h,List.nil_append,cP o]
  have a:ns[j]≠0:=by
   grind
  rw [show max (J1 ns[j]).length (W-19*j)-(J1 ns[j]).length=(W-19*j)-(J1 ns[j]).length from o,Xo a]
  simp [nv]
 ·rw [iP o,iN h,A17]
  have d:nv (ns.drop (j+1))≠0:=by
   apply A93
   ·intro b;have:=congrArg List.length b;grind
   grind
  have:=Pb (w:=W-19*j) (h:=nv (ns.drop (j+1))) (l:=ns[j]) (k:=19) (hb _ (cM hj)) (.inl d)
  rw [Nat.sub_sub] at this
  rw [show 19*(j+1)=19*j+19 from o,<- this]
  congr 1
  simp only [nv];omega
def Priv.clear{h g:aL}{e:aQ}{A:Option aK}{n c:Nat}{xs:List bX}(p:bI h g e 1 A n c xs):bI h g e 1 A 0 c []:=by
 obtain ⟨a,b,d⟩:=p
 refine ⟨by simp,o,?_⟩
 grind
def nz(ns:List Nat):List Int:=ns.map fun (x:Nat)=>(x:Int)
def Bx(g:aL)(eT:aQ)(A:Option aK)(n c:Nat)(l:List UInt8)(p:aK)(CA:Option aK)(ns:List Nat)(bl t:List UInt8)(tA:Option aK)(tn tc:Nat)(hp:aL):Prop:=
 ∃ e2 gA gB,Ext g eT A n c l t tA tn tc e2 gA hp/\bI gA gB 311 1 (some p) bl.length 20 (yv bl)/\g.le gB/\SlI .u64 gB CA (nz ns)
section
variable {h g:aL} {K:VP} {A CA:Option aK} {n c:Nat} {eT:aQ} {l:List UInt8} {p:aK} {ns:List Nat}
def Sw{bl t s:List UInt8}{tA tA':Option aK}{tn tc tn' tc':Nat}{e2 e3:aQ}{gA gB g' hp hp':aL}(x:Ext g eT A n c l t tA tn tc e2 gA hp)(q:bI gA gB 311 1 (some p) bl.length 20 (yv bl))(lg:g.le gB)(sc:SlI .u64 gB CA (nz ns))(y:Ext gA e2 tA tn tc (l++t) s tA' tn' tc' e3 g' hp'):Bx g eT A n c l p CA ns bl (t++s) tA' tn' tc' hp':=by
 obtain ⟨a,b,d⟩:=q.after y.le
 exact ⟨e3,g',a,x.trans y,d,A0 lg b,sc.mono b⟩
def A1w{Invv2:LP}{muv2:LN}{tA:Option aK}{tn tc q:Nat}{first:Bool}{i1 size:Int}{bl t:List UInt8}{hp9 hp11:aL}(x:Bx g eT A n c l p CA ns bl t tA tn tc hp11)(hq:B7 (size-((bl.length:Nat):Int))=(q:Int))(hb:n+t.length+q+bl.length<=100000000000)
 (hK:∀ tA' tn' tc' hp',Bx g eT A n c l p CA ns bl (t++(aD q 48++bl)) tA' tn' tc' hp'->Invv2 [.slice tA' tn' tc',.bool false,I (B7 (i1-1))] hp'/\muv2 [.slice tA' tn' tc',.bool false,I (B7 (i1-1))] hp'<muv2 [.slice tA tn tc,.bool first,I i1] hp9):
 Ak prog Invv2 muv2 tA tn tc first i1 (some p) bl.length 20 size hp9 hp11:=by
 refine ⟨fun s m=>∃ (k:Nat) (tA:Option aK) (tn tc:Nat),s=[.slice tA tn tc,I k]/\k<=q/\Bx g eT A n c l p CA ns bl (t++aD k 48) tA tn tc m,fun s _=>q-(iAt s 1).toNat,⟨0,tA,tn,tc,rfl,o,gz0⟩,?_⟩
 rintro C D H M w ⟨k,O,N,G,L,R,T,V,S,ex,d,j,r⟩
 obtain ⟨⟨rfl,rfl,rfl⟩,rfl⟩:=L
 have a:=ex.len
 rw [aM,List.length_replicate] at a
 refine B4 (fun B=>?_) (fun B=>?_)
 ·refine Z2 (ch:=48) rfl ex.priv o ?_
  intro A' Q z W E u y
  rw [B5 o o]
  refine ⟨⟨k+1,_,_,_,rfl,o,?_⟩,by simp only [iAt,aE,aF];omega⟩
  have:=Sw ex d j r y
  rwa [bW,<- cV] at this
 ·obtain rfl:k=q:=o
  refine ⟨fun s m=>∃ (tA:Option aK) (tn tc:Nat),s=[.slice tA tn tc]/\Bx g eT A n c l p CA ns bl (t++(aD k 48++bl)) tA tn tc m,?_,?_⟩
  ·refine Jk Bc ex.priv (Az bl) (SlV.mono ex.priv.le d.slV) (Mh _) o o ?_ ?_
   ·intro F u b
    rw [<- P9] at b
    refine ⟨_,_,_,rfl,_,_,_,rfl,?_⟩
    have:=Sw ex d j r (s:=bl) ⟨B3 _,b,rfl,fun _=>⟨rfl,rfl,rfl⟩,id⟩
    grind
   ·intro F A' z u E i b
    rw [<- P9] at b
    refine ⟨_,_,_,rfl,_,_,_,rfl,?_⟩
    have:=Sw ex d j r (s:=bl) ⟨i,b,rfl,fun e=>o,fun _=>rfl⟩
    grind
  grind
def A1u{W tn tc:Nat}{tA:Option aK}{t:List UInt8}{e2:aQ}{gA hp9:aL}(x:Ext g eT A n c l t tA tn tc e2 gA hp9)(hW:W<=10000000000)(hb:tn<=10000000000)(hK:∀ A' n' c' e3 g' h',Ext g eT A n c l (t++aD W 48) A' n' c' e3 g' h'->K (.slice A' n' c') h'):Aj prog (W:Int) K tA tn tc hp9:=by
 refine ⟨fun s b=>∃ (k:Nat) (tA:Option aK) (tn' tc:Nat) (e3:aQ) (g':aL),s=[.slice tA tn' tc,I k]/\k<=W/\tn'=tn+k/\Ext g eT A n c l (t++aD k 48) tA tn' tc e3 g' b,fun s _=>W-(iAt s 1).toNat,⟨0,tA,tn,tc,e2,gA,rfl,o,rfl,gz0⟩,?_⟩
 rintro u w q i a ⟨k,z,e,j,e3,g',B,C,m,ex⟩
 obtain ⟨⟨rfl,rfl,rfl⟩,rfl⟩:=B
 refine B4 (fun r=>?_) (fun r=>?_)
 ·refine Z2 (ch:=48) rfl ex.priv o ?_
  intro A' n' c' p d h' y
  rw [B5 o o]
  refine ⟨⟨k+1,_,_,_,p,d,rfl,o,?_,?_⟩,by simp only [iAt,aE,aF];omega⟩
  ·have:=y.len;grind
  ·have:=ex.trans y
   rwa [bW,<- cV] at this
 grind
def A1v{W cn:Nat}{tA:Option aK}{tn tc:Nat}{hp8:aL}{b:Nat}(gp:Gp g)(hp:p=⟨b,0,none⟩)(x:Bx g eT A n c l p CA ns [] [] tA tn tc hp8)(hcn:cn=ns.length)(hb:∀ c∈ns,c<10^19)(ht:ns.getLast? ≠ some 0)(hW:W<=1000000000)(hn:n<=1000000000)(hnl:ns.length<=1000000000)
 (hK:∀ A' n' c' e3 g' h',Ext g eT A n c l (pad W (nv ns)) A' n' c' e3 g' h'->K (.slice A' n' c') h'):Al prog tA tn tc (W:Int) K CA cn p hp8:=by
 subst hcn
 have i:Q3 (some p) 20 0 1=some p:=by rfl
 refine ⟨fun s hp=>∃ (k:Nat) (tA:Option aK) (tn tc:Nat) (G:List UInt8),s=[.slice tA tn tc,.bool (decide (k=ns.length)),I ((k:Int)-1)]/\k<=ns.length/\Bx g eT A n c l p CA ns G (Vv W ns k) tA tn tc hp,fun s _=>(iAt s 2+1).toNat,⟨ns.length,tA,tn,tc,[],by rw [B5 o o];simp,aZ _,by unfold Vv;grind⟩,?_⟩
 rintro w z D first i1 af ⟨k,ag,ae,ab,G,hs,hk,L,gA,gB,ex,C,r,Q⟩
 obtain ⟨⟨rfl,rfl,rfl⟩,rfl,rfl⟩:=hs
 have H:=ex.len
 have V:=A0b (W:=W) hb k
 refine B4 (fun h1=>?_) (fun h1=>?_)
 ·obtain ⟨j,rfl⟩:∃ j,k=j+1:=⟨k-1,o⟩
  have e:((j+1:Nat):Int)-1=(j:Int):=o
  rw [e]
  have F:j<ns.length:=o
  refine ⟨⟨o,o⟩,?_⟩
  refine (Q.mono (A0 C.le ex.priv.le)).load (by simp [nz]) o o ?_
  have hz:(nz ns).getD (j:Int).toNat 0=((ns[j]:Nat):Int):=by
   simp [nz,List.getD,F]
  rw [hz,i,show ((0:Int)).toNat-0=0 from rfl,show 20-0=20 from rfl]
  have a:=hb ns[j] (cM F)
  have ad:(J1 ns[j]).length<=20:=(Ez dc).2 (aU a dc)
  refine ex.priv.call ?_
  refine Af (l:=[]) (gp.mono (A0 r C.le)) C.clear (aU a dc) o ?_
  intro A' n' c' e3 g' S y h' X
  obtain ⟨rfl,rfl,rfl⟩:=y.fit o
  have N:=y.len
  rw [dD] at N
  subst N
  refine ⟨_,_,_,rfl,?_⟩
  have x2:Bx g eT A n c l p CA ns (J1 ns[j]) (Vv W ns (j+1)) w z D h':=
   ⟨L,S,g',⟨A0 r (A0 y.le y.priv.le),X,ex.len,ex.fit,ex.tag⟩,by simpa using y.priv,A0 r y.le,Q.mono y.le⟩
  refine ⟨fun s hp=>s=[I (((if j+1=ns.length then max (J1 ns[j]).length (W-19*j) else 19):Nat):Int)]/\hp=h',B4 (fun m=>⟨?_,rfl⟩) (fun m=>⟨gz0,rfl⟩),?_⟩
  ·rw [iP m,B5 (n:=19*(j:Int)) o o,B5 o o]
   grind
  ·rintro d M ⟨ac,rfl⟩
   obtain rfl:d=(((if j+1=ns.length then max (J1 ns[j]).length (W-19*j) else 19):Nat):Int):=gz0
   have R:(J1 ns[j]).length<=19:=(Ez dc).2 a
   generalize hsz:(if j+1=ns.length then max (J1 ns[j]).length (W-19*j) else 19)=sz at *
   have O:(J1 ns[j]).length<=sz/\sz<=W+20:=by
    grind
   refine A1w (q:=sz-(J1 ns[j]).length) x2 (by rw [B5 o o];omega) o ?_
   intro B E u aa T
   rw [B5 o o]
   refine ⟨⟨j,B,E,u,J1 ns[j],?_,o,?_⟩,by simp only [iAt,aE,aF];omega⟩
   ·rw [show decide (j=ns.length)=false from gz0]
   ·rw [Wn hb ht F,hsz];exact T
 ·obtain rfl:k=0:=o
  refine B4 (fun m=>?_) (fun m=>?_)
  ·refine A1u ex o o ?_
   intro A' n' c' e3 g' h' y
   refine hK _ _ _ e3 g' _ ?_
   have:Vv W [] 0++aD W 48=pad W (nv []):=by simp [Vv,nv,pad,G0]
   grind
  ·refine hK _ _ _ L gA _ ?_
   ·have:Vv W ns 0=pad W (nv ns):=by unfold Vv;grind
    grind
end
def A20:(prog.info? 311).map (fun i=>i.zero)=some (some (.agg (bL 20 (.int .u8 0)))):=by kernel_rfl
def A45(ns:List Nat)(c:Nat):nz (ns++[c])=nz ns++[(c:Int)]:=by simp [nz]
section
variable {h g:aL} {K:VP} {A XA:Option aK} {n c:Nat} {eT:aQ} {l:List UInt8}
def X6{xn xc v W:Nat}(gp:Gp g)(p:bI h g eT 1 A n c (yv l))(M:Mw g XA xn (v:Int))(hx:xn<=10000000)(hW:W<=1000000000)(hn:n<=1000000000)
 (hK:∀ A' n' c' e3 g' h',Ext g eT A n c l (pad W v) A' n' c' e3 g' h'->K (.slice A' n' c') h'):aG prog 267 #[.slice A n c,.slice XA xn xc,I (W:Int)] h K:=by
 obtain ⟨xs,E,sx,dx,nx,N⟩:=M
 refine Hl _ _ _ _ _ _ _ ?_
 refine p.call ?_
 refine W8 sx E oo ?_
 intro WA R h0 g0 l0 pw h1 S
 obtain ⟨z,aa,am⟩:=S.swap pw
 refine ⟨_,_,_,rfl,?_⟩
 have an:(v:Int)<2^(64*xn):=by
  have:=J4 (B:=b64) dc dx
  rw [N,<- E,Bh] at this;exact this
 refine ⟨fun s hp=>∃ (a:List Int) (ns:List Nat) (WA CA:Option aK) (wn R cn cc:Nat) (z g2 g3:aL),s=[.slice WA wn R,.slice CA cn cc]/\Pw hp z WA wn R a/\Pw z g2 CA cn cc (nz ns)/\bI g2 g3 eT 1 A n c (yv l)/\g.le g3/\wn=a.length/\cn=ns.length/\wn<=xn/\Dig b64 a/\Norm a/\(∀ c∈ns,c<10^19)/\(v:Int)=val b64 a*cB^ns.length+(nv ns:Int)/\(a=[]->ns.getLast? ≠ some 0),fun s hp=>match s with|[.slice A n _,_]=>A4a b64 hp A n|_=>0,⟨xs,[],WA,none,xs.length,R,0,0,z,z,g0,rfl,aa,Priv.nil _ _ _ _,am,l0,rfl,rfl,oo,dx,nx,by simp,by simp [nv,N],by simp⟩,?_⟩
 rintro WA1 L af CA1 ai ax O ⟨a,ns,WA2,CA2,aw,au,ay,aq,z,g2,g3,hs,pw,pc,S,lg,F,X,ar,T,nu,hb,hv,w⟩
 obtain ⟨⟨rfl,rfl,rfl⟩,rfl,rfl,rfl⟩:=hs
 have ap:=C3 (B:=b64) dc T
 have Mu:Mw O WA1 L (val b64 a):=⟨a,F,pw.slV,T,nu,rfl⟩
 refine B4 (fun h2=>?_) (fun h2=>?_)
 ·have V:a≠[]:=gz0
  have G:0<val b64 a:=by
   have:=Mu.len_zero dc
   omega
  have u:ns.length<=64*xn:=by
   by_cases hc:ns.length<=64*xn
   ·exact hc
   ·exfalso
    have h3:(2:Int)^(64*xn)<=2^ns.length:=C8 dc oo
    have h4:(2:Int)^ns.length<=cB^ns.length:=by
     have:∀ k:Nat,(2:Int)^k<=cB^k:=by
      intro k
      induction k with
      | zero=>simp
      | succ k ih=>
       grind
     grind
    have h5:1*cB^ns.length<=val b64 a*cB^ns.length:=cA G (dI (Int.pow_pos dc))
    omega
  refine A7j pw V F T oo ?_
  intro ws m r av al hm ao nw dw j hr
  obtain ⟨q,ab,ag⟩:=al.swap pc
  refine Bf I6 ab rfl rfl oo oo ?_
  intro CA' aj h' g' ae i
  obtain ⟨x,l2,d⟩:=ag.after ae
  obtain ⟨g4,Q,ad⟩:=i.swap d
  obtain ⟨g5,l5,ac⟩:=S.after l2
  obtain ⟨c0,e⟩:∃ c0:Nat,r=(c0:Int):=⟨r.toNat,oo⟩
  refine ⟨⟨ws.take m,ns++[c0],WA1,CA',m,af,ai+1,aj,g4,x,g5,rfl,Q,?_,ac,A0 lg l5,hm,gz0,oo,dw,nw,?_,?_,?_⟩,?_⟩
  ·have h9:=ad
   rw [<- dB (f:=aN .u64),<- cQ,e,<- A45] at h9
   exact h9
  ·grind
  ·rw [Xt,hv,j,aM,cT,dH,e];grind
  ·intro he
   rw [List.getLast?_append]
   simp only [dS,Option.some_or,ne_eq,bA]
   intro e0
   rw [he] at j
   simp [val] at j
   omega
  ·show A4a b64 h' WA1 m<A4a b64 O WA1 L
   have Mw2:Mw h' WA1 m (val b64 (ws.take m)):=⟨ws.take m,hm,Q.slV,dw,nw,rfl⟩
   rw [Bj Mw2,Bj Mu]
   grind
 ·have C:a=[]:=aI oo
  subst C
  obtain ⟨x,ah,i⟩:=pc.swap S
  obtain ⟨q,D,d⟩:=pw.swap ah
  have ak:v=nv ns:=by
   simp [val] at hv;omega
  have u:ns.length<=1000000000:=by
   by_cases e:ns=[]
   ·grind
   ·have h7:=w rfl
    obtain ⟨ms,c0,rfl⟩:∃ ms c0,ns=ms++[c0]:=⟨ns.dropLast,ns.getLast e,(List.dropLast_concat_getLast e).symm⟩
    rw [List.getLast?_append] at h7
    simp only [dS,Option.some_or,ne_eq,bA] at h7
    have h8:=Xt ms c0
    by_cases hc:ms.length<=64*xn
    ·grind
    ·exfalso
     have h3:(2:Int)^(64*xn)<=2^ms.length:=C8 dc oo
     have h4:(2:Int)^ms.length<=cB^ms.length:=by
      have:∀ k:Nat,(2:Int)^k<=cB^k:=by
       intro k
       induction k with
       | zero=>simp
       | succ k ih=>
        grind
      grind
     have h5:cB^ms.length*1<=cB^ms.length*(c0:Int):=cC oo (dI (Int.pow_pos dc))
     omega
  refine Fb A20 ?_
  intro b y
  refine ⟨_,rfl,?_⟩
  have H:q b=none:=by
   cases hx1:q b with
   | none=>rfl
   | some o=>rw [D.le b o hx1] at y;cases y
  refine A1v (ns:=ns) gp rfl ⟨eT,_,q,⟨?_,?_,by simp,fun _=>⟨rfl,rfl,rfl⟩,id⟩,⟨by simp [yv],by simp,.inr ⟨b,aD 20 (aN .u8 0),rfl,H,rfl,by simp,by simp [yv]⟩⟩,?_,?_⟩ X hb (w rfl) hW hn u (by rw [<- ak];exact hK)
  ·exact A0 lg (A0 i.le (A0 d.le (Heap.le_put _ H)))
  ·rw [List.append_nil];exact D.put y _
  ·exact A0 lg (A0 i.le d.le)
  ·exact (show SlI .u64 x CA1 (nz ns) from i.slV).mono d.le
end
def Dt(i:Nat):Nat:=10^(19*2^i)
def Wq(i:Nat):Dt i=(10^19)^(2^i):=cU _ _ _
def A0f(i:Nat):0<Dt i:=Nat.pow_pos dc
def Oa(i:Nat):Dt (i+1)=Dt i*Dt i:=by
 unfold Dt
 rw [<- Nat.pow_add]
 grind
def A34(i:Nat):(Dt i:Int)<b64^(2^i):=by
 have h:(10^19)^(2^i)<(18446744073709551616:Nat)^(2^i):=Nat.pow_lt_pow_left dc (Nat.pos_iff_ne_zero.1 (Nat.pow_pos dc))
 rw [<- Wq] at h
 grind
def A35(i:Nat):(2:Int)^(63*2^i)<=(Dt i:Int):=by
 have h:(2^63)^(2^i)<=(10^19)^(2^i):=cF dc _
 rw [<- Wq,<- cU] at h
 grind
def A5c{k m:Nat}(h:(2:Int)^k<2^m):k<m:=by
 by_cases a:k<m
 ·exact a
 ·have:=C8 (B:=2) dc (show m<=k from o)
  omega
abbrev slT(s:Option aK × Nat × Nat):bX:=.slice s.1 s.2.1 s.2.2
def Pws(h:aL)(PA:Option aK)(k:Nat):Prop:=∃ ss:List (Option aK × Nat × Nat),ss.length=k/\SlV h PA (ss.map slT)/\∀ i s,ss[i]? = some s->s.2.1<=s.2.2/\Mw h s.1 s.2.1 (Dt i:Int)
def Pws.mono{h h':aL}(l:h.le h'){PA:Option aK}{k:Nat}(p:Pws h PA k):Pws h' PA k:=by
 obtain ⟨d,b,c,a⟩:=p
 exact ⟨d,b,c.mono l,fun i s e=>⟨(a i s e).1,(a i s e).2.mono l⟩⟩
def Pws.take{h:aL}{PA:Option aK}{k j:Nat}(p:Pws h PA k)(hj:j<=k):Pws h PA j:=by
 obtain ⟨a,d,b,g⟩:=p
 refine ⟨a.take j,gz0,?_,fun i s e=>?_⟩
 ·have:=SlV.cut (c:=(a.map slT).length) b (Nat.zero_le j) gz0 (aZ _)
  rw [I7,bV,bH,<- List.map_take] at this
  exact this
 grind
def Pws.at{h:aL}{PA:Option aK}{k i:Nat}(p:Pws h PA k)(hi:i<k):∃ (a:aK) (A:Option aK) (n c:Nat),PA=some a/\h.cell? (a.add i)=some (.slice A n c)/\n<=c/\Mw h A n (Dt i:Int):=by
 obtain ⟨e,g,b,j⟩:=p
 obtain ⟨a,d,l⟩:=b.at (i:=i) gz0
 grind
def Mw.tenP_le{h:aL}{A:Option aK}{n i:Nat}(m:Mw h A n (Dt i:Int)):n<=2^i:=m.len_le dc (A34 i)
def Mw.tenP_ge{h:aL}{A:Option aK}{n i:Nat}(m:Mw h A n (Dt i:Int)):2^i<2*n:=by
 have a:=m.lt dc
 rw [Bh] at a
 have b:=A5c (cG (A35 i) a)
 omega
def Ext.weak{g g0 g' h':aL}{eT e2:aQ}{A A':Option aK}{n c n' c':Nat}{l t:List UInt8}(l0:g0.le g)(x:Ext g eT A n c l t A' n' c' e2 g' h'):Ext g0 eT A n c l t A' n' c' e2 g' h':=⟨A0 l0 x.le,x.priv,x.len,x.fit,x.tag⟩
def A6w(w n:Nat):w<=(pad w n).length:=by simp [pad];omega
def A3c{j:Nat}(hj:j<=50):B7 (19*2^(min j 64))=((19*2^j:Nat):Int):=by
 rw [aW o]
 have b:2^j<=2^50:=aJ dc hj
 have a:(19*2^j:Int)=((19*2^j:Nat):Int):=by rfl
 rw [a,B5 o o]
def Ng{l:List UInt8}(hd:∀ c∈l,G4 c):(J9 l:Int)<b64^(l.length/19+1):=by
 have g:=Dl hd
 have b:10^l.length<=10^(19*(l.length/19+1)):=aJ dc o
 rw [cU] at b
 have e:(10^19)^(l.length/19+1)<=(18446744073709551616:Nat)^(l.length/19+1):=cF dc _
 have d:J9 l<(18446744073709551616:Nat)^(l.length/19+1):=o
 have a:=Int.ofNat_lt.2 d
 rw [aX] at a
 exact a
def Hg:∀ (k:Nat) {h g:aL} {K:VP} {A XA PA:Option aK} {n c xn xc pc v W:Nat} {eT:aQ} {l:List UInt8},Gp g->bI h g eT 1 A n c (yv l)->Mw g XA xn (v:Int)->xn<=xc->xn<=10000000->Pws g PA k->k<=pc->k<=26->(W=0\/W=19*2^k)->n+(pad W v).length<=1000000000->
 (∀ A' n' c' e3 g' h',Ext g eT A n c l (pad W v) A' n' c' e3 g' h'->K (.slice A' n' c') h')->aG prog 238 #[.slice A n c,.slice XA xn xc,I (W:Int),.slice PA k pc] h K:=by
 intro k
 induction k with
 | zero=>
  intro h g K A XA PA n c xn xc pc v W eT l d p M z G y F hk hW Q E
  refine (fnk func238) ?_
  refine B4 (fun _=>?_) (fun e=>absurd dc e)
  refine X6 d p M G o o ?_
  grind
 | succ j ih=>
  intro h g K A XA PA n c xn xc pc v W eT l d p M z G y F hk hW Q E
  have T:=A6w W v
  have e1:B7 (((j+1:Nat):Int)-1)=(j:Int):=by rw [B5 o o];omega
  refine (fnk func238) ?_
  simp only [e1,aC,bH,I7,A3c (show j<=50 from o)]
  refine B4 (fun e=>absurd e o) (fun _=>B4 (fun _=>?_) (fun _=>?_))
  ·refine X6 d p M G o o ?_
   grind
  ·obtain ⟨a,PA',pn,ad,ha,hc,u,Mp⟩:=y.at (i:=j) o
   refine ⟨a,ha,o,o,_,_,_,by rw [bM];exact C2 p.le hc,?_⟩
   have ah:=Mp.tenP_le
   have aa:2^j<=2^26:=aJ dc o
   have D:=A0f j
   refine p.call ?_
   refine L6 M Mp z u o o o ?_
   intro A1 m1 c1 A2 m2 c2 g1 b V R M1 M2 h1 O
   refine ⟨_,_,_,_,_,_,rfl,?_⟩
   rw [<- dJ] at M1
   rw [<- Int.natCast_emod] at M2
   have hv:=Nat.div_add_mod v (Dt j)
   have m:=Nat.mod_lt v D
   have ac:=aT v (Dt j)
   generalize v/Dt j=q at *
   generalize v%Dt j=r at *
   have hz:=M1.len_zero dc
   have H:=M.lt dc
   have af:m1<=xn:=M1.len_le dc o
   have ae:m2<=xn:=M2.len_le dc (by
    omega)
   have C:v=q*10^(19*2^j)+r:=by rw [<- hv,Nat.mul_comm];rfl
   refine B4 (fun e=>absurd e o) (fun _=>?_)
   refine E4 (fun X=>E4 (fun eW=>?_) (fun eW=>?_)) (fun X=>?_)
   ·obtain rfl:W=0:=o
    obtain rfl:q=0:=o
    obtain rfl:v=r:=o
    refine ⟨⟨o,o⟩,?_⟩
    refine ih (W:=0) (d.mono b) O M2 R o ((y.mono b).take o) o o (.inl rfl) Q ?_
    intro A4 n4 c4 S N h4 B
    exact ⟨_,_,_,rfl,E _ _ _ _ _ _ (B.weak b)⟩
   all_goals
    have hw:q≠0\/19*2^j<=W:=o
    have x:=Pb (w:=W) (h:=q) (l:=r) (k:=19*2^j) m hw
    rw [<- C] at x
    have ab:(pad (19*2^j) r).length=19*2^j:=Km m
    have ai:(pad W v).length=(pad (W-19*2^j) q).length+19*2^j:=gz0
    refine ⟨⟨o,o⟩,?_⟩
    have e3:(if (0:Int)>B7 ((W:Int)-((19*2^j:Nat):Int)) then (0:Int) else B7 ((W:Int)-((19*2^j:Nat):Int)))=((W-19*2^j:Nat):Int):=by
     rw [B5 o o]
     omega
    rw [e3]
    refine ih (d.mono b) O M1 V o ((y.mono b).take o) o o o o ?_
    intro A3 n3 c3 e3 g3 h3 s
    have ag:=s.len
    have L:=A0 b s.le
    refine ⟨_,_,_,rfl,⟨o,o⟩,?_⟩
    refine ih (d.mono L) s.priv (M2.mono s.le) R o ((y.mono L).take o) o o (.inr rfl) o ?_
    intro A4 n4 c4 S N h4 B
    refine ⟨_,_,_,rfl,E _ _ _ S N _ ?_⟩
    rw [x]
    exact (s.trans B).weak b
def Bi:∀ (k:Nat) {h:aL} {K:VP} {PA:Option aK} {pc:Nat} {l:List UInt8},(∀ c∈l,G4 c)->l.length<=140737488351232->Pws h PA k->k<=pc->k<=50->(∀ A n c h',h.le h'->n<=c->Mw h' A n (J9 l:Int)->K (.slice A n c) h')->aG prog 228 #[.string (bs l),.slice PA k pc] h K:=by
 intro k
 induction k using Nat.strongRecOn with
 | _ k ih=>
  intro h K PA pc l u hl C aa hk T
  refine (fnk func228 [(2,[5],[],[I 0])] (os:=[(7,[0,1,2,3,4,5,7,8,9,10,6,11,12])])) ?_
  rw [I9]
  have b:aG prog 257 #[.string (bs l)] h (fun r w=>∃ (A:Option aK) (n c:Nat),r= .slice A n c/\K (.slice A n c) w):=by
   refine Hc u hl ?_
   grind
  refine ⟨fun s w=>w=h/\∃ j:Nat,s=[I ((j:Int)-1)]/\j<=k,fun s _=>(iAt s 0+1).toNat,⟨rfl,k,by rw [B5 o o],aZ _⟩,?_⟩
  rintro g w ⟨rfl,j,hs,hj⟩
  obtain rfl:g=(j:Int)-1:=gz0
  refine B4 (fun O=>?_) (fun O=>B4 (fun _=>b) (fun e=>absurd (show (j:Int)-1<0 from o) e))
  obtain ⟨i,rfl⟩:∃ i,j=i+1:=⟨j-1,o⟩
  have N:((i+1:Nat):Int)-1=(i:Int):=o
  simp only [N,aC,bH,I7,A3c (show i<=50 from o)]
  refine B4 (fun e=>absurd e o) (fun _=>B4 (fun G=>?_) (fun G=>?_))
  ·refine ⟨⟨trivial,i,by rw [B5 o o],o⟩,?_⟩
   simp only [iAt,aE]
   rw [B5 o o]
   omega
  refine B4 (fun e=>absurd e o) (fun _=>B4 (fun _=>b) (fun F=>B4 (fun e=>absurd e o) (fun _=>?_)))
  have W:B7 ((l.length:Int)-((19*2^i:Nat):Int))=((l.length-19*2^i:Nat):Int):=by rw [B5 o o];omega
  simp only [W,aC,N2,bV,bH]
  obtain ⟨a,PA',pn,V,ha,q,p,Mp⟩:=C.at (i:=i) o
  refine ⟨⟨o,o⟩,⟨o,o⟩,a,ha,o,o,_,_,_,by rw [bM];exact q,?_⟩
  have ac:=Mp.tenP_le
  have m:∀ c∈l.take (l.length-19*2^i),G4 c:=fun c q=>u c (cW q)
  have d:∀ c∈l.drop (l.length-19*2^i),G4 c:=fun c q=>u c (List.mem_of_mem_drop q)
  have ad:(l.take (l.length-19*2^i)).length=l.length-19*2^i:=gz0
  have y:(l.drop (l.length-19*2^i)).length=19*2^i:=gz0
  have H:J9 l=J9 (l.take (l.length-19*2^i))*Dt i+J9 (l.drop (l.length-19*2^i)):=by
   have:=Dm (l.take (l.length-19*2^i)) (l.drop (l.length-19*2^i))
   rw [bZ,y] at this
   exact this
  have Q:=Ng u
  have E:=Ng m
  have B:=Ng d
  refine ih i o m o (C.take o) o o ?_
  intro A1 n1 c1 G x M M1
  refine ⟨_,_,_,rfl,x,?_⟩
  have R:=M1.len_le dc E
  refine D6 M1 (Mp.mono x) M p o o ?_
  intro A2 n2 c2 h2 D k2 M2
  refine ⟨_,_,_,rfl,D,⟨o,o⟩,⟨o,o⟩,?_⟩
  have ab:=M2.len_le dc (cG (Int.ofNat_le.2 o) Q)
  rw [aH o]
  refine ih i o d o ((C.mono (A0 x D)).take o) o o ?_
  intro A3 n3 c3 h3 z S M3
  refine ⟨_,_,_,rfl,z,?_⟩
  have X:=M3.len_le dc B
  refine K7 (M2.mono z) M3 k2 S o o ?_
  intro A4 n4 c4 h4 L k4 M4
  refine ⟨_,_,_,rfl,L,T _ _ _ _ (A0 x (A0 D (A0 z L))) k4 ?_⟩
  grind
section
variable {h g:aL} {K:VP} {A XA:Option aK} {n c:Nat} {eT:aQ} {l:List UInt8}
def Ob{hs:aL}{ss:List (Option aK × Nat × Nat)}{s:Option aK × Nat × Nat}(h3:∀ i s,ss[i]? = some s->s.2.1<=s.2.2/\Mw hs s.1 s.2.1 (Dt i:Int))(h4:s.2.1<=s.2.2/\Mw hs s.1 s.2.1 (Dt ss.length:Int)):∀ i t,(ss++[s])[i]? = some t->t.2.1<=t.2.2/\Mw hs t.1 t.2.1 (Dt i:Int):=by
 grind
def Lp{hs:aL}{b:Nat}{e:aQ}: ∀ i (t:Option aK × Nat × Nat),[((some ⟨b,0,none⟩:Option aK),1,1)][i]? = some t->t.2.1<=t.2.2/\Mw (hs.put b (.cells #[U 10000000000000000000] e)) t.1 t.2.1 (Dt i:Int):=by
 intro i t a
 rcases i with _|i
 ·simp at a
  subst a
  refine ⟨aZ _,[10000000000000000000],rfl,SlI.new _ _ _ _ _,?_,?_,?_⟩
  ·intro x c;grind
  ·unfold Norm;simp
  rfl
 grind
def Ih(hd:∀ c∈l,G4 c)(hl:l.length<=140737488351232)(hK:∀ A n c h',h.le h'->n<=c->Mw h' A n (J9 l:Int)->K (.slice A n c) h'):aG prog 185 #[.string (bs l)] h K:=by
 refine (fnk func185 [(4,[3],[],[.slice none 0 0])]) ?_
 rw [I9]
 refine B4 (fun h5=>?_) (fun _=>?_)
 ·refine S5 I6 rfl ?_
  intro r y
  refine ⟨_,_,_,rfl,?_⟩
  refine Bf Th (Priv.nil _ _ _ none) rfl rfl o o ?_
  intro A1 c1 h1 T q S
  refine ⟨fun s w=>∃ (d:List (Option aK × Nat × Nat)) (PA:Option aK) (k x:Nat) (g:aL),s=[.slice PA k x]/\bI w g 89 1 PA k x (d.map slT)/\d.length=k/\0<k/\h.le g/\(∀ i s,d[i]? = some s->s.2.1<=s.2.2/\Mw g s.1 s.2.1 (Dt i:Int))/\2^(k-1)<=l.length,fun s _=>match s with|[.slice _ n _]=>l.length-n|_=>0,⟨[(some ⟨r,0,none⟩,1,1)],A1,1,c1,T,rfl,S,rfl,o,A0 (Heap.le_put _ y) q,fun i s e=>⟨(Lp (hs:=h) (b:=r) (e:=230) i s e).1,(Lp (hs:=h) (b:=r) (e:=230) i s e).2.mono q⟩,o⟩,?_⟩
  rintro PA k x w ⟨d,PA',k',Q,g,hs,p,C,R,B,m,N⟩
  obtain ⟨rfl,rfl,rfl⟩:=hs
  have G:k-1<47:=by
   by_cases j:k-1<47
   ·exact j
   ·have:2^47<=2^(k-1):=aJ dc o
    omega
  rw [aC,A3c (show k<=50 from o)]
  have e1:B7 ((k:Int)-1)=((k-1:Nat):Int):=by rw [B5 o o];omega
  have z:Pws w PA k:=⟨d,C,p.slV,fun i s e=>⟨(m i s e).1,(m i s e).2.mono p.le⟩⟩
  refine B4 (fun e=>absurd e o) (fun _=>B4 (fun W=>?_) (fun W=>?_))
  ·obtain ⟨a,ha,j⟩:=p.slV.at (i:=k-1) gz0
   rw [List.getElem_map] at j
   obtain ⟨D,M⟩:=m (k-1) (d[k-1]'o) (bJ o)
   generalize d[k-1]'o=s at *
   dsimp only;rw [e1]
   refine ⟨a,ha,o,o,_,_,_,by rw [aC,bM];exact j,?_⟩
   have E:=M.tenP_le
   have O:2^k=2*2^(k-1):=by rw [<- Nat.pow_succ',show (k-1).succ=k from o]
   refine p.call ?_
   refine D6 M M D D o o ?_
   intro A2 H c2 g2 F X M2 h2 L
   refine ⟨_,_,_,rfl,?_⟩
   refine Bf Th L rfl rfl o o ?_
   intro A3 V h3 g3 u p3
   refine ⟨⟨d++[(A2,H,c2)],A3,k+1,V,g3,rfl,?_,gz0,o,A0 B (A0 F u),?_,?_⟩,?_⟩
   ·grind
   ·refine Ob (fun i s e=>⟨(m i s e).1,(m i s e).2.mono (A0 F u)⟩) ⟨X,?_⟩
    rw [C,show Dt k=Dt (k-1)*Dt (k-1) by rw [<- Oa];grind,aY]
    exact M2.mono u
   ·grind
   grind
  ·refine Bi k hd hl z p.2.1 o ?_
   intro A n c h' l1 j M
   exact ⟨_,_,_,rfl,hK _ _ _ _ (A0 B (A0 p.le l1)) j M⟩
 ·refine Bi 0 hd hl ⟨[],rfl,SlV.nil,by simp⟩ o o ?_
  grind
def Ch(hd:∀ c∈l,G4 c)(hl:l.length<=140737488351232)(hK:∀ A n c h',h.le h'->ZI h' false A n c (J9 l:Int)->K (.agg #[.bool false,.slice A n c]) h'):aG prog 116 #[.string (bs l)] h K:=by
 refine (fnk func116 (own:=[2])) ?_
 refine Ih hd hl ?_
 intro A n c h' b a M
 refine ⟨_,_,_,rfl,hK _ _ _ _ b ⟨a,?_,?_⟩⟩
 ·assumption
 rfl
end
def Priv.le_put'{h g:aL}{e:aQ}{s:Nat}{A:Option aK}{n c:Nat}{xs:List bX}(p:bI h g e s A n c xs){b:Nat}(hb:h b=none)(o:Obj):g.le (g.put b o):=by
 intro k i d
 have a:k≠b:=by
  rintro rfl
  rw [p.le k i d] at hb;cases hb
 rw [B6 _ _ a];exact d
def Wd{n:Int}(h0:9223372036854775808<=n)(h1:n<18446744073709551616):B7 n=n-18446744073709551616:=by
 unfold B7 IntKind.wrap
 simp only [IntKind.signed,IntKind.bits]
 grind
section
variable {h g:aL} {K:VP} {A XA:Option aK} {n c:Nat} {eT:aQ} {l:List UInt8}
def A7e{v xn:Nat}(hv:(v:Int)<b64^xn):(dd v).length<=20*xn:=by
 refine L4.2 ?_
 rw [cU]
 have a:((v:Nat):Int)<((18446744073709551616^xn:Nat):Int):=by assumption
 exact aU (Int.ofNat_lt.1 a) (cF dc _)
def Ag{xn xc v:Nat}(gp:Gp g)(p:bI h g eT 1 A n c (yv l))(M:Mw g XA xn (v:Int))(hxc:xn<=xc)(hx:xn<=10000000)(hn:n<=200000000)
 (hK:∀ A' n' c' e3 g' h',Ext g eT A n c l (J1 v) A' n' c' e3 g' h'->K (.slice A' n' c') h'):aG prog 190 #[.slice A n c,.slice XA xn xc] h K:=by
 have h0:=M.len_zero dc
 refine (fnk func190 [(6,[5],[],[.slice none 0 0])]) ?_
 refine E4 (fun e=>?_) (fun e=>?_)
 ·obtain rfl:v=0:=o
  refine Z2 (ch:=48) rfl p o ?_
  assumption
 ·have T:v≠0:=o
  refine E4 (fun e1=>?_) (fun e1=>?_)
  ·obtain ⟨xs,Q,sx,dx,nx,L⟩:=M
   obtain ⟨w,rfl⟩:∃ w,xs=[w]:=by
    rcases xs with _|⟨w,_|⟨w',r⟩⟩
    ·grind
    ·grind
    grind
   rw [Y6] at L
   subst L
   refine (SlI.mono p.le sx).load Q o o ?_
   have y:=dx v (by simp)
   refine Af (gp.mono p.le) p gz0 o ?_
   grind
  ·have al:=A7e (M.lt dc)
   have af:(pad 0 v).length<=200000000:=by rw [Tp];omega
   refine S5 I6 rfl ?_
   intro D N
   refine ⟨_,_,_,rfl,?_⟩
   have p1:=p.put N (.cells #[U 10000000000000000000] 230)
   have l1:=p.le_put' N (.cells #[U 10000000000000000000] 230)
   have w1:=fun i s e=>Lp (hs:=g) (b:=D) (e:=230) i s e
   generalize h.put D (Obj.cells #[U 10000000000000000000] 230)=h1 at *
   generalize g.put D (Obj.cells #[U 10000000000000000000] 230)=g1 at *
   refine S5 Th rfl ?_
   intro b2 V
   refine ⟨_,_,_,rfl,?_⟩
   have split:∀ {B:aL} {q:List (Option aK × Nat × Nat)} {PA:Option aK} {k z:Nat} {j d:aL},bI B j 89 1 PA k z (q.map slT)->bI j d eT 1 A n c (yv l)->q.length=k->g.le d->(∀ i s,q[i]? = some s->s.2.1<=s.2.2/\Mw d s.1 s.2.1 (Dt i:Int))->k<=26->
    aG prog 238 #[.slice A n c,.slice XA xn xc,I (0:Int),.slice PA k z] B (fun r ab=>∃ (A1:Option aK) (n1 c1:Nat),r= .slice A1 n1 c1/\K (.slice A1 n1 c1) ab):=by
    intro B q PA k z j d C E G F y m
    obtain ⟨g3,R,u⟩:=C.swap E
    have H:=A0 F u.le
    refine Hg k (W:=0) (gp.mono H) R (M.mono H) hxc hx ⟨q,G,u.slV,fun i s e=>⟨(y i s e).1,(y i s e).2.mono u.le⟩⟩ u.2.1 m (.inl rfl) o ?_
    intro A' n' c' e2 g' h' x
    refine ⟨_,_,_,rfl,hK _ _ _ e2 g' _ ?_⟩
    rw [Tp,<- Z8 T] at x
    exact x.weak H
   refine ⟨fun s B=>∃ (q:List (Option aK × Nat × Nat)) (PA:Option aK) (k z:Nat) (j d:aL),s=[.slice PA k z]/\bI B j 89 1 PA k z (q.map slT)/\bI j d eT 1 A n c (yv l)/\q.length=k/\0<k/\g.le d/\(∀ i s,q[i]? = some s->s.2.1<=s.2.2/\Mw d s.1 s.2.1 (Dt i:Int))/\2^(k-1)<=2*xn,fun s _=>match s with|[.slice _ n _]=>xn-n|_=>0,⟨[(some ⟨D,0,none⟩,1,1)],_,1,1,h1,g1,rfl,⟨by simp,by simp,.inr ⟨b2,[.slice (some ⟨D,0,none⟩) 1 1],rfl,V,rfl,by simp,by simp⟩⟩,p1,rfl,o,l1,w1,o⟩,?_⟩
   rintro PA k z B ⟨q,PA',k',ah,j,d,hs,C,E,G,ai,F,y,ak⟩
   obtain ⟨rfl,rfl,rfl⟩:=hs
   have m:k<=26:=by
    by_cases O:k<=26
    ·exact O
    ·have h1:2^26<=2^(k-1):=aJ dc o
     omega
   refine B4 (fun aj=>?_) (fun _=>split C E G F y m)
   have e1:B7 ((k:Int)-1)=((k-1:Nat):Int):=by rw [B5 o o];omega
   obtain ⟨a,ha,O⟩:=C.slV.at (i:=k-1) gz0
   rw [List.getElem_map] at O
   obtain ⟨h4,Mk⟩:=y (k-1) (q[k-1]'o) (bJ o)
   generalize q[k-1]'o=s at *
   simp only [e1,aC,bM]
   refine ⟨a,ha,o,o,_,_,_,O,?_⟩
   have ae:=Mk.tenP_ge
   have am:=Mk.tenP_le
   have e2:B7 (2*(s.2.1:Int))=2*(s.2.1:Int):=B5 o o
   refine B4 (fun h5=>?_) (fun _=>split C E G F y m)
   refine ⟨a,ha,o,o,_,_,_,O,?_⟩
   refine C.call (E.call ?_)
   refine D6 Mk Mk h4 h4 o o ?_
   intro A2 m2 c2 g2 l2 k2 M2 ad ac ag X
   refine ⟨_,_,_,rfl,?_⟩
   refine Bf Th X rfl rfl o o ?_
   intro A3 c3 h3 g3 H p3
   obtain ⟨g4,S,aa⟩:=ac.after H
   have hm:2^k=2*2^(k-1):=by
    obtain ⟨i,rfl⟩:∃ i,k=i+1:=⟨k-1,o⟩
    grind
   refine ⟨⟨q++[(A2,m2,c2)],A3,k+1,c3,g3,g4,rfl,?_,aa,gz0,o,A0 F (A0 l2 S),?_,?_⟩,?_⟩
   ·rw [cQ];exact p3
   ·refine Ob (fun i s e=>⟨(y i s e).1,(y i s e).2.mono (A0 l2 S)⟩) ⟨k2,?_⟩
    rw [G,show Dt k=Dt (k-1)*Dt (k-1) by rw [<- Oa];grind,aY]
    exact M2.mono S
   ·grind
   omega
def A05{z:Int}{s:Bool}{xn xc m:Nat}(i:ZI h s XA xn xc z)(hz:ZB m z)(hm:m<=100000000):xn<=10000000:=by
 obtain ⟨k,hk⟩:∃ k,k=10000000:=⟨_,rfl⟩
 rw [<- hk]
 refine i.mag.len_le dc ?_
 rw [Bh]
 have a:(z.natAbs:Int)<2^m:=by
  have:((z.natAbs:Nat):Int)<((2^m:Nat):Int):=Int.ofNat_lt.2 hz
  assumption
 have b:=C8 (B:=2) dc (show m<=64*k from o)
 omega
def Aw{s:Bool}{xn xc:Nat}{z:Int}(gp:Gp g)(p:bI h g eT 1 A n c (yv l))(i:ZI g s XA xn xc z){m:Nat}(hz:ZB m z)(hm:m<=100000000)(hn:n<=100000000)
 (hK:∀ A' n' c' e3 g' h',Ext g eT A n c l (Ds z) A' n' c' e3 g' h'->K (.slice A' n' c') h'):aG prog 129 #[.agg #[.bool s,.slice XA xn xc],.slice A n c] h K:=by
 have d:=A05 i hz hm
 refine (fnk func129 (own:=[2])) ?_
 refine Br.of (fun e=>?_) (fun e=>?_)
 ·have a:z<0:=by have:=i.sgn;grind
  rw [Lm a] at hK
  refine Z2 (ch:=45) rfl p o ?_
  intro A1 x c1 w u j b
  have:=b.len
  refine Ag (gp.mono b.le) b.priv (i.mag.mono b.le) i.cap d gz0 ?_
  intro A2 B c2 y r q k
  exact ⟨_,_,_,rfl,hK _ _ _ _ _ _ (b.trans k)⟩
 ·have a:¬ z<0:=by have:=i.sgn;grind
  rw [Hq a] at hK
  refine Ag gp p i.mag i.cap d o ?_
  grind
def At{s:Bool}{xn xc:Nat}{z:Int}(gp:Gp h)(i:ZI h s XA xn xc z){m:Nat}(hz:ZB m z)(hm:m<=100000000)(hK:K (.string (bs (Ds z))) h):aG prog 69 #[.agg #[.bool s,.slice XA xn xc]] h K:=by
 refine FCall.pure ((fnk func69 (own:=[1])) ?_)
 refine Aw (l:=[]) (eT:=5) gp (Priv.nil _ _ _ _) i hz hm o ?_
 intro A' a c e d b x
 refine ⟨_,_,_,rfl,?_⟩
 have g:=x.len
 refine Ea Bc.und V7 O5 x.priv.slV gz0 ⟨_,rfl,?_⟩
 exact ⟨A0 x.le x.priv.le,hK⟩
def Qq{s:Bool}{xn xc:Nat}{z:Int}(i:ZI h s XA xn xc z)(hK1: -9223372036854775808<=z->z<9223372036854775808->K (.tuple #[I z,.bool true]) h)(hK0:¬ (-9223372036854775808<=z/\z<9223372036854775808)->K (.tuple #[I 0,.bool false]) h):aG prog 127 #[.agg #[.bool s,.slice XA xn xc]] h K:=by
 have A:=i.zeroIff
 have l:=S3 i.sgn
 refine (fnk func127 (own:=[1])) ?_
 refine E4 (fun e=>?_) (fun e=>?_)
 ·grind
 ·obtain ⟨xs,a,m,y,x,b⟩:=i.mag
  refine m.load a o o ?_
  rw [show ((0:Int)).toNat=0 from rfl]
  refine B4 (fun k=>?_) (fun k=>?_)
  ·refine hK0 ?_
   have j:=i.mag.ge dc o
   have u:b64^1<=b64^(xn-1):=C8 dc o
   grind
  ·obtain ⟨w,rfl⟩:∃ w,xs=[w]:=by
    rcases xs with _|⟨w,_|⟨q,r⟩⟩
    ·grind
    ·grind
    grind
   rw [Y6] at b
   have p:[w].getD 0 0=w:=rfl
   rcases l with ⟨rfl,n⟩|⟨rfl,n⟩
   ·refine Br.of (fun _=>?_) (fun g=>by cases g)
    refine B4 (fun c=>?_) (fun c=>?_)
    ·have:B7 (C4 (0-w))=z:=by rw [F0,Wd o o];omega
     grind
    ·refine Br.of (fun d=>by cases d) (fun _=>?_)
     grind
   ·refine Br.of (fun g=>by cases g) (fun _=>?_)
    refine Br.of (fun _=>?_) (fun d=>by cases d)
    refine B4 (fun c=>?_) (fun c=>?_)
    ·have:B7 w=z:=by rw [B5 o o];omega
     grind
    grind
end
def A39(q:Rat)(f:Int):(q-f).num=q.num-f*q.den/\(q-f).den=q.den:=by
 have b:aV (q.num-f*q.den).natAbs q.den=1:=by
  have a:aR (q.num-f*q.den) q.den=aR q.num q.den:=Int.gcd_sub_mul_right_left _ _ _
  have c:aR q.num q.den=1:=by
   have:=q.reduced
   assumption
  rw [c] at a
  assumption
 have e:q-f=⟨q.num-f*q.den,q.den,q.den_nz,b⟩:=by
  rw [Rat.sub_def',Rat.mk_eq_mkRat];simp
 grind
def Xz(a b:Rat):(a*b).num=a.num.tdiv (aV a.num.natAbs b.den:Nat)*b.num.tdiv (aV b.num.natAbs a.den:Nat)/\(a*b).den=a.den/(aV b.num.natAbs a.den)*(b.den/(aV a.num.natAbs b.den)):=by
 show (Rat.mul a b).num=_/\(Rat.mul a b).den=_
 delta Rat.mul
 simp only [Int.divExact_eq_tdiv,Nat.divExact_eq_div,and_self]
def Lg(a b:Rat)(h:a.den.gcd b.den=1):(a+b).num=a.num*b.den+b.num*a.den/\(a+b).den=a.den*b.den:=by
 show (dP a b).num=_/\(dP a b).den=_
 delta dP
 grind
def Lf(a b:Rat)(h:a.den.gcd b.den≠1){g r:Nat}{z:Int}(hg:g=a.den.gcd b.den)(hz:z=a.num*(b.den/g:Nat)+b.num*(a.den/g:Nat))(hr:r=z.natAbs.gcd g):(a+b).num=z.tdiv r/\(a+b).den=a.den/g*(b.den/r):=by
 subst hg hz
 have c:r∣b.den:=by rw [hr];exact Nat.dvd_trans (cK ..) (cK ..)
 show (dP a b).num=_/\(dP a b).den=_
 delta dP
 simp only [h,dif_neg,not_false_eq_true]
 rw [Rat.maybeNormalize_eq]
 subst hr
 refine ⟨?_,Nat.mul_div_assoc _ c⟩
 simp only [Int.divExact_eq_tdiv]
def Fc(a:Rat)(z:Int):(a+z).num=z*a.den+a.num/\(a+z).den=a.den:=by
 have:=A39 a (-z)
 have e:a - -(z:Rat)=a+z:=gz0
 grind
def Kw{q:Rat}(h:q.den=1):q=(q.num:Rat):=by
 apply Rat.ext
 ·simp
 assumption
abbrev dgt(c:UInt8):Bool:=decide (G4 c)
def Eb(l:List UInt8):∀ c∈l.takeWhile dgt,G4 c:=by
 induction l with
 | nil=>simp
 | cons d r ih=>
  intro c b
  by_cases a:G4 d
  ·simp [a] at b
   grind
  simp_all
def A15(l:List UInt8):Bool:=decide ([45] <+: l)
def Cq(l:List UInt8):List UInt8:=if [45] <+: l then l.drop 1 else l
def To(l:List UInt8):l=(if A15 l then [45] else [])++Cq l:=by
 unfold A15 Cq
 by_cases h:[45] <+: l
 ·obtain ⟨t,rfl⟩:=h;simp
 grind
def Xl(l:List UInt8):A15 l=(l.head? == some 45):=by
 unfold A15
 cases l with
 | nil=>simp
 | cons c r=>
  grind
def Form.parts{l:List UInt8}{neg:Bool}{a b:List UInt8}(f:Form l neg a b):neg=A15 l/\a=(Cq l).takeWhile dgt/\(if b=[] then [] else 47::b)=(Cq l).dropWhile dgt:=by
 have j:neg=A15 l:=by rw [Xl];exact f.head
 have e:=To l
 have i:=e.symm.trans f.eq
 have g:∀ c,(if b=[] then [] else 47::b:List UInt8).head? = some c->¬ G4 c:=by
  intro c d
  split at d
  ·grind
  ·simp at d;subst d;decide
 have:=Y9 f.da g
 grind
section
variable {h g:aL} {K:VP} {l:List UInt8}
def Cz(hl:l.length<=1000000000000000)(hK:K (.tuple #[.string (bs (l.takeWhile dgt)),.string (bs (l.dropWhile dgt))]) h):aG prog 184 #[.string (bs l)] h K:=by
 refine (fnk func184 [(2,[4],[],[I 0])] (cs:=[(4,[4],[],[I 0])])) ?_
 simp only [I9]
 refine ⟨fun L d=>L=[I (((l.takeWhile dgt).length:Nat):Int)]/\d=h,?_,?_⟩
 ·refine ⟨fun L d=>∃ k:Nat,L=[I k]/\d=h/\k<=l.length/\(∀ c∈l.take k,G4 c),fun L _=>l.length-(iAt L 0).toNat,⟨0,rfl,rfl,o,by simp⟩,?_⟩
  rintro n d ⟨k,z,rfl,B,g⟩
  obtain rfl:n=(k:Int):=gz0
  have a:(∀ c,(l.drop k).head? = some c->¬ G4 c)->[I (k:Int)]=[I (((l.takeWhile dgt).length:Nat):Int)]/\d=d:=by
   intro y
   have:=Y9 g y
   simp_all
  refine B4 (fun u=>?_) (fun u=>?_)
  ·have i:k<l.length:=o
   have b:(bs l)[(k:Int).toNat]? = some l[k]:=by rw [aC,Ue,bJ i]
   have r:(l.drop k).head? = some l[k]:=by simp_all
   refine ⟨l[k],⟨o,b⟩,B4 (fun m=>?_) (fun m=>?_)⟩
   ·refine ⟨l[k],⟨o,b⟩,B4 (fun s=>?_) (fun s=>?_)⟩
    ·rw [B5 o o]
     refine ⟨⟨k+1,rfl,rfl,o,?_⟩,by simp only [iAt,aE];omega⟩
     rw [bU i]
     intro c e
     rcases List.mem_append.1 e with q|q
     ·grind
     ·rw [List.mem_singleton.1 q];exact ⟨o,o⟩
    ·exact a (fun c e=>by rw [r] at e;cases e;intro g;exact s (by have:=g.2;omega))
   ·exact a (fun c e=>by rw [r] at e;cases e;intro g;exact m (by have:=g.1;omega))
  grind
 ·rintro n d ⟨z,rfl⟩
  obtain rfl:n=(((l.takeWhile dgt).length:Nat):Int):=gz0
  have w:(l.takeWhile dgt).length<=l.length:=(List.takeWhile_sublist _).length_le
  have j:l.take (l.takeWhile dgt).length=l.takeWhile dgt:=by
   conv=>lhs;rw [<- bY (p:=dgt) (l:=l)]
   rw [bY,List.prefix_iff_eq_take.1 (List.takeWhile_prefix _)]
   grind
  have A:l.drop (l.takeWhile dgt).length=l.dropWhile dgt:=by
   have x:l.takeWhile dgt++l.drop (l.takeWhile dgt).length=l.takeWhile dgt++l.dropWhile dgt:=by
    rw [bY]
    conv=>lhs;lhs;rw [<- j]
    exact bZ _ _
   exact List.append_cancel_left x
  refine ⟨⟨o,o⟩,⟨o,o⟩,?_⟩
  rw [aC,N2,N2,bV,bH,j,A,aH gz0]
  exact hK
def P5(a:List UInt8):((bs a).toList==({ data:=#[] }:ByteArray).toList)=decide (a=[]):=Gz a []
def Fn(hl:l.length<=1000000000000000)(hK1:∀ neg a b,Form l neg a b->K (.tuple #[.agg #[.bool neg,.string (bs a),.string (bs b)],.bool true]) h)(hK0:(∀ neg a b,¬ Form l neg a b)->∀ neg a b,K (.tuple #[.agg #[.bool neg,.string (bs a),.string (bs b)],.bool false]) h):aG prog 115 #[.string (bs l)] h K:=by
 refine (fnk func115 (cs:=[(8,[31],[],[.bool false])]) (own:=[2,4])) ?_
 refine Jw (q:=[45]) ⟨_,_,rfl,?_⟩
 have aa:(Cq l).length<=l.length:=by unfold Cq;grind
 show aG prog 184 #[.string (bs (Cq l))] h _
 refine Cz o ⟨_,_,rfl,?_⟩
 show Br _ _ _
 have x:Cq l=(Cq l).takeWhile dgt++(Cq l).dropWhile dgt:=List.takeWhile_append_dropWhile.symm
 have z:∀ c∈(Cq l).takeWhile dgt,G4 c:=Eb _
 have j:∀ neg a b,Form l neg a b->neg=A15 l/\a=(Cq l).takeWhile dgt/\(if b=[] then [] else 47::b)=(Cq l).dropWhile dgt:=fun neg a b f=>f.parts
 have E:=To l
 show Br _ _ _
 have A:decide ([45] <+: l)=A15 l:=rfl
 rw [A]
 generalize A15 l=neg at *
 generalize (Cq l).takeWhile dgt=a at *
 generalize (Cq l).dropWhile dgt=r at *
 generalize Cq l=t at *
 subst x
 have H:((bs a).toList==({ data:=#[48] }:ByteArray).toList)=decide (a=[48]):=Gz a [48]
 rw [H,P5,P5]
 refine B4 (fun Q=>?_) (fun Q=>?_)
 ·subst Q
  refine Br.not (Br.of (fun X=>?_) (fun X=>?_))
  ·refine hK0 ?_ _ _ []
   intro B p g f
   obtain ⟨rfl,rfl,_⟩:=j _ _ _ f
   rcases f.ha with d|d
   ·grind
   grind
  ·subst X
   by_cases W:r=[]
   ·subst W
    refine hK1 false [48] [] ⟨by assumption,o,by simp,by simp,.inr ⟨rfl,rfl,rfl⟩,by simp,by simp⟩
   ·rw [decide_eq_false W]
    refine hK0 ?_ _ _ []
    intro B p g f
    obtain ⟨rfl,rfl,w⟩:=j _ _ _ f
    rcases f.ha with d|d
    ·grind
    grind
 ·refine ⟨fun L T=>L=[.bool (decide (a=[]\/a.head? = some 48))]/\T=h,?_,?_⟩
  ·refine B4 (fun d=>⟨by simp [d],rfl⟩) (fun d=>?_)
   obtain ⟨c,i,rfl⟩:=bC d
   refine ⟨c,⟨o,by rfl⟩,?_,rfl⟩
   congr 2
   rw [cR,beq_iff_eq,decide_eq_true_iff]
   simp only [reduceCtorEq,false_or,dM,bA]
   constructor
   ·intro e;apply UInt8.toNat_inj.1;grind
   ·rintro rfl;rfl
  rintro F T ⟨hL,rfl⟩
  obtain rfl:F=decide (a=[]\/a.head? = some 48):=gz0
  refine B4 (fun d=>?_) (fun d=>?_)
  ·refine hK0 ?_ _ _ []
   intro B p g f
   obtain ⟨rfl,rfl,_⟩:=j _ _ _ f
   rcases d with d|d
   ·exact f.ne d
   ·rcases f.ha with w|w
    ·grind
    grind
  ·have k:a≠[]:=fun e=>d (.inl e)
   have u:a.head? ≠ some 48:=fun e=>d (.inr e)
   refine B4 (fun w=>?_) (fun w=>?_)
   ·exact hK1 neg a [] ⟨gz0,z,by simp,k,.inl u,by simp,by simp⟩
   ·obtain ⟨c,i,rfl⟩:=bC w
    refine ⟨c,⟨o,by rfl⟩,H9 (fun O=>?_) (fun O=>?_)⟩
    ·refine hK0 ?_ _ _ []
     intro B p g f
     obtain ⟨rfl,rfl,m⟩:=j _ _ _ f
     by_cases C:g=[]
     ·grind
     ·rw [iN C] at m
      simp at m
      exact O (by rw [<- m.1];rfl)
    ·have hc:c=47:=by apply UInt8.toNat_inj.1;grind
     subst hc
     refine ⟨⟨o,by rw [I9];grind⟩,?_⟩
     rw [N2,show ((1:Int)).toNat=1 from rfl,I9,aH (by simp),List.drop_succ_cons,bV]
     refine Cz gz0 ⟨_,_,rfl,?_⟩
     have S:i=i.takeWhile dgt++i.dropWhile dgt:=List.takeWhile_append_dropWhile.symm
     have D:∀ c∈i.takeWhile dgt,G4 c:=Eb _
     have N:∀ g:List UInt8,(∀ c∈g,G4 c)->g=i->i.takeWhile dgt=g/\i.dropWhile dgt=[]:=by
      intro g hd e
      have:=Y9 (r:=[]) hd (by simp)
      grind
     generalize i.takeWhile dgt=b at *
     generalize i.dropWhile dgt=s at *
     have no:(s≠[]\/b=[]\/b.head? = some 48\/b=[49])->∀ neg' p g,¬ Form (((if neg=true then [45] else [])++(a++47::i))) neg' p g:=by
      rintro y B p g f
      rw [<- E] at f
      obtain ⟨rfl,rfl,m⟩:=j _ _ _ f
      by_cases C:g=[]
      ·grind
      ·rw [iN C] at m
       simp at m
       obtain ⟨e6,e7⟩:=N g f.db m
       subst e6
       rcases y with n|n|n|n
       ·grind
       ·grind
       ·exact f.hb n
       ·exact f.b1 n
     rw [P5,P5]
     have G:((bs b).toList==({ data:=#[49] }:ByteArray).toList)=decide (b=[49]):=Gz b [49]
     rw [G]
     refine B4 (fun n=>?_) (fun n=>hK0 gz0 _ _ _)
     refine Br.not (B4 (fun R=>hK0 gz0 _ _ _) (fun R=>?_))
     obtain ⟨c,r3,rfl⟩:=bC R
     refine ⟨c,⟨o,by rfl⟩,H9 (fun V=>?_) (fun V=>?_)⟩
     ·by_cases M:c::r3=[49]
      ·rw [decide_eq_true M]
       exact hK0 gz0 _ _ _
      ·rw [decide_eq_false M]
       refine hK1 neg a (c::r3) ⟨gz0,z,D,k,.inl u,?_,M⟩
       intro e;simp at e;exact V (by rw [e];rfl)
     ·have hh:(c::r3).head? = some 48:=by
       simp only [dM,bA]
       apply UInt8.toNat_inj.1;grind
      grind
end
def A1z:(prog.info? 170).map (fun i=>i.zero)=some (some (.agg (bL 48 (.int .u8 0)))):=by kernel_rfl
def Pr{x y:Int}(hy:0<y):(cO x y).num=x.tdiv (aR x y)/\((cO x y).den:Int)=y.tdiv (aR x y):=by
 have b:(aR x y:Int)∣x:=Int.gcd_dvd_left ..
 have a:(aR x y:Int)∣y:=Int.gcd_dvd_right ..
 constructor
 ·rw [Rat.num_divInt,aP hy,Int.one_mul,dU,dT b]
 ·rw [Rat.den_divInt,iN o,dU,dJ,Int.natAbs_of_nonneg o,dT a]
def Td{q:Rat}(h:q.den=1):C7 q=Ds q.num:=by unfold C7;grind
def Nw{q:Rat}(h:q.den≠1):C7 q=Ds q.num++[47]++Ds (q.den:Int):=by
 unfold C7;rw [iN h,Hq (i:=(q.den:Int)) o,Int.natAbs_natCast];simp
section
variable {h g:aL} {K:VP} {l:List UInt8}
def A81{k:Nat}(h:k<=18):10^k<=1000000000000000000:=bO (aJ dc h) dc
def Ae(hd:∀ c∈l,G4 c)(hl:l.length<=18)(hK:K (I (J9 l:Int)) h):aG prog 182 #[.string (bs l)] h K:=by
 refine (fnk func182 [(3,[3,7],[],[I 0,I 0])]) ?_
 simp only [I9]
 refine ⟨fun L g=>∃ k:Nat,L=[I (J9 (l.take k):Int),I k]/\g=h/\k<=l.length,fun L _=>l.length-(iAt L 1).toNat,⟨0,rfl,rfl,o⟩,?_⟩
 rintro n s g ⟨k,m,rfl,p⟩
 obtain ⟨rfl,rfl⟩:=m
 refine B4 (fun i=>?_) (fun i=>?_)
 ·have a:k<l.length:=o
  have d:=hd l[k] (cM a)
  have b:=Dl (l:=l.take (k+1)) (fun c j=>hd c (cW j))
  rw [aO,aW o] at b
  have r:=A81 (k:=k+1) o
  have q:J9 (l.take (k+1))=10*J9 (l.take k)+(l[k].toNat-48):=by rw [bU a,Ew]
  unfold G4 at d
  refine ⟨l[k],⟨o,by rw [aC,Ue,bJ a]⟩,?_⟩
  have e:B7 (B7 (10*((J9 (l.take k):Nat):Int))+B7 (wu8 (((l[k].toNat:Nat):Int)-48)))=((J9 (l.take (k+1)):Nat):Int):=by
   rw [Sy o o,B5 (n:=((l[k].toNat:Nat):Int)-48) o o,B5 (n:=10*((J9 (l.take k):Nat):Int)) o o,B5 o o]
   omega
  rw [e,B5 (n:=(k:Int)+1) o o]
  exact ⟨⟨k+1,rfl,rfl,o⟩,by simp only [iAt,aE,aF];omega⟩
 grind
def Nz{a b:Nat}(hK:K (I (aV a b:Int)) h):aG prog 130 #[I (a:Int),I (b:Int)] h K:=by
 refine (fnk func130 [(1,[0,1],[],[I 0,I 0])]) ?_
 refine ⟨fun L c=>∃ x y:Nat,L=[I x,I y]/\c=h/\aV x y=aV a b,fun L _=>(iAt L 1).toNat,⟨a,b,rfl,rfl,rfl⟩,?_⟩
 rintro j i c ⟨x,y,m,rfl,l⟩
 obtain ⟨rfl,rfl⟩:j=(x:Int)/\i=(y:Int):=gz0
 refine H9 (fun d=>?_) (fun d=>?_)
 ·have k:y≠0:=o
  refine B4 (fun e=>absurd e d) (fun _=>?_)
  have g:=Nat.mod_lt x (Nat.pos_of_ne_zero k)
  refine ⟨⟨y,x%y,rfl,rfl,?_⟩,by assumption⟩
  rw [<- l,dF x y,Nat.gcd_rec y x,dF]
 simp_all
def U2(hK1:∀ q,l=C7 q->q.num.natAbs<1000000000->q.den<1000000000->K (.tuple #[.agg #[I q.num,I (q.den:Int)],.bool true]) h)(hK0:K (.tuple #[.agg #[I 0,I 0],.bool false]) h):aG prog 114 #[.string (bs l)] h K:=by
 refine (fnk func114 (cs:=[(5,[29],[],[.bool false]),(11,[],[(2,2),(6,2)],[I 0,I 0,I 0,I 0]),(13,[],[(6,2)],[I 0,I 0])]) (own:=[2,4,6])) ?_
 rw [I9]
 refine B4 (fun _=>hK0) (fun N=>?_)
 refine Fn o ?_ ?_
 ·intro neg a b f
  refine ⟨_,_,_,_,rfl,?_⟩
  simp only [I9]
  refine ⟨fun L i=>L=[.bool (decide (a.length>9\/b.length>9))]/\i=h,Br.of (fun e=>by cases e) (fun _=>B4 (fun n=>⟨?_,rfl⟩) (fun n=>⟨?_,rfl⟩)),?_⟩
  ·grind
  ·by_cases z:b.length>9
   ·grind
   grind
  rintro g i ⟨B,rfl⟩
  obtain rfl:g=decide (a.length>9\/b.length>9):=gz0
  refine B4 (fun _=>hK0) (fun n=>?_)
  have r:(Hf neg a).natAbs=J9 a:=by unfold Hf;omega
  have C:=Dl f.da
  have u:=Dl f.db
  have F:∀ k,k<=9->10^k<=1000000000:=fun k x=>bO (aJ dc x) dc
  have E:=F a.length o
  refine Ae f.da o ⟨_,rfl,?_⟩
  refine ⟨fun L d=>L=[I 0,I 0,I (J9 a:Int),I (Du b:Int)]/\d=i/\aV (J9 a) (Du b)=1,?_,?_⟩
  ·rw [P5]
   refine Br.not (B4 (fun s=>?_) (fun s=>?_))
   ·subst s;exact ⟨rfl,rfl,by unfold Du;simp⟩
   ·refine Ae f.db o ⟨_,rfl,Nz ⟨_,rfl,H9 (fun _=>hK0) (fun M=>?_)⟩⟩
    have G:Du b=J9 b:=by unfold Du;grind
    grind
  ·rintro D A H Q j ⟨m,rfl,w⟩
   obtain ⟨_,_,rfl,rfl⟩:=m
   obtain ⟨q,y⟩:=f.isNum.2 w
   have c:=f.of_txt y
   have p:Du b<1000000000:=by unfold Du;grind
   refine ⟨fun L d=>L=[I q.num,I (q.den:Int)]/\d=j,Br.of (fun e=>?_) (fun e=>?_),?_⟩
   ·rw [c.1,c.2,e,B5 o o]
    exact ⟨by unfold Hf;simp,rfl⟩
   ·rw [c.1,c.2,e]
    exact ⟨by rfl,rfl⟩
   grind
 ·intro O neg a b
  refine ⟨_,_,_,_,rfl,?_⟩
  refine ⟨fun L i=>L=[.bool true]/\i=h,Br.not ⟨rfl,rfl⟩,?_⟩
  rintro g i ⟨B,rfl⟩
  obtain rfl:g=true:=gz0
  exact Br.of (fun _=>hK0) (fun e=>by cases e)
def T4{l':List UInt8}(hK1:∀ p q,l=C7 p->l'=C7 q->p.num.natAbs<1000000000->p.den<1000000000->q.num.natAbs<1000000000->q.den<1000000000->K (.tuple #[.agg #[I p.num,I (p.den:Int)],.agg #[I q.num,I (q.den:Int)],.bool true]) h)(hK0:K (.tuple #[.agg #[I 0,I 0],.agg #[I 0,I 0],.bool false]) h):aG prog 65 #[.string (bs l),.string (bs l')] h K:=by
 refine (fnk func65 (own:=[4,5,7,9])) ?_
 refine U2 ?_ ⟨_,_,_,rfl,Br.not hK0⟩
 intro p a e c
 refine ⟨_,_,_,rfl,Br.not ?_⟩
 refine U2 ?_ ⟨_,_,_,rfl,Br.not hK0⟩
 intro q b g d
 exact ⟨_,_,_,rfl,Br.not (hK1 p q a b e c g d)⟩
def Q5{num den:Int}(gp:Gp h)(hd:den≠0)(h1:num.natAbs<4000000000000000000)(h2:den.natAbs<4000000000000000000)(hK:K (.string (bs (C7 (cO num den)))) h):aG prog 66 #[I num,I den] h K:=by
 refine FCall.pure ((fnk func66 (cs:=[(3,[0,1],[],[I 0,I 0]),(6,[0,1],[],[I 0,I 0])]) (wr:=[132])) ?_)
 refine ⟨fun L w=>w=h/\∃ n d:Int,L=[I n,I d]/\0<d/\cO n d=cO num den/\n.natAbs=num.natAbs/\d.natAbs=den.natAbs,B4 (fun l=>⟨rfl,-num,-den,?_,o,Rat.neg_divInt_neg num den,o,o⟩) (fun l=>⟨rfl,num,den,rfl,o,rfl,rfl,rfl⟩),?_⟩
 ·rw [B5 o o,B5 o o,Int.zero_sub,Int.zero_sub]
 rintro g p w ⟨rfl,n,d,O,r,N,hn,W⟩
 obtain ⟨rfl,rfl⟩:=O
 rw [<- N] at hK
 have i:=Pr (x:=g) r
 have R:=Ps (a:=g) (b:=p) o
 generalize cO g p=q at *
 refine ⟨fun L u=>u=w/\L=[I q.num,I (q.den:Int)],H9 (fun l=>?_) (fun l=>?_),?_⟩
 ·have B:(if (B7 (0-g))>g then B7 (0-g) else g)=((g.natAbs:Nat):Int):=by
   rw [B5 o o];omega
  obtain ⟨k,rfl⟩:∃ k:Nat,p=k:=⟨p.toNat,o⟩
  rw [B]
  refine Nz ⟨_,rfl,?_⟩
  have X:0<aV g.natAbs k:=Nat.gcd_pos_of_pos_right _ o
  refine B4 (fun e=>o) (fun _=>B4 (fun e=>o) (fun _=>⟨rfl,?_⟩))
  have C:dG g ((aV g.natAbs k:Nat):Int)=q.num:=i.1.symm
  have e4:dG (k:Int) ((aV g.natAbs k:Nat):Int)=(q.den:Int):=i.2.symm
  rw [C,e4,B5 o o,B5 o o]
 ·subst l
  have H:aR g 1=1:=by simp
  rw [H] at i
  grind
 rintro n2 d2 m ⟨rfl,z⟩
 obtain ⟨rfl,rfl⟩:=z
 refine E4 (fun l=>?_) (fun l=>?_)
 ·rw [Td o] at hK
  exact Cy gp o o ⟨_,rfl,B3 _,hK⟩
 ·rw [Nw o] at hK
  refine Fb A1z ?_
  intro b F
  refine ⟨_,rfl,⟨o,o⟩,?_⟩
  have p0:bI (m.put b (.cells (aD 48 (aN .u8 0)).toArray 170)) m 170 1 (some ⟨b,0,none⟩) 0 48 (yv []):=⟨by simp [yv],o,.inr ⟨b,aD 48 (aN .u8 0),rfl,F,rfl,by simp,by simp [yv]⟩⟩
  refine Db gp p0 o o o ?_
  intro A1 ab c1 B g1 T y
  refine ⟨_,_,_,rfl,?_⟩
  have aa:(Ds q.num).length<=20:=by
   unfold Ds
   have:(J1 q.num.natAbs).length<=19:=(Ez dc).2 (aU (show q.num.natAbs<10000000000000000000 from o) dc)
   grind
  have Q:=y.len
  refine Z2 (ch:=47) rfl y.priv o ?_
  intro A2 E c2 e2 g2 S A
  have j:=y.trans A
  have s:=j.len
  rw [aM,cT] at s
  refine Db (gp.mono j.le) A.priv o o o ?_
  intro A3 M c3 C g3 V G
  refine ⟨_,_,_,rfl,?_⟩
  have c:=j.trans G
  have D:=c.len
  refine Ea Bc.und V7 O5 c.priv.slV gz0 ⟨_,rfl,?_⟩
  refine ⟨A0 c.le c.priv.le,?_⟩
  assumption
end
structure RQ (h:aL) (w:QV) (q:Rat):Prop where
 num:ZI h w.s w.A w.n w.c q.num
 den:ZI h w.s2 w.A2 w.n2 w.c2 (if q.den=1 then 0 else (q.den:Int))
def ZB.gcd{m:Nat}{x y:Int}(hy:y≠0)(h:ZB m y):ZB m (aR x y:Int):=by
 refine h.le ?_
 exact cY o (Int.natAbs_dvd_natAbs.2 (Int.gcd_dvd_right x y))
def A3b{x y a b:Int}(ha:0<a)(hb:0<b)(hs:x.sign≠y.sign):U5 (x*a) (y*b)=U5 x y:=by
 have c:(x*a).sign=x.sign:=by rw [Int.sign_mul,aP ha,Int.mul_one]
 have d:(y*b).sign=y.sign:=by rw [Int.sign_mul,aP hb,Int.mul_one]
 have key:∀ u v:Int,u.sign≠v.sign->(u<v↔u.sign<v.sign)/\(v<u↔v.sign<u.sign):=by
  grind
 have e:=key x y hs
 have g:=key (x*a) (y*b) o
 unfold U5
 omega
section
variable {h h':aL} {K:VP} {A B:Option aK} {n c n' c':Nat} {s s':Bool} {x y z:Int} {m:Nat} {p q:Rat} {a b w:QV} {l:List UInt8}
def RQ.mono(hl:h.le h')(i:RQ h w q):RQ h' w q:=⟨i.num.mono hl,i.den.mono hl⟩
def RQ.whole(i:ZI h s A n c z):RQ h ⟨s,A,n,c,false,none,0,0⟩ (z:Rat):=⟨by assumption,by simpa using ZI.zero⟩
def RQ.zero:RQ h ⟨false,none,0,0,false,none,0,0⟩ 0:=⟨ZI.zero,ZI.zero⟩
def H1(i:RQ h w q)(hK:K (.bool (decide (q.den=1))) h):aG prog 121 #[.agg #[.bool w.s2,.slice w.A2 w.n2 w.c2]] h K:=by
 refine H2 i.den ?_
 have:=q.den_nz
 simp_all
def J6(i:ZI h s A n c z)(j:ZI h s' B n' c' y)(h1:q.num=z)(h2:(q.den:Int)=y)(hK:∀ w,RQ h w q->K w.v h):aG prog 123 #[.agg #[.bool s,.slice A n c],.agg #[.bool s',.slice B n' c']] h K:=by
 subst h1 h2
 refine (fnk func123 (own:=[2,3,4])) ?_
 refine J2 j ⟨_,rfl,B4 (fun e=>?_) (fun e=>?_)⟩
 ·exact hK ⟨s,A,n,c,false,none,0,0⟩ ⟨i,by rw [iP o];exact ZI.zero⟩
 ·exact hK ⟨s,A,n,c,s',B,n',c'⟩ ⟨i,gz0⟩
def Q1(i:RQ h w q)(hK:∀ s A n c h',h.le h'->ZI h' s A n c (q.den:Int)->K (.agg #[.bool s,.slice A n c]) h'):aG prog 124 #[w.v] h K:=by
 refine (fnk func124 (own:=[1,2])) ?_
 refine H1 i ⟨_,rfl,B4 (fun e=>?_) (fun e=>?_)⟩
 ·refine Hv dc dc ?_
  grind
 ·have:=i.den
  rw [iN e] at this
  exact hK _ _ _ _ _ (B3 _) this
def Jh(gl:Gtz h)(i:ZI h s A n c x)(j:ZI h s' B n' c' y)(hx:ZB m x)(hy:ZB m y)(hm:m<=6400000000)(hy0:0<y)(hK:∀ s1 A1 n1 c1 s2 A2 n2 c2 h',h.le h'->ZI h' s1 A1 n1 c1 (x.tdiv (aR x y))->ZI h' s2 A2 n2 c2 (y.tdiv (aR x y))->K (.tuple #[.agg #[.bool s1,.slice A1 n1 c1],.agg #[.bool s2,.slice A2 n2 c2]]) h'):aG prog 147 #[.agg #[.bool s,.slice A n c],.agg #[.bool s',.slice B n' c']] h K:=by
 refine (fnk func147 (os:=[(4,[0,1,3,4,2,5,6,7])]) (own:=[2,3,4,5,6])) ?_
 refine J2 j ⟨_,rfl,B4 (fun e=>?_) (fun e=>?_)⟩
 ·subst e
  have l:aR x 1=1:=by simp
  rw [l] at hK
  exact hK _ _ _ _ _ _ _ _ _ (B3 _) gz0 (by assumption)
 ·refine V3 gl i j hx hy o ?_
  intro A1 n1 c1 z d k
  have l:=Int.gcd_pos_of_ne_zero_right x (show y≠0 from o)
  have a:ZB m (aR x y:Int):=ZB.gcd o hy
  refine ⟨_,_,_,_,rfl,N3 (i.mono d) k hx a hm o ?_⟩
  intro s2 A2 n2 c2 u b q
  refine ⟨_,_,_,_,rfl,b,N3 (j.mono (A0 d b)) (k.mono b) hy a hm o ?_⟩
  intro r A3 D w C g p
  exact ⟨_,_,_,_,rfl,g,hK _ _ _ _ _ _ _ _ _ (A0 d (A0 b g)) (q.mono g) p⟩
def Uo(i:RQ h w q)(hK:∀ w',RQ h w' (-q)->K w'.v h):aG prog 140 #[w.v] h K:=by
 refine A4u _ _ _ _ _ _ _ _ ?_
 refine P8 i.num ?_
 intro a b
 exact ⟨_,_,_,_,rfl,B3 _,hK ⟨a,w.A,w.n,w.c,w.s2,w.A2,w.n2,w.c2⟩ ⟨by assumption,by simpa using i.den⟩⟩
def Z1(i:RQ h w q)(hK:K (I q.num.sign) h):aG prog 135 #[w.v] h K:=by
 refine A22 _ _ _ _ _ _ _ _ ?_
 exact U8 i.num ⟨_,rfl,hK⟩
def T3(i:RQ h w q)(hK:K (.bool (decide (q=0))) h):aG prog 61 #[w.v] h K:=by
 refine (fnk func61 (own:=[1])) ?_
 refine H2 i.num ⟨_,rfl,?_⟩
 simp_all
def Us(gl:Gtz h)(i:RQ h a p)(j:RQ h b q)(hp:Sz m p)(hq:Sz m q)(hm:2*m+1<=6400000000)(hK:∀ w h',h.le h'->RQ h' w (p+q)->K w.v h'):aG prog 72 #[a.v,b.v] h K:=by
 have aq:=q.den_nz
 have M:∀ {z:Int},ZB m z->ZB (2*m+1) z:=fun C=>C.mono o
 refine A4x _ _ _ _ _ _ _ _ _ _ _ _ _ _ _ _ ?_
 refine ⟨fun L hp=>L=[.bool (decide (p.den=1/\q.den=1))]/\hp=h,H1 i ⟨_,rfl,B4 (fun e=>?_) (fun e=>?_)⟩,?_⟩
 ·exact H1 j ⟨_,rfl,by simp [e],rfl⟩
 ·grind
 rintro af ai ⟨hL,rfl⟩
 obtain rfl:af=decide (p.den=1/\q.den=1):=gz0
 refine B4 (fun e=>?_) (fun e=>?_)
 ·refine Ay i.num j.num hp.num hq.num o ?_
  intro s1 A1 n1 c1 h1 l i1
  refine ⟨_,_,_,_,rfl,hK ⟨s1,A1,n1,c1,false,none,0,0⟩ _ l ?_⟩
  have:=RQ.whole i1
  rw [Rat.intCast_add,<- Kw e.1,<- Kw e.2] at this
  exact this
 ·refine ⟨fun L hp=>L=[.bool (decide (p.den=1))]/\hp=ai,H1 i ⟨_,rfl,rfl,rfl⟩,?_⟩
  rintro ad au ⟨hL,rfl⟩
  obtain rfl:ad=decide (p.den=1):=gz0
  refine B4 (fun Q=>?_) (fun Q=>?_)
  ·have al:q.den≠1:=fun X=>e ⟨Q,X⟩
   have jd:=j.den
   rw [iN al] at jd
   refine G1 i.num jd hp.num hq.den o ?_
   intro s1 A1 n1 c1 h1 l i1
   refine ⟨_,_,_,_,rfl,l,Ay (m:=2*m+1) i1 (j.num.mono l) ((hp.num.mul hq.den).mono o) (M hq.num) o ?_⟩
   intro s2 A2 n2 c2 h2 n i2
   have c:=Fc q p.num
   rw [<- Kw Q,Rat.add_comm] at c
   refine ⟨_,_,_,_,rfl,n,hK ⟨s2,A2,n2,c2,b.s2,b.A2,b.n2,b.c2⟩ _ (A0 l n) ⟨gz0,?_⟩⟩
   rw [c.2]
   exact j.den.mono (A0 l n)
  ·refine H1 j ⟨_,rfl,B4 (fun X=>?_) (fun X=>?_)⟩
   ·have k:=i.den
    rw [iN Q] at k
    refine G1 j.num k hq.num hp.den o ?_
    intro s1 A1 n1 c1 h1 l i1
    refine ⟨_,_,_,_,rfl,l,Ay (m:=2*m+1) i1 (i.num.mono l) ((hq.num.mul hp.den).mono o) (M hp.num) o ?_⟩
    intro s2 A2 n2 c2 h2 n i2
    have c:=Fc p q.num
    rw [<- Kw X] at c
    refine ⟨_,_,_,_,rfl,n,hK ⟨s2,A2,n2,c2,a.s2,a.A2,a.n2,a.c2⟩ _ (A0 l n) ⟨gz0,?_⟩⟩
    rw [c.2]
    exact i.den.mono (A0 l n)
   ·have k:=i.den
    have u:=j.den
    rw [iN Q] at k
    rw [iN X] at u
    refine V3 gl k u hp.den hq.den o ?_
    intro A1 n1 c1 h1 l G
    rw [aS] at G
    obtain ⟨g,hg⟩:∃ g,g=p.den.gcd q.den:=⟨_,rfl⟩
    rw [<- hg] at G
    have ae:0<g:=gz0
    have ac:g∣q.den:=by rw [hg];exact cK ..
    have y:ZB m (g:Int):=hq.den.le (by simpa using cY o ac)
    refine ⟨_,_,_,_,rfl,N3 (u.mono l) G hq.den y o o ?_⟩
    intro s2 A2 n2 c2 h2 n il
    rw [<- bG] at il
    refine ⟨_,_,_,_,rfl,n,N3 (k.mono (A0 l n)) (G.mono n) hp.den y o o ?_⟩
    intro s3 A3 n3 c3 h3 O ir
    rw [<- bG] at ir
    have F:ZB m ((q.den/g:Nat):Int):=hq.den.le (by exact aT _ _)
    have x:ZB m ((p.den/g:Nat):Int):=hp.den.le (by exact aT _ _)
    have E:=A0 l (A0 n O)
    refine ⟨_,_,_,_,rfl,O,G1 (i.num.mono E) (il.mono O) hp.num F o ?_⟩
    intro s4 A4 n4 c4 h4 D i4
    refine ⟨_,_,_,_,rfl,D,G1 (j.num.mono (A0 E D)) (ir.mono D) hq.num x o ?_⟩
    intro s5 A5 n5 c5 h5 H i5
    refine ⟨_,_,_,_,rfl,H,Ay (m:=2*m) (i4.mono H) i5 ((hp.num.mul F).mono o) ((hq.num.mul x).mono o) o ?_⟩
    intro s6 A6 n6 c6 h6 W N
    obtain ⟨z,C⟩:∃ z,z=p.num*((q.den/g:Nat):Int)+q.num*((p.den/g:Nat):Int):=⟨_,rfl⟩
    rw [<- C] at N
    have R:ZB (2*m+1) z:=by
     rw [C]
     exact ((hp.num.mul F).mono (show m+m<=2*m from o)).add ((hq.num.mul x).mono (show m+m<=2*m from o))
    have d:=A0 E (A0 D (A0 H W))
    refine ⟨_,_,_,_,rfl,W,H2 N ⟨_,rfl,B4 (fun S=>?_) (fun S=>?_)⟩⟩
    ·have:p+q=0:=by
      rw [<- dL]
      by_cases ab:p.den.gcd q.den=1
      ·have:=(Lg p q ab).1
       grind
      ·have:=(Lf p q ab hg C rfl).1
       rw [this,S];simp
     rw [this] at hK
     exact hK ⟨false,none,0,0,false,none,0,0⟩ _ d RQ.zero
    ·refine J2 (G.mono (A0 n (A0 O (A0 D (A0 H W))))) ⟨_,rfl,B4 (fun ag=>?_) (fun ag=>?_)⟩
     ·have s:g=1:=o
      have c:=Lg p q o
      rw [s,Nat.div_one,Nat.div_one] at C
      refine G1 (k.mono d) (u.mono d) hp.den hq.den o ?_
      intro s7 A7 n7 c7 h7 A T
      refine ⟨_,_,_,_,rfl,A,J6 (q:=p+q) (N.mono A) T o o ?_⟩
      intro w iw
      exact ⟨_,_,_,_,_,_,_,_,rfl,B3 _,hK _ _ (A0 d A) iw⟩
     ·have s:p.den.gcd q.den≠1:=o
      obtain ⟨r,hr⟩:∃ r,r=z.natAbs.gcd g:=⟨_,rfl⟩
      have c:=Lf p q s hg C hr
      have ar:0<r:=gz0
      have av:r<=g:=by rw [hr];exact cY ae (cK ..)
      have ak:=G.mono (A0 n (A0 O (A0 D (A0 H W))))
      refine V3 (gl.mono d) N ak R (M y) o ?_
      intro A7 n7 c7 h7 A T
      have e7:aR z (g:Int)=r:=hr.symm
      rw [e7] at T
      have aa:ZB m (r:Int):=y.le o
      refine ⟨_,_,_,_,rfl,N3 (N.mono A) T R (M aa) hm o ?_⟩
      intro s8 A8 n8 c8 h8 V i8
      refine ⟨_,_,_,_,rfl,V,N3 (u.mono (A0 d (A0 A V))) (T.mono V) hq.den aa o o ?_⟩
      intro s9 A9 n9 c9 h9 l9 i9
      rw [<- bG] at i9
      have aj:ZB m ((q.den/r:Nat):Int):=hq.den.le (by exact aT _ _)
      refine ⟨_,_,_,_,rfl,l9,G1 (ir.mono (A0 D (A0 H (A0 W (A0 A (A0 V l9)))))) i9 x aj o ?_⟩
      intro an A10 ap am ao B ah
      refine ⟨_,_,_,_,rfl,B,J6 (q:=p+q) (i8.mono (A0 l9 B)) ah c.1 o ?_⟩
      intro w iw
      exact ⟨_,_,_,_,_,_,_,_,rfl,B3 _,hK _ _ (A0 d (A0 A (A0 V (A0 l9 B)))) iw⟩
end
structure Gl (h:aL):Prop where
 tz:Gtz h
 p10:Gp h
def Gl.mono{h h':aL}(g:Gl h)(l:h.le h'):Gl h':=⟨g.tz.mono l,g.p10.mono l⟩
section
variable {h h':aL} {K:VP} {A B:Option aK} {n c n' c':Nat} {s s':Bool} {x y z:Int} {m:Nat} {p q:Rat} {a b w:QV} {l:List UInt8}
def Kh(gl:Gtz h)(i:RQ h a p)(j:RQ h b q)(hp:Sz m p)(hq:Sz m q)(hm:m<=6400000000)(hK:∀ w h',h.le h'->RQ h' w (p*q)->K w.v h'):aG prog 79 #[a.v,b.v] h K:=by
 have aa:=p.den_nz
 have V:=q.den_nz
 refine A4v _ _ _ _ _ _ _ _ _ _ _ _ _ _ _ _ ?_
 refine ⟨fun L hp=>L=[.bool (decide (p.num=0\/q.num=0))]/\hp=h,H2 i.num ⟨_,rfl,B4 (fun e=>?_) (fun e=>?_)⟩,?_⟩
 ·grind
 ·exact H2 j.num ⟨_,rfl,by simp [e],rfl⟩
 rintro r x ⟨R,rfl⟩
 obtain rfl:r=decide (p.num=0\/q.num=0):=gz0
 refine B4 (fun e=>?_) (fun e=>?_)
 ·have:p*q=0:=by
   rw [dL,dL] at e
   grind
  rw [this] at hK
  exact hK ⟨false,none,0,0,false,none,0,0⟩ _ (B3 _) RQ.zero
 ·refine ⟨fun L hp=>L=[.bool (decide (p.den=1/\q.den=1))]/\hp=x,H1 i ⟨_,rfl,B4 (fun e=>?_) (fun e=>?_)⟩,?_⟩
  ·exact H1 j ⟨_,rfl,by simp [e],rfl⟩
  ·grind
  rintro n N ⟨R,rfl⟩
  obtain rfl:n=decide (p.den=1/\q.den=1):=gz0
  refine B4 (fun e=>?_) (fun e=>?_)
  ·refine G1 i.num j.num hp.num hq.num o ?_
   intro D A1 E c1 Q g X
   refine ⟨_,_,_,_,rfl,hK ⟨D,A1,E,c1,false,none,0,0⟩ _ g ?_⟩
   have:=RQ.whole X
   rw [Rat.intCast_mul,<- Kw e.1,<- Kw e.2] at this
   exact this
  ·have s:=Xz p q
   refine Q1 j ?_
   intro D A1 E c1 Q g T
   refine ⟨_,_,_,_,rfl,g,Jh (gl.mono g) (i.num.mono g) T hp.num hq.den hm o ?_⟩
   intro s2 A2 n2 c2 s3 A3 n3 c3 h2 F B y
   have c:=A0 g F
   refine ⟨_,_,_,_,_,_,_,_,rfl,F,Q1 (i.mono c) ?_⟩
   intro s4 A4 n4 c4 h4 d A
   refine ⟨_,_,_,_,rfl,d,Jh (gl.mono (A0 c d)) (j.num.mono (A0 c d)) A hq.num hp.den hm o ?_⟩
   intro s5 A5 n5 c5 s6 A6 n6 c6 h5 k C z
   have e1:aR p.num (q.den:Int)=aV p.num.natAbs q.den:=rfl
   have S:aR q.num (p.den:Int)=aV q.num.natAbs p.den:=rfl
   rw [e1] at B y
   rw [S] at C z
   rw [<- bG] at y z
   refine ⟨_,_,_,_,_,_,_,_,rfl,k,G1 (B.mono (A0 d k)) C hp.num.tdiv hq.num.tdiv o ?_⟩
   intro s7 A7 n7 c7 h7 l O
   have H:ZB m ((p.den/aV q.num.natAbs p.den:Nat):Int):=hp.den.le (by exact aT _ _)
   have W:ZB m ((q.den/aV p.num.natAbs q.den:Nat):Int):=hq.den.le (by exact aT _ _)
   refine ⟨_,_,_,_,rfl,l,G1 (z.mono l) (y.mono (A0 d (A0 k l))) H W o ?_⟩
   intro s8 A8 n8 c8 h8 u M
   refine ⟨_,_,_,_,rfl,u,J6 (q:=p*q) (O.mono u) M s.1 o ?_⟩
   intro w G
   exact ⟨_,_,_,_,_,_,_,_,rfl,B3 _,hK _ _ (A0 c (A0 d (A0 k (A0 l u)))) G⟩
def Eg(i:RQ h w q)(hK:∀ w h',h.le h'->RQ h' w q⁻¹->K w.v h'):aG prog 62 #[w.v] h K:=by
 refine (fnk func62 (os:=[(5,[0,3,4,1,2,5,6,7]),(6,[0,2,3,1,4,5])]) (own:=[1,2])) ?_
 refine U8 i.num ⟨_,rfl,E4 (fun e=>?_) (fun e=>?_)⟩
 ·have:q⁻¹=0:=by simp_all
  rw [this] at hK
  exact hK ⟨false,none,0,0,false,none,0,0⟩ _ (B3 _) RQ.zero
 ·have j:q.num≠0:=fun s=>e gz0
  refine E4 (fun g=>?_) (fun g=>?_)
  ·have k:q.num<0:=Int.sign_neg_iff.1 o
   refine Q1 i ?_
   intro r A1 m c1 p a c
   refine ⟨_,_,_,_,rfl,a,P8 c ?_⟩
   intro x n
   refine ⟨_,_,_,_,rfl,B3 _,P8 (i.num.mono a) ?_⟩
   intro u l
   refine ⟨_,_,_,_,rfl,B3 _,J6 (q:=q⁻¹) n l ?_ ?_ ?_⟩
   ·rw [Rat.num_inv,g];omega
   ·rw [Rat.den_inv,iN j];omega
   ·intro w d
    exact ⟨_,_,_,_,_,_,_,_,rfl,B3 _,hK _ _ a d⟩
  ·have b:0<q.num:=by
    grind
   refine Q1 i ?_
   intro r A1 m c1 p a c
   refine ⟨_,_,_,_,rfl,a,J6 (q:=q⁻¹) c (i.num.mono a) ?_ ?_ ?_⟩
   ·rw [Rat.num_inv,aP b,Int.one_mul]
   ·rw [Rat.den_inv,iN j];omega
   ·intro w d
    exact ⟨_,_,_,_,_,_,_,_,rfl,B3 _,hK _ _ a d⟩
def Uq(gl:Gtz h)(i:RQ h a p)(j:RQ h b q)(hp:Sz m p)(hq:Sz m q)(hm1:1<=m)(hm:m<=6400000000)(hK:∀ w h',h.le h'->RQ h' w (p/q)->K w.v h'):aG prog 67 #[a.v,b.v] h K:=by
 refine A4w _ _ _ _ _ _ _ _ _ _ _ _ _ _ _ _ ?_
 refine Eg j ?_
 intro k n c e
 refine ⟨_,_,_,_,_,_,_,_,rfl,c,Kh (gl.mono c) (i.mono c) e hp (hq.inv hm1) hm ?_⟩
 intro r l d g
 exact ⟨_,_,_,_,_,_,_,_,rfl,d,hK _ _ (A0 c d) g⟩
def Gs(i:RQ h w q)(hq:Sz m q)(hm:m+1<=6400000000)(hK:∀ s A n c h',h.le h'->ZI h' s A n c q.floor->K (.agg #[.bool s,.slice A n c]) h'):aG prog 68 #[w.v] h K:=by
 have d:=q.den_nz
 refine (fnk func68 (own:=[1,2])) ?_
 rw [Rat.floor_def] at hK
 refine H1 i ⟨_,rfl,B4 (fun e=>?_) (fun e=>?_)⟩
 ·rw [e] at hK
  exact hK _ _ _ _ _ (B3 _) (by simpa using i.num)
 ·have a:=i.den
  rw [iN e] at a
  refine Jq i.num a hq.num hq.den hm o ?_
  intro l A1 j c1 k g b
  exact ⟨_,_,_,_,rfl,hK _ _ _ _ _ g b⟩
def Ur(i:RQ h w q)(hq:Sz m q)(hm:m+1<=6400000000)(hK:∀ s A n c h',h.le h'->ZI h' s A n c q.ceil->K (.agg #[.bool s,.slice A n c]) h'):aG prog 119 #[w.v] h K:=by
 refine (fnk func119 (own:=[1,2])) ?_
 refine Uo i ?_
 intro g b
 refine ⟨_,_,_,_,_,_,_,_,rfl,Gs b hq.neg hm ?_⟩
 intro k A2 p c2 l d e
 refine ⟨_,_,_,_,rfl,P8 e ?_⟩
 intro j a
 rw [<- dQ] at a
 exact ⟨_,_,_,_,rfl,hK _ _ _ _ _ d a⟩
def A1q(p q:Rat):Int:=U5 (p.num*q.den) (q.num*p.den)
def Nk:A1q p q<0↔p<q:=by rw [cZ];unfold A1q U5;omega
def Do:0<A1q p q↔q<p:=by rw [cZ];unfold A1q U5;omega
def Gd:A1q p q<=0↔p<=q:=by rw [<- Rat.not_lt,<- Do];omega
def Mc(i:RQ h a p)(j:RQ h b q)(hp:Sz m p)(hq:Sz m q)(hm:2*m<=1152000000000000)(hK:K (I (A1q p q)) h):aG prog 71 #[a.v,b.v] h K:=by
 have A:=p.den_nz
 have x:=q.den_nz
 refine FCall.pure ((fnk func71 (cs:=[(2,[19],[],[.bool false])]) (os:=[(1,[0,1,2,3,4,5,6,7,8,9,11,10,12,13,14]),(3,[0,1,2,5,6,7,3,4,8,9,10,11])]) (own:=[2,3])) ?_)
 refine ⟨fun L hp=>L=[.bool (decide ((p.den=1/\q.den=1)\/p.num.sign≠q.num.sign))]/\hp=h,H1 i ⟨_,rfl,B3 _,B4 (fun e=>H1 j ⟨_,rfl,B3 _,B4 (fun k=>?_) (fun k=>?_)⟩) (fun e=>?_)⟩,?_⟩
 ·exact ⟨by simp [e,k],rfl⟩
 ·refine Z1 i ⟨_,rfl,B3 _,Z1 j ⟨_,rfl,B3 _,?_,rfl⟩⟩
  simp [k,bne]
  rw [cR];simp
 ·refine Z1 i ⟨_,rfl,B3 _,Z1 j ⟨_,rfl,B3 _,?_,rfl⟩⟩
  simp [e,bne]
  rw [cR];simp
 rintro n u ⟨w,rfl⟩
 obtain rfl:n=decide ((p.den=1/\q.den=1)\/p.num.sign≠q.num.sign):=by simpa using w
 refine B4 (fun e=>?_) (fun e=>?_)
 ·refine Dv i.num j.num hp.num hq.num o ⟨_,rfl,B3 _,?_⟩
  have:U5 p.num q.num=A1q p q:=by
   unfold A1q
   rcases e with e|e
   ·rw [e.1,e.2];simp
   ·exact (A3b o o e).symm
  rw [this];exact hK
 ·refine Q1 j ?_
  intro O A1 S c1 M c r
  refine ⟨_,_,_,_,rfl,c,G1 (i.num.mono c) r hp.num hq.den o ?_⟩
  intro F A2 G c2 C g s
  refine ⟨_,_,_,_,rfl,g,Q1 (i.mono (A0 c g)) ?_⟩
  intro R A3 D N Q d y
  refine ⟨_,_,_,_,rfl,d,G1 (j.num.mono (A0 c (A0 g d))) y hq.num hp.den o ?_⟩
  intro B A4 E T H l z
  refine ⟨_,_,_,_,rfl,l,Dv (m:=m+m) (s.mono (A0 d l)) z (hp.num.mul hq.den) (hq.num.mul hp.den) o ⟨_,rfl,B3 _,?_⟩⟩
  exact ⟨A0 c (A0 g (A0 d l)),hK⟩
def Gb{t:List UInt8}{k:Nat}(h:∀ c∈t,G4 c)(hk:t.length<=k):ZB (4*k) (J9 t:Int):=by
 exact aU (Si h) (aJ dc o)
def Form.lens{neg:Bool}{a b:List UInt8}(f:Form l neg a b):a.length<=l.length/\b.length<=l.length:=by
 have:=congrArg List.length f.eq
 grind
def Cg(gl:Gtz h)(hl:l.length<=140737488351232)(hK1:∀ q,l=C7 q->∀ w h',h.le h'->RQ h' w q->K (.tuple #[w.v,.bool true]) h')(hK0:¬ IsNum l->∀ (w:QV) h',h.le h'->RQ h' w 0->K (.tuple #[w.v,.bool false]) h'):aG prog 120 #[.string (bs l)] h K:=by
 refine (fnk func120 (cs:=[(7,[],[(6,4)],[.bool false,.slice none 0 0,.bool false,.slice none 0 0])]) (own:=[2,4,6])) ?_
 refine Fn o ?_ ?_
 ·intro neg a b f
  refine ⟨_,_,_,_,rfl,Br.not ?_⟩
  have H:=f.lens
  refine Ch f.da o ?_
  intro A1 R c1 G s i1
  refine ⟨_,_,_,_,rfl,?_⟩
  refine ⟨fun L hp=>∃ i:Bool,L=[.bool i,.slice A1 R c1,.bool false,.slice none 0 0]/\hp=G/\ZI G i A1 R c1 (Hf neg a),Br.of (fun e=>?_) (fun e=>?_),?_⟩
  ·refine P8 i1 ?_
   intro i u
   exact ⟨_,_,_,_,rfl,i,rfl,rfl,by unfold Hf;grind⟩
  ·exact ⟨false,rfl,rfl,by unfold Hf;grind⟩
  rintro D p n d x2 W aa ab V ⟨i,M,rfl,u⟩
  simp only [cD,cJ,Value.bool.injEq,and_true] at M
  obtain ⟨rfl,⟨rfl,rfl,rfl⟩,rfl,rfl,rfl,rfl⟩:=M
  have j:(Hf neg a).natAbs=J9 a:=by unfold Hf;omega
  rw [P5]
  refine B4 (fun x=>?_) (fun x=>?_)
  ·subst x
   obtain ⟨q,g⟩:=f.isNum.2 (by unfold Du;simp)
   obtain ⟨F,A⟩:=f.of_txt g
   refine hK1 q g ⟨D,p,n,d,false,none,0,0⟩ _ s ⟨gz0,?_⟩
   rw [A,show Du []=1 from rfl,iP rfl];exact ZI.zero
  ·refine Ch f.db o ?_
   intro A4 S c4 h4 m N
   have C:ZB (4*l.length) (Hf neg a):=(Gb f.da (k:=l.length) o).le o
   refine ⟨_,_,_,_,rfl,V3 (gl.mono (A0 s m)) (u.mono m) N C (Gb f.db (k:=l.length) o) o ?_⟩
   intro A5 n5 c5 h5 r T
   refine ⟨_,_,_,_,rfl,J2 T ⟨_,rfl,?_⟩⟩
   have c:Du b=J9 b:=by unfold Du;grind
   have z:aR (Hf neg a) (J9 b:Int)=aV (J9 a) (Du b):=by
    rw [c];show aV (Hf neg a).natAbs (J9 b)=_;rw [j]
   rw [z]
   refine Br.not (B4 (fun Q=>?_) (fun Q=>?_))
   ·obtain ⟨q,g⟩:=f.isNum.2 o
    obtain ⟨F,A⟩:=f.of_txt g
    have y:Du b≠1:=by
     intro X
     have O:=Fa f.db x (.inl f.hb)
     rw [<- c,X] at O
     apply f.b1
     rw [<- O];simp [J1,O2,G0,dch]
    refine hK1 q g ⟨D,p,n,d,false,A4,S,c4⟩ _ (A0 s (A0 m r)) ⟨by rw [F];exact u.mono (A0 m r),?_⟩
    rw [A,iN y,c];exact N.mono r
   ·refine hK0 ?_ ⟨false,none,0,0,false,none,0,0⟩ _ (A0 s (A0 m r)) RQ.zero
    intro B
    exact Q (by rw [f.isNum.1 B];rfl)
 ·intro hf neg a b
  refine ⟨_,_,_,_,rfl,Br.not ?_⟩
  refine hK0 ?_ ⟨false,none,0,0,false,none,0,0⟩ _ (B3 _) RQ.zero
  intro B
  obtain ⟨E,a',b',f⟩:=B.form
  grind
def H6(gl:Gtz h)(hl:l.length<=140737488351232)(hK:∀ w h',h.le h'->RQ h' w (rv l)->K w.v h'):aG prog 60 #[.string (bs l)] h K:=by
 refine (fnk func60 (own:=[2,3])) ?_
 refine Cg gl hl ?_ ?_
 ·intro q e w c b a
  exact ⟨_,_,_,_,_,_,_,_,_,rfl,hK w c b (by rw [e,C1];exact a)⟩
 ·intro d w c b a
  exact ⟨_,_,_,_,_,_,_,_,_,rfl,hK w c b (by rw [Ti d];exact a)⟩
def L9(gp:Gp h)(i:RQ h w q)(hq:Sz m q)(hm:m<=40000000)(hK:K (.string (bs (C7 q))) h):aG prog 64 #[w.v] h K:=by
 refine FCall.pure ((fnk func64 (own:=[1])) ?_)
 refine H1 i ⟨_,rfl,B4 (fun e=>?_) (fun e=>?_)⟩
 ·rw [Td e] at hK
  refine Qq i.num (fun g k=>?_) (fun g=>?_)
  ·refine ⟨_,_,rfl,Br.of (fun _=>(fnk func128) ?_) (fun e=>by cases e)⟩
   exact Cy gp g k ⟨_,rfl,_,rfl,B3 _,hK⟩
  ·refine ⟨_,_,rfl,Br.of (fun e=>by cases e) (fun _=>?_)⟩
   exact At gp i.num hq.num o ⟨_,rfl,B3 _,hK⟩
 ·rw [Nw e] at hK
  have c:=i.den
  rw [iN e] at c
  refine Aw (l:=[]) (eT:=5) gp (Priv.nil _ _ _ _) i.num hq.num o o ?_
  intro A1 F c1 D A g j
  refine ⟨_,_,_,rfl,?_⟩
  have u:(Ds q.num).length<=50000000:=by
   unfold Ds
   have:=Dn hq.num
   grind
  have s:=j.len
  refine Z2 (ch:=47) rfl j.priv o ?_
  intro A2 G c2 z y k n
  have b:=j.trans n
  have d:=b.len
  rw [aM,cT] at d
  refine Aw (gp.mono b.le) n.priv (c.mono b.le) hq.den o o ?_
  intro A3 x B E H C r
  refine ⟨_,_,_,rfl,?_⟩
  have a:=b.trans r
  have p:=a.len
  refine Ea Bc.und V7 O5 a.priv.slV gz0 ⟨_,rfl,?_⟩
  refine ⟨A0 a.le a.priv.le,?_⟩
  assumption
end
structure Tx (m:Nat) (l:List UInt8):Prop where
 len:l.length<=140737488351232
 sz:Sz m (rv l)
def A0a{m:Nat}{z:Int}(h:ZB m z):(Ds z).length<=m+2:=by
 have:=Dn h
 unfold Ds;grind
def Ll{m:Nat}{q:Rat}(h:Sz m q):(C7 q).length<=2*m+4:=by
 have a:=A0a h.num
 have b:=Dn (n:=q.den) (m:=m) (by have:=h.den;assumption)
 unfold C7
 grind
def Tx.of{m:Nat}{q:Rat}(h:Sz m q)(hm:m<=40000000):Tx m (C7 q):=⟨by have:=Ll h;omega,by rw [C1];exact h⟩
def El{x y:Int}(hx:x.natAbs<1000000000)(hy:y.natAbs<1000000000):(x*y).natAbs<1000000000000000000:=by
 rw [Int.natAbs_mul]
 exact Nat.mul_lt_mul'' hx hy
def Wk(q:Rat):∃ c r,C7 q=c::r/\(c=45↔q<0):=by
 have f:=Bb q
 have a:C7 q≠[]:=by
  intro e
  have:=f.eq
  rw [e] at this
  have d:=f.ne
  have:=congrArg List.length this
  simp only [aM,List.length_nil] at this
  exact d (aI o)
 obtain ⟨c,r,e⟩:=bC a
 refine ⟨c,r,e,?_⟩
 have b:=f.head
 rw [e,dM,cR,decide_eq_true_iff,beq_iff_eq,bA] at b
 rw [<- b,cZ];simp
def A86:rv [48]=0:=by
 rfl
def Wl:C7 0=[48]:=by rfl
def Hs{m:Nat}{q:Rat}(h:Sz m q):ZB m q.floor:=by
 rw [Rat.floor_def]
 exact h.num.le (Int.natAbs_ediv_le_natAbs _ _)
section
variable {h:aL} {K:VP} {m:Nat} {a b:List UInt8}
def V5(gl:Gl h)(hl:a.length<=140737488351232)(hK1:IsNum a->K (.bool true) h)(hK0:¬ IsNum a->K (.bool false) h):aG prog 57 #[.string (bs a)] h K:=by
 refine FCall.pure ((fnk func57 (os:=[(7,[0,1,3,4,2,5,6,7,8])]) (own:=[3,5])) ?_)
 refine U2 ?_ ?_
 ·intro q e _ _
  exact ⟨_,_,_,rfl,Br.of (fun _=>⟨B3 _,hK1 ⟨q,e⟩⟩) (fun e=>by cases e)⟩
 ·refine ⟨_,_,_,rfl,Br.of (fun e=>by cases e) (fun _=>?_)⟩
  refine Fn o ?_ ?_
  ·intro neg x y f
   refine ⟨_,_,_,_,rfl,Br.of (fun e=>by cases e) (fun _=>?_)⟩
   have j:=f.lens
   rw [P5]
   refine B4 (fun e=>?_) (fun e=>?_)
   ·subst e
    exact ⟨B3 _,hK1 (f.isNum.2 (by unfold Du;simp))⟩
   ·refine Ch f.da o ?_
    intro A1 E c1 A d r
    refine ⟨_,_,_,_,rfl,d,Ch f.db o ?_⟩
    intro A2 F c2 s b m
    refine ⟨_,_,_,_,rfl,b,V3 (gl.tz.mono (A0 d b)) (r.mono b) m (Gb f.da (k:=a.length) o) (Gb f.db (k:=a.length) o) o ?_⟩
    intro A3 w C D l p
    refine ⟨_,_,_,_,rfl,l,J2 p ⟨_,rfl,B3 _,A0 d (A0 b l),?_⟩⟩
    rw [aS]
    have g:Du y=J9 y:=by unfold Du;grind
    by_cases n:aV (J9 x) (J9 y)=1
    ·rw [decide_eq_true o]
     exact hK1 (f.isNum.2 gz0)
    ·rw [decide_eq_false o]
     exact hK0 (fun c=>n (by rw [<- g];exact f.isNum.1 c))
  ·intro B neg x y
   refine ⟨_,_,_,_,rfl,Br.of (fun _=>⟨B3 _,hK0 ?_⟩) (fun e=>by cases e)⟩
   intro c
   obtain ⟨i,z,u,f⟩:=c.form
   grind
def A3d{q:Rat}(hq:q≠0)(hneg:¬ q<0):q.num.sign=1:=by
 have a:¬ q.num<0:=fun e=>hneg (by rw [cZ];simp_all)
 have b:q.num≠0:=fun e=>hq (Rat.num_eq_zero.1 e)
 grind
def Kd(gl:Gl h)(hl:a.length<=140737488351232)(hK:K (I (rv a).num.sign) h):aG prog 146 #[.string (bs a)] h K:=by
 refine (fnk func146) ?_
 have g:((bs a).toList==({ data:=#[48] }:ByteArray).toList)=decide (a=[48]):=Gz a [48]
 rw [g]
 refine B4 (fun e=>?_) (fun e=>?_)
 ·subst e;rw [A86] at hK;exact hK
 ·refine V5 gl hl ?_ ?_
  ·rintro ⟨q,rfl⟩
   rw [C1] at hK
   have b:q≠0:=by rintro rfl;exact e Wl
   obtain ⟨c,r,k,j⟩:=Wk q
   refine ⟨_,rfl,Br.not ?_⟩
   refine ⟨c,⟨o,by rw [Ue,k];rfl⟩,E4 (fun i=>?_) (fun i=>?_)⟩
   ·have d:c=45:=by apply UInt8.toNat_inj.1;show c.toNat=45;omega
    have:=(cZ q 0).1 (j.1 d)
    rw [bD (by simpa using this)] at hK
    exact hK
   ·have d:¬ q<0:=fun l=>i (by rw [j.2 l];rfl)
    rw [A3d b d] at hK
    exact hK
  ·intro m
   rw [Ti m] at hK
   exact ⟨_,rfl,Br.not hK⟩
def H3(gl:Gl h)(ta:Tx m a)(tb:Tx m b)(hm:2*m<=1152000000000000)(hK:K (I (A1q (rv a) (rv b))) h):aG prog 18 #[.string (bs a),.string (bs b)] h K:=by
 refine FCall.pure ((fnk func18 (own:=[5,6])) ?_)
 refine T4 ?_ ?_
 ·intro p q k s i c r l
  rw [k,s,C1,C1] at hK
  refine ⟨_,_,_,_,_,rfl,Br.of (fun _=>(fnk func70) ?_) (fun e=>by cases e)⟩
  have w:=El i (show ((q.den:Nat):Int).natAbs<1000000000 by simpa using l)
  have x:=El r (show ((p.den:Nat):Int).natAbs<1000000000 by simpa using c)
  rw [B5 o o,B5 o o]
  exact Zg ⟨_,rfl,_,rfl,B3 _,hK⟩
 ·refine ⟨_,_,_,_,_,rfl,Br.of (fun e=>by cases e) (fun _=>?_)⟩
  refine H6 gl.tz ta.len ?_
  intro u i d j
  refine ⟨_,_,_,_,_,_,_,_,rfl,H6 (gl.tz.mono d) tb.len ?_⟩
  intro y c g n
  refine ⟨_,_,_,_,_,_,_,_,rfl,Mc (j.mono g) n ta.sz tb.sz o ⟨_,rfl,A0 d g,hK⟩⟩
def Ia(gl:Gl h)(ta:Tx m a)(tb:Tx m b)(hm:2*m+1<=40000000)(hK:K (.string (bs (C7 (rv a+rv b)))) h):aG prog 19 #[.string (bs a),.string (bs b)] h K:=by
 refine FCall.pure ((fnk func19 (own:=[5,6])) ?_)
 refine T4 ?_ ?_
 ·intro p q x r i k j C
  rw [x,r,C1,C1,Lh] at hK
  refine ⟨_,_,_,_,_,rfl,Br.of (fun _=>?_) (fun e=>by cases e)⟩
  have z:=El i (show ((q.den:Nat):Int).natAbs<1000000000 from o)
  have D:=El j (show ((p.den:Nat):Int).natAbs<1000000000 from o)
  have B:=El (show ((p.den:Nat):Int).natAbs<1000000000 from o) (show ((q.den:Nat):Int).natAbs<1000000000 from o)
  rw [B5 (n:=p.num*q.den) o o,B5 (n:=q.num*p.den) o o,B5 (n:=(p.den:Int)*q.den) o o,B5 o o]
  exact Q5 gl.p10 (dO (den_ne p) (den_ne q)) o o ⟨_,rfl,B3 _,hK⟩
 ·refine ⟨_,_,_,_,_,rfl,Br.of (fun e=>by cases e) (fun _=>?_)⟩
  refine H6 gl.tz ta.len ?_
  intro y i d w
  refine ⟨_,_,_,_,_,_,_,_,rfl,H6 (gl.tz.mono d) tb.len ?_⟩
  intro E k g l
  refine ⟨_,_,_,_,_,_,_,_,rfl,Us (gl.tz.mono (A0 d g)) (w.mono g) l ta.sz tb.sz o ?_⟩
  intro A j s u
  have c:=A0 d (A0 g s)
  exact ⟨_,_,_,_,_,_,_,_,rfl,L9 (gl.p10.mono c) u (ta.sz.add tb.sz) o ⟨_,rfl,c,hK⟩⟩
def S2(gl:Gl h)(ta:Tx m a)(tb:Tx m b)(hm:2*m<=40000000)(hK:K (.string (bs (C7 (rv a*rv b)))) h):aG prog 29 #[.string (bs a),.string (bs b)] h K:=by
 refine FCall.pure ((fnk func29 (own:=[5,6])) ?_)
 refine T4 ?_ ?_
 ·intro p q l w i r j A
  rw [l,w,C1,C1,Kp] at hK
  refine ⟨_,_,_,_,_,rfl,Br.of (fun _=>?_) (fun e=>by cases e)⟩
  have z:=El i j
  have D:=El (show ((p.den:Nat):Int).natAbs<1000000000 from o) (show ((q.den:Nat):Int).natAbs<1000000000 from o)
  rw [B5 (n:=p.num*q.num) o o,B5 (n:=(p.den:Int)*q.den) o o]
  exact Q5 gl.p10 (dO (den_ne p) (den_ne q)) o o ⟨_,rfl,B3 _,hK⟩
 ·refine ⟨_,_,_,_,_,rfl,Br.of (fun e=>by cases e) (fun _=>?_)⟩
  refine H6 gl.tz ta.len ?_
  intro y i d k
  refine ⟨_,_,_,_,_,_,_,_,rfl,H6 (gl.tz.mono d) tb.len ?_⟩
  intro C r g u
  refine ⟨_,_,_,_,_,_,_,_,rfl,Kh (gl.tz.mono (A0 d g)) (k.mono g) u ta.sz tb.sz o ?_⟩
  intro B j x s
  have c:=A0 d (A0 g x)
  exact ⟨_,_,_,_,_,_,_,_,rfl,L9 (gl.p10.mono c) s (ta.sz.mul tb.sz) o ⟨_,rfl,c,hK⟩⟩
def Oc(gl:Gl h)(ta:Tx m a)(tb:Tx m b)(hm1:1<=m)(hm:2*m<=40000000)(hK1:rv b≠0->K (.tuple #[.string (bs (C7 (rv a/rv b))),.bool true]) h)(hK0:rv b=0->K (.tuple #[.string (bs []),.bool false]) h):aG prog 16 #[.string (bs a),.string (bs b)] h K:=by
 refine FCall.pure ((fnk func16 (cs:=[(3,[22],[],[.bool false])]) (os:=[(7,[0,2,1,3,4,5,6])]) (own:=[6,7,9])) ?_)
 have c:∀ j,j=h->aG prog 60 #[.string (bs b)] j (fun S y=>∃ (t350:Bool) (t351A:Option aK) (t351n:Nat) (t351c:Nat) (t352:Bool) (t353A:Option aK) (t353n:Nat) (t353c:Nat),S= .agg #[.bool t350,.slice t351A t351n t351c,.bool t352,.slice t353A t353n t353c]/\aG prog 61 #[.agg #[.bool t350,.slice t351A t351n t351c,.bool t352,.slice t353A t353n t353c]] y (fun r3 l=>∃ (t37:Bool),r3= .bool t37/\Br t37 (h.le l/\K (.tuple #[.string ({ data:=#[] }:ByteArray),.bool false]) h)
  (aG prog 60 #[.string (bs a)] l (fun r4 i=>∃ (t390:Bool) (t391A:Option aK) (t391n:Nat) (t391c:Nat) (t392:Bool) (t393A:Option aK) (t393n:Nat) (t393c:Nat),r4= .agg #[.bool t390,.slice t391A t391n t391c,.bool t392,.slice t393A t393n t393c]/\Heap.le l i/\aG prog 67 #[.agg #[.bool t390,.slice t391A t391n t391c,.bool t392,.slice t393A t393n t393c],.agg #[.bool t350,.slice t351A t351n t351c,.bool t352,.slice t353A t353n t353c]] i (fun Q g=>∃ (t410:Bool) (t411A:Option aK) (t411n:Nat) (t411c:Nat) (t412:Bool) (t413A:Option aK) (t413n:Nat) (t413c:Nat),Q= .agg #[.bool t410,.slice t411A t411n t411c,.bool t412,.slice t413A t413n t413c]/\Heap.le i g/\aG prog 64 #[.agg #[.bool t410,.slice t411A t411n t411c,.bool t412,.slice t413A t413n t413c]] g (fun N u=>∃ (t42:ByteArray),N= .string t42/\Heap.le g u/\(h.le u/\K (.tuple #[.string t42,.bool true]) h))))))):=by
  rintro j rfl
  refine H6 gl.tz tb.len ?_
  intro V D w H
  refine ⟨_,_,_,_,_,_,_,_,rfl,T3 H ⟨_,rfl,B4 (fun e=>⟨w,hK0 e⟩) (fun e=>?_)⟩⟩
  refine H6 (gl.tz.mono w) ta.len ?_
  intro w2 B x M
  refine ⟨_,_,_,_,_,_,_,_,rfl,x,Uq (gl.tz.mono (A0 w x)) M (H.mono x) ta.sz tb.sz hm1 o ?_⟩
  intro X G F R
  have s:=A0 w (A0 x F)
  exact ⟨_,_,_,_,_,_,_,_,rfl,F,L9 (gl.p10.mono s) R (ta.sz.div tb.sz hm1) o ⟨_,rfl,B3 _,s,hK1 e⟩⟩
 refine T4 ?_ ?_
 ·intro p q T E D B G O
  refine ⟨_,_,_,_,_,rfl,fun L j=>L=[.bool (decide (q.num≠0))]/\j=h,Br.of (fun _=>⟨?_,rfl⟩) (fun e=>by cases e),?_⟩
  ·by_cases r:q.num=0<;>simp [r,bne]
  rintro k d ⟨z,rfl⟩
  obtain rfl:k=decide (q.num≠0):=by simpa using z
  refine B4 (fun r=>?_) (fun r=>c d rfl)
  have A:rv b≠0:=by rw [E,C1];exact fun e=>r (Rat.num_eq_zero.2 e)
  have C:=hK1 A
  rw [T,E,C1,C1,Vg] at C
  have W:=El D (show ((q.den:Nat):Int).natAbs<1000000000 by simpa using O)
  have b3:=El (show ((p.den:Nat):Int).natAbs<1000000000 by simpa using B) G
  rw [B5 (n:=p.num*q.den) o o,B5 (n:=(p.den:Int)*q.num) o o]
  exact Q5 gl.p10 (dO (den_ne p) r) o o ⟨_,rfl,B3 _,C⟩
 ·refine ⟨_,_,_,_,_,rfl,fun L j=>L=[.bool false]/\j=h,Br.of (fun e=>by cases e) (fun _=>⟨rfl,rfl⟩),?_⟩
  rintro k d ⟨z,rfl⟩
  obtain rfl:k=false:=by simpa using z
  exact Br.of (fun e=>by cases e) (fun _=>c d rfl)
def Rc(gl:Gl h)(ta:Tx m a)(hm:m+1<=40000000)(hK:K (.string (bs (Ds (rv a).floor))) h):aG prog 17 #[.string (bs a)] h K:=by
 refine FCall.pure ((fnk func17) ?_)
 refine H6 gl.tz ta.len ?_
 intro g k b d
 refine ⟨_,_,_,_,_,_,_,_,rfl,Gs d ta.sz o ?_⟩
 intro i A2 l c2 j c e
 exact ⟨_,_,_,_,rfl,At (m:=m) (gl.p10.mono (A0 b c)) e (Hs ta.sz) o ⟨_,rfl,A0 b c,hK⟩⟩
def Uk(gl:Gl h)(ta:Tx m a)(hm:m+1<=40000000)(hK:K (.string (bs (Ds (rv a).ceil))) h):aG prog 59 #[.string (bs a)] h K:=by
 refine FCall.pure ((fnk func59) ?_)
 refine H6 gl.tz ta.len ?_
 intro g k b d
 refine ⟨_,_,_,_,_,_,_,_,rfl,Ur d ta.sz o ?_⟩
 intro i A2 l c2 j c e
 refine ⟨_,_,_,_,rfl,At (m:=m) (gl.p10.mono (A0 b c)) e ?_ o ⟨_,rfl,A0 b c,hK⟩⟩
 rw [dQ]
 exact (Hs ta.sz.neg).neg
end
def A1i(n j:Nat):n/2^j=2*(n/2^(j+1))+n/2^j%2:=by
 rw [dE,<- Nat.div_div_eq_div_mul]
 omega
def Wm{h:aL}{A:Option aK}{n:Nat}{v:Int}{b:Nat}(m:Mw h A n v)(hv:v<2^b)(hb:b<=6400000000):n<=100000000:=by
 obtain ⟨k,hk⟩:∃ k,k=100000000:=⟨_,rfl⟩
 refine m.len_le dc ?_
 rw [Bh]
 exact Int.lt_of_lt_of_le hv (C8 (B:=2) dc o)
def Kk{x:Nat}{m:Nat}(hx:x<2^m)(hm:1<=m)(k:Nat):x^k<2^(m*k+1):=by
 have a:x^k<=(2^m)^k:=cF (Nat.le_of_lt hx) k
 rw [<- cU] at a
 grind
section
variable {h g:aL} {K:VP} {A B:Option aK} {s s':Bool} {an ac bn bc m:Nat} {x y:Int}
def A4p{n:Nat}(hx:n<18446744073709551616)(hK:K (I (L8 n)) h):aG prog 236 #[U n] h K:=by
 refine (fnk func236) ?_
 exact Mt hx ⟨_,rfl,hK⟩
def Bg{x n xn xc:Nat}(M:Mw h A xn (x:Int))(hc:xn<=xc)(hx:x<2^m)(hm1:1<=m)(hm:m*n+1<=6400000000)(hn:n<9223372036854775808)(hmm:m<=6400000000)
 (hK:∀ A' n' c' h',h.le h'->n'<=c'->Mw h' A' n' ((x^n:Nat):Int)->K (.slice A' n' c') h'):aG prog 189 #[.slice A xn xc,U (n:Int)] h K:=by
 refine (fnk func189 [(3,[5,6],[],[.slice none 0 0,I 0])]) ?_
 have z:xn<=100000000:=Wm (b:=m) M (by
  have:((x:Nat):Int)<((2^m:Nat):Int):=Int.ofNat_lt.2 hx
  rw [aX] at this;exact this) hmm
 refine S5 I6 rfl ?_
 intro b G
 refine ⟨_,_,_,rfl,A4p o ⟨_,rfl,?_⟩⟩
 have B:L8 n<=63:=Bq (by
  have:(2:Nat)^63=9223372036854775808:=dc
  omega)
 have M1:Mw (h.put b (.cells #[U 1] 230)) (some ⟨b,0,none⟩) 1 ((x^(n/2^L8 n):Nat):Int):=by
  have r:n/2^L8 n=0:=by
   apply Nat.div_eq_of_lt
   by_cases l:n=0
   ·subst l;exact Nat.pow_pos dc
   ·exact (X3 l).2
  rw [r,Nat.pow_zero]
  refine ⟨[1],rfl,SlI.new _ _ _ _ _,?_,?_,?_⟩
  ·intro x hx;simp at hx;subst hx;decide
  ·unfold Norm;simp
  ·simp [val]
 refine ⟨fun L u=>∃ (RA:Option aK) (d rc j:Nat),L=[.slice RA d rc,I ((j:Int)-1)]/\j<=L8 n/\h.le u/\d<=rc/\Mw u RA d ((x^(n/2^j):Nat):Int),fun L _=>(iAt L 1+1).toNat,⟨_,1,1,L8 n,by rw [B5 o o],aZ _,Heap.le_put _ G,aZ _,M1⟩,?_⟩
 rintro RA d rc i u ⟨RA',ab,T,j,C,hj,p,c,MR⟩
 simp only [cD,cJ,Value.int.injEq,and_true,true_and] at C
 obtain ⟨⟨rfl,rfl,rfl⟩,rfl⟩:=C
 have a:∀ {h':aL} {A':Option aK} {n' k:Nat},k<=n->Mw h' A' n' ((x^k:Nat):Int)->n'<=100000000:=by
  intro h' A' n' k O M'
  refine Wm (b:=m*n+1) M' ?_ hm
  have h1:=Kk hx hm1 k
  have F:2^(m*k+1)<=2^(m*n+1):=aJ dc (by have:=Nat.mul_le_mul_left m O;omega)
  have w:((x^k:Nat):Int)<((2^(m*n+1):Nat):Int):=Int.ofNat_lt.2 o
  rw [aX (n:=m*n+1)] at w
  exact w
 refine B4 (fun l=>?_) (fun l=>?_)
 ·obtain ⟨j,rfl⟩:∃ i,j=i+1:=⟨j-1,o⟩
  have r:((j+1:Nat):Int)-1=(j:Int):=o
  simp only [r]
  have X:=a (aT _ _) MR
  have s:=A1i n j
  have aa:=aT n (2^j)
  refine D6 MR MR c c o o ?_
  intro A2 n2 c2 F y E M2
  refine ⟨_,_,_,rfl,?_⟩
  have e1:C4 (j:Int)=(j:Int):=C0 o o
  rw [e1]
  refine B4 (fun e=>absurd e o) (fun _=>?_)
  rw [aC,A02 o]
  have R:(n:Int)/2^j=((n/2^j:Nat):Int):=by rw [dJ,aX];rfl
  rw [R,Ld o]
  rw [<- aY,<- Nat.pow_add] at M2
  have e3:B7 ((j:Int)-1)=(j:Int)-1:=B5 o o
  rw [e3]
  have g:∀ (q:bX),(iAt [q,I ((j:Int)-1)] 1+1).toNat<(iAt [.slice RA d rc,I (j:Int)] 1+1).toNat:=by
   intro q
   simp only [iAt,aE,aF]
   omega
  refine E4 (fun D=>?_) (fun N=>?_)
  ·have W:=a o M2
   refine D6 M2 (M.mono (A0 p y)) E hc o o ?_
   intro A3 H V w S Q M3
   refine ⟨_,_,_,rfl,⟨A3,H,V,j,rfl,o,A0 p (A0 y S),Q,?_⟩,g _⟩
   rw [<- aY,<- dE] at M3
   rw [show n/2^j=n/2^(j+1)+n/2^(j+1)+1 from o]
   exact M3
  ·refine ⟨⟨A2,n2,c2,j,rfl,o,A0 p y,E,?_⟩,g _⟩
   rw [show n/2^j=n/2^(j+1)+n/2^(j+1) from o]
   exact M2
 ·obtain rfl:j=0:=o
  rw [Nat.pow_zero,Nat.div_one] at MR
  exact hK _ _ _ _ p c MR
def A46(x:Int)(n:Nat):(-x)^n=if n%2=1 then -(x^n) else x^n:=by
 induction n with
 | zero=>simp
 | succ n ih=>
  grind
def U9{n:Nat}(i:ZI h s A an ac x)(hx:ZB m x)(hm1:1<=m)(hm:m*n+1<=6400000000)(hmm:m<=6400000000)(hn:n<9223372036854775808)(hK:∀ s1 A' n' c' h',h.le h'->ZI h' s1 A' n' c' (x^n)->K (.agg #[.bool s1,.slice A' n' c']) h'):aG prog 126 #[.agg #[.bool s,.slice A an ac],U (n:Int)] h K:=by
 have k:=S3 i.sgn
 refine (fnk func126 (own:=[2,4])) ?_
 refine Br.of (fun e=>?_) (fun e=>?_)
 ·refine Bg i.mag i.cap hx hm1 hm hn hmm ?_
  intro A1 l c1 p g c M1
  refine ⟨_,_,_,rfl,?_⟩
  rw [Ld o]
  refine G6 M1 c ?_
  intro s1 d
  refine ⟨_,_,_,_,rfl,hK _ _ _ _ _ g ?_⟩
  have b:x= -(x.natAbs:Int):=by
   rcases k with ⟨_,a⟩|⟨a,_⟩
   ·exact a
   ·rw [e] at a;cases a
  have:x^n=if ((n:Int)%2==1)=true then -((x.natAbs^n:Nat):Int) else ((x.natAbs^n:Nat):Int):=by
   conv=>lhs;rw [b,A46]
   rw [aX]
   by_cases j:n%2=1
   ·rw [iP j,iP (by simp;omega)]
   ·rw [iN j,iN (by simp;omega)]
  rw [this];exact d
 ·refine Bg i.mag i.cap hx hm1 hm hn hmm ?_
  intro A1 l c1 p g c M1
  refine ⟨_,_,_,rfl,?_⟩
  refine G6 M1 c ?_
  intro s1 d
  refine ⟨_,_,_,_,rfl,hK _ _ _ _ _ g ?_⟩
  have b:x=(x.natAbs:Int):=by
   rcases k with ⟨a,_⟩|⟨_,a⟩
   ·rw [e] at a;cases a
   ·exact a
  have:x^n=((x.natAbs^n:Nat):Int):=by rw [aX,<- b]
  rw [this];exact d
end
def Gu(q:Rat)(n:Nat):(q^n).num=q.num^n/\(q^n).den=q.den^n:=⟨Rat.num_pow q n,Rat.den_pow q n⟩
def ZB.pow{m:Nat}{x:Int}(h:ZB m x)(hm:1<=m)(n:Nat):ZB (m*n+1) (x^n):=by
 unfold ZB
 rw [Int.natAbs_pow]
 exact Kk h hm n
def Sz.pow{m:Nat}{q:Rat}(h:Sz m q)(hm:1<=m)(n:Nat):Sz (m*n+1) (q^n):=by
 obtain ⟨a,b⟩:=Gu q n
 refine ⟨by rw [a];exact h.num.pow hm n,?_⟩
 rw [b,aX];exact h.den.pow hm n
section
variable {h:aL} {K:VP} {m:Nat} {a b:List UInt8} {w:QV} {q:Rat}
def Oj{n:Nat}(i:RQ h w q)(hq:Sz m q)(hm1:1<=m)(hm:m*n+1<=6400000000)(hmm:m<=6400000000)(hn:n<9223372036854775808)(hK:∀ w h',h.le h'->RQ h' w (q^n)->K w.v h'):aG prog 63 #[w.v,U (n:Int)] h K:=by
 obtain ⟨g,j⟩:=Gu q n
 refine (fnk func63 (os:=[(3,[0,1,2,4,5,6,3,7,8,9])]) (own:=[2,4])) ?_
 refine H1 i ⟨_,rfl,B4 (fun e=>?_) (fun e=>?_)⟩
 ·refine U9 i.num hq.num hm1 hm hmm hn ?_
  intro l A1 k c1 s a c
  refine ⟨_,_,_,_,rfl,hK ⟨l,A1,k,c1,false,none,0,0⟩ _ a ⟨by rw [g];exact c,?_⟩⟩
  rw [j,e,Nat.one_pow,iP rfl];exact ZI.zero
 ·have b:=i.den
  rw [iN e] at b
  refine U9 i.num hq.num hm1 hm hmm hn ?_
  intro l A1 k c1 s a c
  refine ⟨_,_,_,_,rfl,a,U9 (b.mono a) hq.den hm1 hm hmm hn ?_⟩
  intro x A2 z c2 y d u
  refine ⟨_,_,_,_,rfl,d,J6 (q:=q^n) (c.mono d) u g (by rw [j,aX]) ?_⟩
  intro r p
  exact ⟨_,_,_,_,_,_,_,_,rfl,B3 _,hK r _ (A0 a d) p⟩
def Hy{n:Int}(gl:Gl h)(ta:Tx m a)(hm1:1<=m)(hm:m*n.natAbs+1<=40000000)(hmm:m<=40000000)
 (hK1: -1000<=n->n<=1000->0<=n->K (.tuple #[.string (bs (C7 (rv a^n.natAbs))),.bool true]) h)
 (hK2: -1000<=n->n<0->rv a≠0->K (.tuple #[.string (bs (C7 ((rv a)⁻¹^n.natAbs))),.bool true]) h)
 (hK0:¬ (-1000<=n/\n<=1000)\/(n<0/\rv a=0)->K (.tuple #[.string (bs []),.bool false]) h):aG prog 14 #[.string (bs a),I n] h K:=by
 refine FCall.pure ((fnk func14 (own:=[6])) ?_)
 refine B4 (fun e=>⟨B3 _,hK0 (.inl o)⟩) (fun u=>B4 (fun e=>⟨B3 _,hK0 (.inl o)⟩) (fun z=>?_))
 refine H6 gl.tz ta.len ?_
 intro s x g c
 refine ⟨_,_,_,_,_,_,_,_,rfl,B4 (fun d=>?_) (fun d=>?_)⟩
 ·refine T3 c ⟨_,rfl,B4 (fun e=>⟨g,hK0 (.inr ⟨d,e⟩)⟩) (fun e=>?_)⟩
  refine Eg c ?_
  intro y w l q
  have j:C4 (B7 (0-n))=(n.natAbs:Int):=by rw [B5 o o,C0 o o];omega
  rw [j]
  refine ⟨_,_,_,_,_,_,_,_,rfl,Oj q (ta.sz.inv hm1) hm1 o o o ?_⟩
  intro p r k i
  have b:=A0 g (A0 l k)
  exact ⟨_,_,_,_,_,_,_,_,rfl,L9 (gl.p10.mono b) i ((ta.sz.inv hm1).pow hm1 _) o ⟨_,rfl,b,hK2 o d e⟩⟩
 ·have j:C4 n=(n.natAbs:Int):=by rw [C0 o o];omega
  rw [j]
  refine Oj c ta.sz hm1 o o o ?_
  intro p r k i
  have b:=A0 g k
  exact ⟨_,_,_,_,_,_,_,_,rfl,L9 (gl.p10.mono b) i (ta.sz.pow hm1 _) o ⟨_,rfl,b,hK1 o o o⟩⟩
end
section
set_option maxRecDepth 100000
variable {h:aL} {K:VP}
def A7q:SliceT prog 65 23 (.agg #[.string ({ data:=#[] }:ByteArray),.string ({ data:=#[] }:ByteArray)]) 2 32:=⟨by kernel_rfl,by kernel_rfl,rfl,dc⟩
def A0j:prog.cellsOf 23=2/\(prog.info? 23).isSome=true:=⟨by kernel_rfl,by kernel_rfl⟩
end
