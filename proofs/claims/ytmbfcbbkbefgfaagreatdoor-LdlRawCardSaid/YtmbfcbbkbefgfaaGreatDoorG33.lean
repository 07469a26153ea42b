/- A part. -/
import Derived.Test.YtmbfcbbkbefgfaaGreatDoorG31
import Derived.Test.YtmbfcbbkbefgfaaGreatDoorG32
import Derived.Deep.Strs
open Go.Proofs.Tryz
set_option linter.all false
open _root_.Go.Builtin renaming append_->aQ
open Int renaming gcd->aG,lcm->aN,sign_eq_zero_iff_zero->aZ
open List renaming mem_cons_self->aD,getElem?_append_right->aO,getElem?_append_left->aP,mem_cons_of_mem->aS,length_append->aV
open List.cons renaming injEq->aJ
open Nat renaming le_refl->aC,lt_succ_self->aH,zero_le->aL,mul_le_mul->aR,lt_irrefl->aT,zero_add->bC
open Rat renaming divInt->aU,divInt_eq_div->aX,intCast_mul->aY
open _root_.Go.Value.int renaming injEq->aI
open _root_.Go.Value.slice renaming injEq->aW
open _root_.Go renaming Addr->aF
open _root_.Go.Proofs.YtmbfcbbkbefgfaaGreatDoor renaming Heap->aE,FCall->aK,RowV->aM,SqOk->bB
namespace Go.Proofs.YtmbfcbbkbefgfaaGreatDoor
set_option maxRecDepth 20000
open Go
def Um(x:Rat):x*(x.den:Rat)=(x.num:Rat):=by
 have h:=(Rat.num_divInt_den x).symm
 rw [aX] at h
 have a:(((x.den:Nat):Int):Rat)=(x.den:Rat):=rfl
 have b:(((x.den:Nat):Int):Rat)≠0:=J7 (by have:=x.den_nz;omega)
 rw [a] at h b
 generalize (x.den:Rat)=d at *
 generalize (x.num:Rat)=n at *
 rw [h]
 grind
def B38{x y:Rat}(hx:0<x)(hy:0<y){s:Rat}(hs:s=aU (aN x.num y.num) (aG (x.den:Int) (y.den:Int))):0<s/\s=((s/x).num:Rat)*x/\s=((s/y).num:Rat)*y:=by
 have l:∀ z:Rat,0<z->0<z.num:=fun z m=>by
  have k:(0:Rat)<(z.den:Rat):=by exact_mod_cast z.den_pos
  have f:=Rat.mul_pos m k
  rw [Um] at f
  exact_mod_cast f
 have o:=l x hx
 have r:=l y hy
 have p:=x.den_pos
 have t:=y.den_pos
 have C:0<aG (x.den:Int) (y.den:Int):=Nat.gcd_pos_of_pos_left _ (by omega)
 have B:0<aN x.num y.num:=Nat.lcm_pos (by omega) (by omega)
 have c:s*((aG (x.den:Int) (y.den:Int):Nat):Int)=((aN x.num y.num:Nat):Int):=by
  rw [hs,aX]
  have:(((aG (x.den:Int) (y.den:Int):Nat):Int):Rat)≠0:=J7 (by omega)
  grind
 have key:∀ z:Rat,0<z->z.num∣((aN x.num y.num:Nat):Int)->((aG (x.den:Int) (y.den:Int):Nat):Int)∣(z.den:Int)->s=((s/z).num:Rat)*z:=by
  intro z m ⟨a,ha⟩ ⟨b,hb⟩
  have d:z*(z.den:Rat)=(z.num:Rat):=Um z
  have n:(((aG (x.den:Int) (y.den:Int):Nat):Int):Rat)≠0:=J7 (by omega)
  have g:(z.den:Rat)=((((aG (x.den:Int) (y.den:Int):Nat):Int):Rat))*(b:Rat):=by
   rw [<- aY,<- hb];rfl
  have i:((((aN x.num y.num:Nat):Int)):Rat)=(z.num:Rat)*(a:Rat):=by rw [<- aY,<- ha]
  have e:s=((a*b:Int):Rat)*z:=by
   rw [aY]
   rw [i] at c
   generalize ((((aG (x.den:Int) (y.den:Int):Nat):Int):Rat))=G at *
   rw [g] at d
   have:s*G=((a:Rat)*b*z)*G:=by rw [c,<- d];grind
   grind
  have q:s/z=((a*b:Int):Rat):=by
   have:z≠0:=by grind
   rw [e];grind
  rw [q,Rat.num_intCast,<- e]
 have j:0<s:=by
  have k:(0:Rat)<((((aG (x.den:Int) (y.den:Int):Nat):Int)):Rat):=by exact_mod_cast (by omega:(0:Int)<((aG (x.den:Int) (y.den:Int):Nat):Int))
  have f:(0:Rat)<((((aN x.num y.num:Nat):Int)):Rat):=by exact_mod_cast (by omega:(0:Int)<((aN x.num y.num:Nat):Int))
  rw [<- c] at f
  refine Classical.byContradiction fun u=>?_
  have w:s<=0:=by grind
  have A:=Rat.mul_nonneg (show 0 <= -s by grind) (show (0:Rat)<=_ from (by grind:(0:Rat)<=((((aG (x.den:Int) (y.den:Int):Nat):Int)):Rat)))
  grind
 exact ⟨j,key x hx (Int.dvd_lcm_left ..) (Int.gcd_dvd_left ..),key y hy (Int.dvd_lcm_right ..) (Int.gcd_dvd_right ..)⟩
def C2n{m:Nat}{x y:Int}(hx:ZB m x)(hy:ZB m y):ZB (m+m) ((aN x y:Nat):Int):=by
 refine (hx.mul hy).le ?_
 rw [Int.natAbs_natCast,Int.natAbs_mul]
 exact Nat.div_le_self _ _
def A0c(i a:Nat):xch i i a=a:=by
 unfold xch
 by_cases e:a=i
 ·rw [iP e,e]
 ·rw [iN e,iN e]
section
variable {h g o:aE} {be:Nat} {T:Tb} {M:Nat->Nat->Int} {S:Nat->Rat} {n k m sc:Nat} {w:IV} {z:Int} {L D:Value} {K:VP}
def Kd{w:QV}{q:Rat}(i:RQ h w q)(hK:K (.agg #[.bool w.s,.slice w.A w.n w.c]) h):aK prog Zf #[w.v] h K:=by
 refine C2t _ _ _ _ _ _ _ _ ?_
 unfold C7k
 exact hK
def A61(t:Tab h g o T M S)(gl:Gl g){i l:Nat}(hi:i<T.rows)(hl:l<T.rows)(hil:i≠l)(pi:0<S i)(pl:0<S l)(zi:Sz sc (S i))(zl:Sz sc (S l))(hM:∀ a b,a<T.rows->b<T.cols->ZB m (M a b))(hs1:1<=sc)(hm:m+3*sc+1<=6400000000)
 (hK:∀ h' g' o' (x y:Int) (q:Rat),g.le g'->0<q->q=x*S i->q=y*S l->Sz (sc+sc) q->ZB (3*sc) x->ZB (3*sc) y->Tab h' g' o' T (fun a b=>if a=i then M i b*x+M l b*y else M a b) (fun a=>if a=i then q else S a)->(∀ b,b≠T.bE->b≠T.bS->o' b=o b)->K (.tuple #[]) h'):aK prog A8u #[.pointer (some ⟨T.bt,0,none⟩),I (i:Int),I (l:Int)] h K:=by
 refine B6l _ _ _ ?_
 unfold C16
 obtain ⟨wx,ix,a0,a1,a2,a3⟩:=t.sat hi
 obtain ⟨wy,W,b0,b1,b2,b3⟩:=t.sat hl
 have sp:=t.sep
 refine ⟨_,rfl,_,_,_,t.c2,_,rfl,by omega,by omega,_,_,_,_,_,_,_,_,a0,a1,a2,a3,_,rfl,_,_,_,t.c2,_,rfl,by omega,by omega,_,_,_,_,_,_,_,_,b0,b1,b2,b3,?_⟩
 refine Kd (H1 _ _ _ _ sp.le ix) ⟨_,_,_,_,rfl,B5 _,?_⟩
 refine Kd (H1 _ _ _ _ sp.le W) ⟨_,_,_,_,rfl,B5 _,?_⟩
 refine sp.call (A30 (m:=sc) gl.tz ix.num W.num zi.num zl.num (by omega) ?_)
 intro A2 n2 c2 g2 l2 i2 h2 s2
 refine ⟨_,_,_,_,rfl,sp.le_le s2 l2,?_⟩
 refine s2.call (Fb (H1 _ _ _ _ l2 ix) ?_)
 intro x3 A3 n3 c3 g3 l3 i3 h3 s3
 refine ⟨_,_,_,_,rfl,s2.le_le s3 l3,?_⟩
 have C:=B0 l2 l3
 refine s3.call (Fb (H1 _ _ _ _ C W) ?_)
 intro x4 A4 n4 c4 g4 X i4 h4 s4
 refine ⟨_,_,_,_,rfl,s3.le_le s4 X,?_⟩
 have Q:=B0 C X
 refine s4.call (Dd (m:=sc) (gl.mono Q).tz (i3.mono X) i4 zi.den zl.den (by omega) ?_)
 intro A5 n5 c5 g5 l5 i5 h5 s5
 refine ⟨_,_,_,_,rfl,s4.le_le s5 l5,?_⟩
 have O:=B0 Q l5
 have D:((S i).den:Int)≠0:=by have:=(S i).den_nz;omega
 have z:((S l).den:Int)≠0:=by have:=(S l).den_nz;omega
 have al:(aG ((S i).den:Int) ((S l).den:Int):Int)≠0:=by
  have:0<aG ((S i).den:Int) ((S l).den:Int):=Int.gcd_pos_of_ne_zero_left _ D
  omega
 have V:=C2n zi.num zl.num
 have zg:ZB (sc+sc) (aG ((S i).den:Int) ((S l).den:Int):Int):=(ZB.gcd z zl.den).mono (by omega)
 refine s5.call (T4 (m:=sc+sc) (gl.mono O).tz (i2.mono (B0 l3 (B0 X l5))) i5 V zg (by omega) ?_)
 intro w6 g6 l6 Z h6 s6
 refine ⟨_,_,_,_,_,_,_,_,rfl,s5.le_le s6 l6,?_⟩
 have A:=B0 O l6
 have N:Sz (sc+sc) (aU (aN (S i).num (S l).num) (aG ((S i).den:Int) ((S l).den:Int))):=U6 al V zg
 obtain ⟨hq,ex,ey⟩:=B38 pi pl (s:=aU (aN (S i).num (S l).num) (aG ((S i).den:Int) ((S l).den:Int))) rfl
 generalize aU (aN (S i).num (S l).num) (aG ((S i).den:Int) ((S l).den:Int))=q at *
 refine s6.call (Ke (m:=sc+sc) (gl.mono A).tz Z (H1 _ _ _ _ A ix) N (zi.mono (by omega)) (by omega) (by omega) ?_)
 intro w7 g7 l7 i7 h7 s7
 refine ⟨_,_,_,_,_,_,_,_,rfl,s6.le_le s7 l7,?_⟩
 refine Kd (H1 _ _ _ _ s7.le i7) ⟨_,_,_,_,rfl,B5 _,?_⟩
 have B:=B0 A l7
 refine s7.call (Ke (m:=sc+sc) (gl.mono B).tz (H1 _ _ _ _ l7 Z) (H1 _ _ _ _ B W) N (zl.mono (by omega)) (by omega) (by omega) ?_)
 intro w8 g8 l8 i8 h8 s8
 refine ⟨_,_,_,_,_,_,_,_,rfl,s7.le_le s8 l8,?_⟩
 refine Kd (H1 _ _ _ _ s8.le i8) ⟨_,_,_,_,rfl,B5 _,?_⟩
 have R:=B0 B l8
 have zx:ZB (3*sc) (q/S i).num:=(N.div zi hs1).num.mono (by omega)
 have zy:ZB (3*sc) (q/S l).num:=(N.div zl hs1).num.mono (by omega)
 have ap:=i7.num.mono l8
 have ak:=i8.num
 have iq:=H1 _ _ _ _ (B0 l7 l8) Z
 generalize (q/S i).num=x at *
 generalize (q/S l).num=y at *
 have t8:=t.next s8 R
 clear i7 i8 Z i5 i4 i3 i2
 refine O5 t8 hi ⟨_,_,_,rfl,O5 t8 hl ⟨_,_,_,rfl,?_⟩⟩
 refine ⟨fun L hp=>∃ (c:Nat) (g' o':aE),c<=T.cols/\L=[I (c:Int)]/\g8.le g'/\Tab hp g' o' T (fun a b=>if a=i/\b<c then M i b*x+M l b*y else M a b) S/\∀ b,b≠T.bE->o' b=o b,fun L _=>T.cols-(iAt L 0).toNat,⟨0,g8,o,by omega,rfl,B5 _,t8.congr (fun a b _ _=>by rw [iN (by omega)]) (fun _ _=>rfl),fun _ _=>rfl⟩,?_⟩
 rintro z1 hp ⟨c,g9,o9,hc,eL,J,r,ko⟩
 obtain rfl:=sI1 eL
 have a6:=t.small
 refine B8 (fun aw=>?_) (fun ba=>?_)
 ·have d:c<T.cols:=by omega
  obtain ⟨u,iu,u0,u1⟩:=r.at hl d
  obtain ⟨v,iv,v0,v1⟩:=r.at hi d
  rw [iN (by omega)] at iu iv
  refine ⟨_,rfl,by omega,by omega,_,_,_,_,u0,u1,_,rfl,by omega,by omega,_,_,_,_,v0,v1,?_⟩
  refine r.sep.call (N2 (m:=m+3*sc) iv (ap.mono J) ((hM i c hi d).mono (by omega)) (zx.mono (by omega)) (by omega) ?_)
  intro az A10 a9 ax av f ab G j
  refine ⟨_,_,_,_,rfl,r.sep.le_le j f,?_⟩
  refine j.call (N2 (m:=m+3*sc) (iu.mono f) (ak.mono (B0 J f)) ((hM l c hl d).mono (by omega)) (zy.mono (by omega)) (by omega) ?_)
  intro ar A11 a8 a7 a5 k ao a4 n
  refine ⟨_,_,_,_,rfl,j.le_le n k,?_⟩
  refine n.call (Es (m:=m+3*sc) (ab.mono k) ao ((hM i c hi d).mul zx) ((hM l c hl d).mul zy) (by omega) ?_)
  intro ac A12 an aj ag p aa au H
  have ad:=((r.next j f).next n k).next H p
  refine ⟨_,_,_,_,rfl,n.le_le H p,_,rfl,by omega,by omega,?_⟩
  refine ad.store hi d (w:=⟨ac,A12,an,aj⟩) aa ?_
  intro ay af ah E
  rw [wiS c (by omega)]
  refine ⟨⟨c+1,ag,af,by omega,rfl,B0 J (B0 f (B0 k p)),ah.congr (fun a b _ _=>?_) (fun _ _=>rfl),fun b hb=>by rw [E b hb];exact ko b hb⟩,by simp only [U7];omega⟩
  unfold C3h
  try dsimp only
  by_cases e:a=i/\b=c
  ·rw [iP e,iP (by omega),e.2]
  ·rw [iN e]
   by_cases e2:a=i/\b<c
   ·rw [iP e2,iP (by omega)]
   ·rw [iN e2,iN (by omega)]
 ·have ec:c=T.cols:=by omega
  refine ⟨_,rfl,_,_,_,r.c2,_,rfl,by omega,by omega,?_⟩
  refine r.sstore hi (w:=w6) (H1 _ _ _ _ J iq) ?_
  intro G aq am F
  refine hK G g9 aq x y q (B0 R J) hq ex ey N zx zy (am.congr (fun a b _ hb=>?_) (fun _ _=>rfl)) (fun b ai ae=>by rw [F b ae];exact ko b ai)
  by_cases e:a=i
  ·rw [iP ⟨e,by omega⟩,iP e]
  ·rw [iN (fun x=>e x.1),iN e]
def El.tab(X:El h g o be T M S n k w z L D){h' g' o':aE}{M':Nat->Nat->Int}{S':Nat->Rat}(t:Tab h' g' o' T M' S')(lg:g.le g')(ko:∀ b,¬ onT T b->o' b=o b):El h' g' o' be T M' S' n k w z L D:=by
 obtain ⟨e,a⟩:=X.hd
 exact ⟨t,X.rows,X.cols,⟨e,by rw [ko _ X.off];exact a⟩,X.off,Gn _ _ _ _ lg X.last⟩
def Pd(X:El h g o be T M S n k w z L D){i l:Nat}(hi:i<n)(hl:l<n)(hn:n<=10000)
 (hK:∀ h' o',El h' g o' be T (fun a b=>M (xch i l a) (xch i l b)) (fun a=>S (xch i l a)) n k w z L D->(∀ b,¬ onT T b->o' b=o b)->K (.tuple #[]) h'):aK prog Hf #[.pointer (some ⟨be,0,none⟩),I (i:Int),I (l:Int)] h K:=by
 refine A5i _ _ _ ?_
 unfold A5j
 have er:=X.rows
 have ec:=X.cols
 refine D8 (fun e=>?_) (fun e=>?_)
 ·obtain rfl:i=l:=by omega
  exact hK h o (X.tab (X.t.congr (fun a b _ _=>by rw [A0c,A0c]) (fun a _=>by rw [A0c])) (B5 _) fun _ _=>rfl) (fun _ _=>rfl)
 refine ⟨_,rfl,_,X.c2,?_⟩
 refine A3f X.t (by omega) (by omega) (by omega) ?_
 intro h1 J t1 d
 have X1:=X.tab t1 (B5 _) fun b c=>d b (fun e=>c (.inr (.inl e))) (fun e=>c (.inr (.inr e)))
 refine ⟨rfl,_,rfl,_,X1.c0,?_⟩
 refine ⟨fun L' q=>∃ (r:Nat) (m:aE),r<=n/\L'=[I (r:Int)]/\El q g m be T (fun a b=>if a<r then M (xch i l a) (xch i l b) else M (xch i l a) b) (fun a=>S (xch i l a)) n k w z L D/\∀ b,¬ onT T b->m b=o b,fun L' _=>n-(iAt L' 0).toNat,⟨0,J,by omega,rfl,X1.tab (t1.congr (fun a b _ _=>by rw [iN (by omega)]) (fun _ _=>rfl)) (B5 _) (fun _ _=>rfl),fun b c=>d b (fun e=>c (.inr (.inl e))) (fun e=>c (.inr (.inr e)))⟩,?_⟩
 clear X1 t1 d
 rintro y q ⟨r,m,hr,R,X2,ko2⟩
 obtain rfl:=sI1 R
 refine B8 (fun G=>?_) (fun V=>?_)
 ·have O:r<n:=by omega
  obtain ⟨u,B,H,Q⟩:=X2.t.at (i:=r) (j:=l) (by omega) (by omega)
  obtain ⟨v,C,E,F⟩:=X2.t.at (i:=r) (j:=i) (by omega) (by omega)
  rw [iN (aT r)] at B C
  refine ⟨_,rfl,_,X2.c2,O5 X2.t (by omega) ⟨_,_,_,rfl,_,rfl,by omega,by omega,_,_,_,_,H,Q,_,rfl,by omega,by omega,_,_,_,_,E,F,_,rfl,by omega,by omega,?_⟩⟩
  refine X2.t.store (i:=r) (j:=i) (by omega) (by omega) (w:=u) B ?_
  intro Z o3 N s
  refine ⟨_,rfl,by omega,by omega,?_⟩
  refine N.store (i:=r) (j:=l) (by omega) (by omega) (w:=v) C ?_
  intro h4 A W p
  have f:∀ b,¬ onT T b->A b=m b:=fun b c=>by rw [p b (fun e=>c (.inr (.inl e))),s b (fun e=>c (.inr (.inl e)))]
  rw [wiS r (by omega)]
  refine ⟨⟨r+1,A,by omega,rfl,X2.tab (W.congr (fun a b _ _=>?_) (fun _ _=>rfl)) (B5 _) f,fun b c=>by rw [f b c];exact ko2 b c⟩,by simp only [U7];omega⟩
  unfold C3h
  try dsimp only
  by_cases c1:a=r
  ·subst c1
   by_cases c2:b=l
   ·rw [iP ⟨rfl,c2⟩,iP (aH a),c2]
    have:xch i l l=i:=by unfold xch;rw [iN (by omega),iP rfl]
    rw [this]
   ·rw [iN (fun x=>c2 x.2)]
    by_cases c3:b=i
    ·rw [iP ⟨rfl,c3⟩,iP (aH a),c3,Ak]
    ·rw [iN (fun x=>c3 x.2),iN (aT a),iP (aH a)]
     have:xch i l b=b:=by unfold xch;rw [iN c3,iN c2]
     rw [this]
  ·rw [iN (fun x=>c1 x.1),iN (fun x=>c1 x.1)]
   by_cases c2:a<r
   ·rw [iP c2,iP (by omega)]
   ·rw [iN c2,iN (by omega)]
 ·exact hK q m (X2.tab (X2.t.congr (fun a b ha _=>by rw [iP (by omega)]) (fun _ _=>rfl)) (B5 _) fun _ _=>rfl) ko2
def A3s{R A0 F:Nat->Nat->Rat}{d:Nat->Rat}(X:El h g o be T M S n k w z L D)(gl:Gl g)(te:TE n k R M S z)(pd:PD n k A0 d F R)(hk:k<=n)(hn:n<=10000)(hM:∀ a b,a<n->b<n->ZB m (M a b))(hS:∀ a,a<n->Sz sc (S a))(hs1:1<=sc)(hb:m+3*sc+2<=6400000000)
 (hK1:∀ h' g' o' M' S' R' F',g.le g'->El h' g' o' be T M' S' n k w z L D->TE n k R' M' S' z->k<n->R' k k≠0->PD n k A0 d F' R'->(∀ a b,a<n->b<n->ZB (m+3*sc+2) (M' a b))->(∀ a,a<n->Sz (sc+sc) (S' a))->K (.bool true) h')
 (hK0:(∀ i j,i<n->j<n->R i j=0)->K (.bool false) h):aK prog Qx #[.pointer (some ⟨be,0,none⟩)] h K:=by
 refine A7s _ ?_
 unfold A9n
 have er:=X.rows
 have ec:=X.cols
 refine ⟨_,rfl,_,X.c1,?_⟩
 refine ⟨fun L' hp=>∃ i:Nat,k<=i/\i<=n/\L'=[I (i:Int)]/\hp=h/\∀ j,k<=j->j<i->R j j=0,fun L' _=>n-(iAt L' 0).toNat,⟨k,aC _,hk,rfl,rfl,fun j _ _=>by omega⟩,?_⟩
 rintro y hp ⟨i,O,a0,eL,rfl,hz⟩
 obtain rfl:=sI1 eL
 refine ⟨_,rfl,_,X.c0,B8 (fun a3=>?_) (fun a6=>?_)⟩
 ·have B:i<n:=by omega
  obtain ⟨u,iu,u0,u1⟩:=X.t.at (i:=i) (j:=i) (by omega) (by omega)
  refine ⟨_,rfl,_,X.c2,O5 X.t (by omega) ⟨_,_,_,rfl,_,rfl,by omega,by omega,_,_,_,_,u0,u1,?_⟩⟩
  refine F5 (iu.mono X.t.sep.le) ⟨_,rfl,Br.not (B8 (fun e=>?_) (fun e=>?_))⟩
  ·rw [wiS i (by omega)]
   refine ⟨⟨i+1,by omega,by omega,rfl,rfl,fun j a b=>?_⟩,by simp only [U7];omega⟩
   by_cases c:j=i
   ·rw [c];exact (te.zero O B B).1 e
   ·exact hz j a (by omega)
  ·refine ⟨_,rfl,_,X.c1,Pd X (by omega) B hn ?_⟩
   intro E o1 X1 ab
   have A:k<n:=by omega
   refine ⟨rfl,hK1 E g o1 _ _ _ _ (B5 _) X1 (te.swap O B) A ?_ (pd.swap A B (aC _) O) (fun a b ha hb=>(hM _ _ (R8 A B ha) (R8 A B hb)).mono (by omega)) (fun a ha=>(hS _ (R8 A B ha)).mono (by omega))⟩
   show R (xch k i k) (xch k i k)≠0
   rw [Ak]
   exact fun x=>e ((te.zero O B B).2 x)
 have ak:i=n:=by omega
 subst ak
 have N:∀ j,k<=j->j<i->R j j=0:=hz
 refine ⟨_,rfl,_,X.c1,?_⟩
 refine ⟨fun L' hx=>∃ a:Nat,k<=a/\a<=i/\L'=[I (a:Int)]/\hx=hp/\∀ b c,k<=b->b<a->b<c->c<i->R b c=0,fun L' _=>i-(iAt L' 0).toNat,⟨k,aC _,hk,rfl,rfl,fun b c _ _=>by omega⟩,?_⟩
 rintro y1 hx ⟨a,C,a1,ar,rfl,W⟩
 obtain rfl:=sI1 ar
 refine ⟨_,rfl,_,X.c0,B8 (fun az=>?_) (fun ax=>?_)⟩
 rotate_left
 ·have aj:a=i:=by omega
  subst aj
  refine hK0 fun b c hb H=>?_
  by_cases c1:b<k
  ·exact pd.zero b c hb H (.inl c1)
  ·by_cases c2:c<k
   ·exact pd.zero b c hb H (.inr c2)
   ·rcases Nat.lt_trichotomy b c with c3|c3|c3
    ·exact W b c (by omega) hb c3 H
    ·rw [c3];exact N c (by omega) H
    ·rw [pd.symm b c hb H];exact W c b (by omega) H c3 hb
 have f:a<i:=by omega
 have ew:∀ {j:Nat},j<i->B7 ((j:Int)+1)=((j+1:Nat):Int):=fun {j} hj=>by rw [C1]<;>omega
 rw [ew f]
 refine ⟨fun L' hy=>∃ b:Nat,a<b/\b<=i/\L'=[I (b:Int)]/\hy=hx/\∀ c,a<c->c<b->R a c=0,fun L' _=>i-(iAt L' 0).toNat,⟨a+1,by omega,by omega,rfl,rfl,fun c _ _=>by omega⟩,?_⟩
 rintro y2 hy ⟨b,a4,a2,an,rfl,aa⟩
 obtain rfl:=sI1 an
 refine ⟨_,rfl,_,X.c0,B8 (fun au=>?_) (fun av=>?_)⟩
 rotate_left
 ·have ai:b=i:=by omega
  subst ai
  refine ⟨⟨a+1,by omega,by omega,rfl,rfl,fun b' c E J h3 h4=>?_⟩,by simp only [U7];omega⟩
  by_cases e:b'=a
  ·rw [e];exact aa c (by omega) h4
  ·exact W b' c E (by omega) h3 h4
 have s:b<i:=by omega
 rw [ew s]
 obtain ⟨u,iu,u0,u1⟩:=X.t.at (i:=a) (j:=b) (by omega) (by omega)
 refine ⟨_,rfl,_,X.c2,O5 X.t (by omega) ⟨_,_,_,rfl,_,rfl,by omega,by omega,_,_,_,_,u0,u1,?_⟩⟩
 refine F5 (iu.mono X.t.sep.le) ⟨_,rfl,B8 (fun e=>?_) (fun e=>?_)⟩
 ·refine ⟨⟨b+1,by omega,by omega,rfl,rfl,fun c E J=>?_⟩,by simp only [U7];omega⟩
  by_cases e2:c=b
  ·rw [e2];exact (te.zero C f s).1 e
  ·exact aa c E (by omega)
 have ap:R a b≠0:=fun x=>e ((te.zero C f s).2 x)
 refine ⟨_,rfl,_,X.c2,?_⟩
 refine A61 (m:=m) (sc:=sc) X.t gl (i:=a) (l:=b) (by omega) (by omega) (by omega) (te.scale a C f) (te.scale b (by omega) s) (hS a f) (hS b s) (fun c1 c2 E J=>hM c1 c2 (by omega) (by omega)) hs1 (by omega) ?_
 intro E g1 o1 x y q l1 hq ex ey zq zx zy t1 ab
 have X1:=X.tab t1 l1 fun c H=>ab c (fun e=>H (.inr (.inl e))) (fun e=>H (.inr (.inr e)))
 have af:=te.addRow C f (show k<=b by omega) s hq ex ey
 have ao:=af.addCol C f (show k<=b by omega) s
 have al:=pd.merge f s C (by omega) (by omega)
 have aq:∀ c1 c2,c1<i->c2<i->ZB (m+3*sc+1) (if c1=a then M a c2*x+M b c2*y else M c1 c2):=fun c1 c2 E J=>by
  split
  ·exact ((hM a c2 f J).mul zx).add ((hM b c2 s J).mul zy)
  ·exact (hM c1 c2 E J).mono (by omega)
 have ad:∀ c,c<i->Sz (sc+sc) (if c=a then q else S c):=fun c H=>by
  split
  ·exact zq
  ·exact (hS c H).mono (by omega)
 generalize hM1e:(fun c1 c2=>if c1=a then M a c2*x+M b c2*y else M c1 c2)=M1 at *
 generalize hS1e:(fun c=>if c=a then q else S c)=S1 at *
 have ag:TE i k (Hu a b R) (fun c1 c2=>if c2=a then M1 c1 a+M1 c1 b else M1 c1 c2) S1 z:=by
  rw [<- hM1e];exact ao
 have G: ∀ c1 c2,c1<i->c2<i->ZB (m+3*sc+1) (M1 c1 c2):=fun c1 c2 E J=>by rw [<- hM1e];exact aq c1 c2 E J
 have Z: ∀ c,c<i->Sz (sc+sc) (S1 c):=fun c H=>by rw [<- hS1e];exact ad c H
 refine ⟨rfl,_,rfl,_,X1.c0,?_⟩
 refine ⟨fun L' hv=>∃ (r:Nat) (g2 o2:aE),r<=i/\L'=[I (r:Int)]/\g1.le g2/\El hv g2 o2 be T (fun c1 c2=>if c1<r/\c2=a then M1 c1 a+M1 c1 b else M1 c1 c2) S1 i k w z L D,fun L' _=>i-(iAt L' 0).toNat,⟨0,g1,o1,by omega,rfl,B5 _,X1.tab (t1.congr (fun c1 c2 _ _=>by rw [iN (by omega)]) (fun _ _=>rfl)) (B5 _) fun _ _=>rfl⟩,?_⟩
 rintro y3 hv ⟨r,g2,o2,hr,ac,l2,X2⟩
 obtain rfl:=sI1 ac
 refine B8 (fun ay=>?_) (fun aw=>?_)
 ·have V:r<i:=by omega
  obtain ⟨p,ip,p0,p1⟩:=X2.t.at (i:=r) (j:=a) (by omega) (by omega)
  obtain ⟨v,iv,v0,v1⟩:=X2.t.at (i:=r) (j:=b) (by omega) (by omega)
  rw [iN (by omega)] at ip iv
  refine ⟨_,rfl,_,X2.c2,O5 X2.t (by omega) ⟨_,_,_,rfl,_,rfl,by omega,by omega,_,_,_,_,p0,p1,_,rfl,by omega,by omega,_,_,_,_,v0,v1,?_⟩⟩
  refine X2.t.sep.call (Es (m:=m+3*sc+1) ip iv (G r a V f) (G r b V s) (by omega) ?_)
  intro x3 A3 n3 c3 g3 l3 i3 h3 s3
  refine ⟨_,_,_,_,rfl,X2.t.sep.le_le s3 l3,_,rfl,by omega,by omega,?_⟩
  refine (X2.t.next s3 l3).store (i:=r) (j:=a) (by omega) (by omega) (w:=⟨x3,A3,n3,c3⟩) i3 ?_
  intro h4 o4 t4 am
  rw [ew V]
  refine ⟨⟨r+1,g3,o4,by omega,rfl,B0 l2 l3,(X2.next s3 l3).tab (t4.congr (fun c1 c2 _ _=>?_) (fun _ _=>rfl)) (B5 _) fun c H=>am c (fun e=>H (.inr (.inl e)))⟩,by simp only [U7];omega⟩
  unfold C3h
  try dsimp only
  by_cases Q:c1=r/\c2=a
  ·rw [iP Q,iP (by omega),Q.1]
  ·rw [iN Q]
   by_cases e2:c1<r/\c2=a
   ·rw [iP e2,iP (by omega)]
   ·rw [iN e2,iN (by omega)]
 ·have ah:r=i:=by omega
  subst ah
  have X3:El hv g2 o2 be T (fun c1 c2=>if c2=a then M1 c1 a+M1 c1 b else M1 c1 c2) S1 r k w z L D:=X2.tab (X2.t.congr (fun c1 c2 E _=>by
   by_cases Q:c2=a
   ·rw [iP ⟨by omega,Q⟩,iP Q]
   ·rw [iN (fun x=>Q x.2),iN Q]) (fun _ _=>rfl)) (B5 _) fun _ _=>rfl
  have A:k<r:=by omega
  refine ⟨_,rfl,_,X3.c1,Pd X3 A f hn ?_⟩
  intro h5 o5 X5 a5
  have ae:∀ c1 c2,c1<r->c2<r->ZB (m+3*sc+2) (if c2=a then M1 c1 a+M1 c1 b else M1 c1 c2):=fun c1 c2 E J=>by
   split
   ·exact (G c1 a E f).add (G c1 b E s)
   ·exact (G c1 c2 E J).mono (by omega)
  refine ⟨rfl,hK1 h5 g2 o5 _ _ _ _ (B0 l1 l2) X5 (ag.swap C f) A ?_ (al.swap A f (aC _) C) (fun c1 c2 E J=>ae _ _ (R8 A f E) (R8 A f J)) (fun c H=>Z _ (R8 A f H))⟩
  show Hu a b R (xch k a k) (xch k a k)≠0
  rw [Ak]
  unfold Hu
  rw [iP rfl,iP rfl,iP rfl,N a C f,N b (by omega) s,pd.symm b a s f]
  intro x
  exact ap (by grind)
end
def sgS(s:Nat):Nat->Nat
 | 0=>s
 | k+1=>sgS s k+sgS s k
def sgM(m s:Nat):Nat->Nat
 | 0=>m
 | k+1=>2*(sgM m s k+3*sgS s k+2)+1
def A0o(m s:Nat):∀ n k,k<=n->sgM m s k<=sgM m s n:=by
 intro n
 induction n with
 | zero=>intro k h;rw [show k=0 by omega];exact aC _
 | succ n ih=>
  intro k h
  by_cases c:k=n+1
  ·rw [c];exact aC _
  ·have:=ih k (by omega)
   rw [show sgM m s (n+1)=2*(sgM m s n+3*sgS s n+2)+1 from rfl]
   omega
def C3s(s:Nat):∀ k,sgS s k<=sgM s s k:=by
 intro k
 induction k with
 | zero=>exact aC _
 | succ k ih=>
  rw [show sgM s s (k+1)=2*(sgM s s k+3*sgS s k+2)+1 from rfl,show sgS s (k+1)=sgS s k+sgS s k from rfl]
  omega
def C1l{s:Nat}(h:1<=s):∀ k,1<=sgS s k:=by
 intro k
 induction k with
 | zero=>exact h
 | succ k ih=>rw [show sgS s (k+1)=sgS s k+sgS s k from rfl];omega
def Kf{d d':Nat->Rat}: ∀ n,(∀ m,m<n->d m=d' m)->Bl d n=Bl d' n:=by
 intro n
 induction n with
 | zero=>exact fun _=>rfl
 | succ n ih=>intro h;rw [Bl,Bl,ih fun m a=>h m (by omega),h n (by omega)]
def Kg{d d':Nat->Rat}: ∀ n,(∀ m,m<n->d m=d' m)->Ej d n=Ej d' n:=by
 intro n
 induction n with
 | zero=>exact fun _=>rfl
 | succ n ih=>intro h;rw [Ej,Ej,ih fun m a=>h m (by omega),h n (by omega)]
def B7p(d:Nat->Rat)(k:Nat):∀ j,Bl (fun m=>if m<k then d m else 0) (k+j)=Bl d k:=by
 intro j
 induction j with
 | zero=>exact Kf k fun m a=>iP a
 | succ j ih=>
  rw [<- Nat.add_assoc,Bl,ih,iN (show ¬ k+j<k by omega),iN (by decide +kernel),Nat.add_zero]
def B7r(d:Nat->Rat)(k:Nat):∀ j,Ej (fun m=>if m<k then d m else 0) (k+j)=Ej d k:=by
 intro j
 induction j with
 | zero=>exact Kg k fun m a=>iP a
 | succ j ih=>
  rw [<- Nat.add_assoc,Ej,ih,iN (show ¬ k+j<k by omega),iN (by decide +kernel),Nat.add_zero]
def InI(h:aE)(be:Nat)(T:Tb)(E:Nat->Rat)(q B k:Nat)(d:Nat->Rat)(hp:aE):Prop:=
 ∃ (g o:aE) (M:Nat->Nat->Int) (S:Nat->Rat) (R F:Nat->Nat->Rat) (w:IV) (z:Int),h.le g/\El hp g o be T M S q k w z (.slice none 0 0) (.slice none 0 0)/\TE q k R M S z/\PD q k (mtx E q) d F R/\(∀ a b,a<q->b<q->ZB (sgM B B k) (M a b))/\ZB (sgM B B k) z/\∀ a,a<q->Sz (sgS B k) (S a)
section
variable {h:aE} {K:VP} {A:Option aF} {n cap m:Nat} {r c:Int} {ls:Nat->List UInt8} {E:Nat->Rat}
def A3x(gl:Gl h)(rq:aM RQr h A (n*n) E)(hcap:n*n<=cap)(hn1:1<=n)(hn:n<=64)(hs:∀ i,i<n*n->Sz m (E i))(hb:bnd n m<=100000000)(sy:A5r n (mtx E n))
 (hK:∀ h' be T,InI h be T E n (bnd n m) 0 (fun _=>0) h'->K (.pointer (some ⟨be,0,none⟩)) h'):aK prog T7 #[.slice A (n*n) cap,I (n:Int)] h K:=by
 have H:n*n<=64*64:=aR hn hn
 have M:bnd n m=1+n*m+m:=rfl
 refine Ee _ _ _ _ ?_
 unfold Dq
 refine Gm (m:=m) gl rq hcap hn1 (by omega) hn1 (by omega) hs (by omega) ?_
 intro V R W T q t1 L J
 refine ⟨_,rfl,?_⟩
 refine t1.sep.call (Db (by decide) (by decide) ?_)
 intro u A2 B c2 w z N S r
 have d:=t1.next r z
 refine ⟨_,_,_,_,rfl,Wg ?_⟩
 intro be c
 have g:∀ {o y l:aE} {k x b},Sep o y l->l k=some x->o b=none->k≠b:=by
  rintro o y l k x b s e hb rfl
  rw [s.own k x e] at hb;cases hb
 have f:¬ onT T be:=by
  obtain ⟨⟨X,D⟩,⟨y2,F⟩,⟨Z,G⟩⟩:=d.own
  rintro (rfl|rfl|rfl)
  ·exact g d.sep D c rfl
  ·exact g d.sep F c rfl
  ·exact g d.sep G c rfl
 have Q:=d.sep.new c (.cells (Value.agg #[I (n:Int),I (0:Int),.pointer (some ⟨T.bt,0,none⟩),.bool u,.slice A2 B c2,.slice none 0 0,.slice none 0 0]).cells Ge)
 have X3:El _ w _ be T (A0k E n) (Uf E n) n 0 ⟨u,A2,B,c2⟩ 1 (.slice none 0 0) (.slice none 0 0):=⟨d.keep Q (B5 _) (fun k x e _=>by rw [C0 _ _ (g d.sep e c)];exact e),L,J,⟨Ge,C2 _ _ _⟩,f,N⟩
 have C:∀ i,i<n->∀ j,j<n->Sz m (E (i*n+j)):=fun i O j t=>hs _ (L8 O t)
 exact ⟨_,rfl,hK _ be T ⟨w,_,_,_,_,_,_,_,B0 q z,X3,TE.start (fun i j _ t=>B28 E n i t) (fun i _=>Np E n i),PD.start _ sy,fun a b p hb=>B27 (C a p) hb,ZB.one (show 1<=bnd n m by omega),fun a p=>A0j (C a p)⟩⟩
def A25(gl:Gl h)(rv':aM SSr h A n ls)(hn:n<=1000000)(hl:LL n ls)(hs:∀ i,i<n->Sz m (rv (ls i)))(hb:∀ q,MOk r c n ls q q->sgM (bnd q m) (bnd q m) q<=100000000)
 (hK1:∀ q,bB r c n ls q->∀ d F,Diag q (mtx (rvs ls) q) d F->∀ h',h.le h'->K (.tuple #[I (Bl d q:Int),I (Uv d q:Int),I (Ej d q:Int),I 0]) h')
 (hK0:∀ e,SqE r c n ls e->∀ h',h.le h'->K (.tuple #[I 0,I 0,I 0,I e]) h'):aK prog Kn #[Dr r c A n cap] h K:=by
 refine A7v _ _ _ _ _ ?_
 unfold A9q
 refine Fk gl rv' hn hl ?_ (fun e he u l1=>⟨_,_,_,_,rfl,F8 (fun _=>hK0 e he u l1) (fun e0=>by rcases he with ⟨_,x⟩|⟨_,_,x⟩<;>omega)⟩)
 intro q sq b u own
 obtain ⟨mk,st⟩:=id sq
 have af:=hb q mk
 have:=mk.r1;have:=mk.r2
 obtain ⟨rfl,rfl,_,_,_,_,rfl,ak⟩:=id mk
 refine ⟨_,_,_,_,rfl,F8 (fun s=>absurd rfl s) (fun _=>?_)⟩
 have ac:1<=bnd q m:=by unfold bnd;omega
 have W:bnd q m<=100000000:=Nat.le_trans (A0o (bnd q m) (bnd q m) q 0 (by omega)) af
 refine A3x (m:=m) (gl.mono own.le) (own.vis H1) (aC _) (by omega) (by omega) hs W st.symm ?_
 intro h2 be T I0
 generalize bnd q m=B at *
 refine ⟨_,rfl,fun L hp=>∃ (k:Nat) (d:Nat->Rat),k<=q/\L=[I (Bl d k:Int),I (Ej d k:Int)]/\Bl d k+Ej d k=k/\InI u be T (rvs ls) q B k d hp,fun L _=>q-((iAt L 0).toNat+(iAt L 1).toNat),⟨0,_,by omega,rfl,rfl,I0⟩,?_⟩
 clear I0
 rintro E neg hp ⟨k,d,hk,eL,am,g,o,M,S,R,F,w,z,lg,X,te,pd,hM,hz,hS⟩
 simp only [aJ,aI,true_and,and_true] at eL
 obtain ⟨rfl,rfl⟩:=eL
 have l0:=B0 own.le lg
 have ao:sgM B B k<=sgM B B q:=A0o B B q k hk
 have an:=C3s B k
 have ae:=C1l ac k
 refine A3s (m:=sgM B B k) (sc:=sgS B k) X (gl.mono l0) te pd hk (by omega) hM hS ae (by omega) ?_ ?_
 ·intro h3 g3 o3 M3 S3 R3 F3 l3 X3 p f s ad l N
  have aj:2*(sgM B B k+3*sgS B k+2)+1<=sgM B B q:=A0o B B q (k+1) f
  refine ⟨_,rfl,?_⟩
  show Br true _ _
  refine ⟨_,rfl,_,X3.c1,_,rfl,_,X3.c1,?_⟩
  have Z:=B0 l0 l3
  have al:=p.scale k (aC _) f
  refine B4t (m:=sgM B B k+3*sgS B k+2) X3 (gl.mono Z) f f (l k k f f) (hz.mono (by omega)) ((N k f).mono (by omega)) (U6 p.ne (l k k f f) (hz.mono (by omega))) (by omega) (by omega) ?_
  intro w4 h4 g4 l4 s4 ai i4
  have ev:aU (M3 k k) z/S3 k=R3 k k:=by
   rw [aX,p.val k k (aC _) f f,C6b (J7 p.ne) (by grind)]
  rw [ev] at i4
  refine ⟨_,_,_,_,_,_,_,_,rfl,ai,?_⟩
  refine Uj (H1 _ _ _ _ s4.le i4) ⟨_,rfl,B5 _,?_⟩
  have X4:=X3.next s4 l4
  have adv:∀ {K':VP},(∀ h',InI u be T (rvs ls) q B (k+1) (fun m=>if m=k then R3 k k else d m) h'->K' (.tuple #[]) h')->aK prog Cw #[.pointer (some ⟨be,0,none⟩)] h4 K':=by
   intro K' kk
   refine Sc (m:=sgM B B k+3*sgS B k+2) X4 f (by omega) p.ne (fun a b _ C hb=>l a b C hb) (hz.mono (by omega)) (by omega) (by omega) ?_
   intro h5 g5 o5 w5 l5 X5 _
   have aa:TE q (k+1) (fun i j=>R3 i j-R3 i k*(R3 k j/R3 k k)) (fun a b=>if k<a then (M3 k k*M3 a b-M3 a k*M3 k b).tdiv z else M3 a b) S3 (M3 k k):=(p.adv f s).congr (fun _ _ _ _ _=>rfl) (fun i j hi _ _=>by rw [iP (show k<i by omega)]) (fun _ _ _=>rfl)
   refine kk h5 ⟨g5,o5,_,S3,_,_,w5,_,B0 lg (B0 l3 (B0 l4 l5)),X5,aa,ad.adv f s,fun a b C hb=>?_,(l k k f f).mono (show _<=2*(sgM B B k+3*sgS B k+2)+1 by omega),fun a C=>N a C⟩
   show ZB (2*(sgM B B k+3*sgS B k+2)+1) _
   split
   ·exact (((l k k f f).mul (l a b C hb)).sub ((l a k C f).mul (l k b f hb))).tdivS.mono (by omega)
   ·exact (l a b C hb).mono (by omega)
  have e1:Bl (fun m=>if m=k then R3 k k else d m) k=Bl d k:=Kf k fun m hm=>iN (by omega)
  have e2:Ej (fun m=>if m=k then R3 k k else d m) k=Ej d k:=Kg k fun m hm=>iN (by omega)
  have V:Bl (fun m=>if m=k then R3 k k else d m) (k+1)=Bl d k+if 0<R3 k k then 1 else 0:=by rw [Bl,e1,iP rfl]
  have Q:Ej (fun m=>if m=k then R3 k k else d m) (k+1)=Ej d k+if R3 k k<0 then 1 else 0:=by rw [Ej,e2,iP rfl]
  have J:0<(R3 k k).num.sign↔0<R3 k k:=by
   have u:=Yr (q:= -(R3 k k))
   rw [Rat.neg_num,Int.sign_neg] at u
   constructor
   ·intro x;have:=u.1 (by omega);grind
   ·intro x;have:=u.2 (by grind);omega
  have G:B7 ((Bl d k:Int)+1)=((Bl d k+1:Nat):Int):=by rw [C1]<;>omega
  have O:B7 ((Ej d k:Int)+1)=((Ej d k+1:Nat):Int):=by rw [C1]<;>omega
  refine B8 (fun ab=>?_) (fun ah=>?_)
  ·have E:=J.1 ab
   rw [iP E] at V
   rw [iN (by grind)] at Q
   refine adv fun h5 i5=>⟨rfl,⟨k+1,_,f,by rw [G,V,Q];rfl,by omega,i5⟩,?_⟩
   rw [G]
   show q-(((Bl d k+1:Nat):Int).toNat+((Ej d k:Nat):Int).toNat)<q-(((Bl d k:Nat):Int).toNat+((Ej d k:Nat):Int).toNat)
   omega
  ·have y: ¬ 0<R3 k k:=fun x=>ah (J.2 x)
   rw [iN y] at V
   rw [iP (by grind)] at Q
   refine adv fun h5 i5=>⟨rfl,⟨k+1,_,f,by rw [O,V,Q];rfl,by omega,i5⟩,?_⟩
   rw [O]
   show q-(((Bl d k:Nat):Int).toNat+((Ej d k+1:Nat):Int).toNat)<q-(((Bl d k:Nat):Int).toNat+((Ej d k:Nat):Int).toNat)
   omega
 ·intro ag
  refine ⟨_,rfl,?_⟩
  show Br false _ _
  have D:=pd.done hk ag
  have c1:=B7p d k (q-k)
  have c2:=B7r d k (q-k)
  rw [show k+(q-k)=q by omega] at c1 c2
  have c3:=C5j (fun m=>if m<k then d m else 0) q
  have H:=hK1 q sq _ _ D hp (B0 l0 X.t.sep.le)
  rw [c1,c2,show Uv (fun m=>if m<k then d m else 0) q=q-Bl d k-Ej d k by omega] at H
  rw [show B7 ((q:Int)-(Bl d k:Int))=((q-Bl d k:Nat):Int) by rw [C1]<;>omega,show B7 (((q-Bl d k:Nat):Int)-(Ej d k:Int))=((q-Bl d k-Ej d k:Nat):Int) by rw [C1]<;>omega]
  exact H
end
def SqE.not{r c:Int}{n q:Nat}{ls:Nat->List UInt8}{e:Int}(sq:bB r c n ls q)(x:SqE r c n ls e):False:=by
 rcases x with ⟨x,_⟩|⟨_,x,_⟩
 ·exact x ⟨_,_,sq.1⟩
 ·exact x ⟨_,sq⟩
section
variable {h:aE} {lA cA tA:Option aF} {ln lc cn cc tn tc:Nat} {ls cs ts:Nat->List UInt8}
end
structure Pa (h0:aE) (xa xb:List HV) (aA:Option aF) (ac:Nat) (bA:Option aF) (bc:Nat) (lits:List (Option aF × HV)) (hp:aE):Prop where
 ex:∃ g o,h0.le g/\Sep hp g o/\OwnSl o G7 aA ac xa/\OwnSl o G7 bA bc xb/\(∀ b,aA=some ⟨b,0,none⟩->bA≠some ⟨b,0,none⟩)/\∀ x∈lits,SlF g x.1 [x.2]
section
variable {h0 hp:aE} {xa xb:List HV} {aA bA:Option aF} {ac bc:Nat} {lits:List (Option aF × HV)}
def Pa.le(X:Pa h0 xa xb aA ac bA bc lits hp):h0.le hp:=by
 obtain ⟨g,o,l,s,_⟩:=X.ex
 exact B0 l s.le
def Pa.lit(X:Pa h0 xa xb aA ac bA bc lits hp){y:HV}{K:VP}(k:∀ B hp',hp.le hp'->Pa h0 xa xb aA ac bA bc ((B,y)::lits) hp'->K (.slice B 1 1) hp'):wpH prog (Instr.buildSlice N9 1 #[(0,.slice y.A y.n y.c)]) K hp:=by
 obtain ⟨g,o,l,s,q,p,d,j⟩:=X.ex
 refine Og B9g (vs:=[.slice y.A y.n y.c]) (fun w m=>by rw [List.mem_singleton.1 m];rfl) rfl (by simp) rfl ?_
 intro b f
 have e:([Value.slice y.A y.n y.c].flatMap (fun v=>v.cells.toList))=[y].flatMap enc:=rfl
 rw [e]
 have i:g b=none:=s.free f
 refine k _ _ (Heap.le_put _ f) ⟨_,_,B0 l (Heap.le_put _ i),s.vis f _,q,p,d,fun x a=>?_⟩
 rcases List.mem_cons.1 a with rfl|a
 ·have r:RowB (g.put b (.cells ([y].flatMap enc).toArray G7)) b [y]:=⟨G7,[],by rw [C2,List.append_nil]⟩
  exact r.slF (B5 _)
 ·exact (j x a).mono (Heap.le_put _ i)
def Pa.swap(X:Pa h0 xa xb aA ac bA bc lits hp):Pa h0 xb xa bA bc aA ac lits hp:=by
 obtain ⟨g,o,l,s,c,a,d,f⟩:=X.ex
 exact ⟨g,o,l,s,a,c,fun b e i=>d b i e,f⟩
def Pa.app(X:Pa h0 xa xb aA ac bA bc lits hp){B:Option aF}{y:HV}(hm:(B,y)∈lits){n:Nat}(hn:n=xa.length)(hs:n<=1000){K:VP}(k:∀ A' c' hp',Pa h0 (xa++[y]) xb A' c' bA bc lits hp'->K (.slice A' (n+1) c') hp'):wpH prog (aQ #[N9,N9] N9 #[.slice aA n ac,.slice B 1 1]) K hp:=by
 obtain ⟨g,o,l,s,G,t,d,p⟩:=X.ex
 refine OwnSl.app (ty:=N9) B9g s G hn (ys:=[y]) rfl (by simp) ((p _ hm).mono s.le) (by rw [<- hn];simp;omega) (by rw [<- hn];simp;omega) ?_
 intro A' c' w E F r C f q
 rw [<- hn]
 have u:∀ b,bA=some ⟨b,0,none⟩->aA≠some ⟨b,0,none⟩:=fun b e a=>d b a e
 refine k A' c' w ⟨E,F,B0 l r,C,f,t.keep fun b x D m=>(q b x m (u b D)).1,fun b e a=>?_,fun x m=>(p x m).mono r⟩
 rcases t.2 with ⟨_,A⟩|⟨j,z,c,i,_⟩
 ·rw [A] at a;cases a
 ·have:j=b:=by rw [c] at a;simpa using a
  subst this
  exact (q j _ i (u j c)).2 e
def OwnSl.lay{α:Type}[E:Enc α]{h g o:aE}{e:TypeId}{A:Option aF}{c:Nat}{xs:List α}(s:Sep h g o)(w:OwnSl o e A c xs):∃ g2 o2,g.le g2/\Sep h g2 o2/\SlF g2 A xs/\∀ k x,A≠some ⟨k,0,none⟩->o k=some x->o2 k=some x:=by
 have i:Heap.le (fun k=>if A=some ⟨k,0,none⟩ then none else o k) o:=fun k x e=>by
  dsimp only at e
  by_cases c:A=some ⟨k,0,none⟩
  ·rw [iP c] at e;cases e
  ·rw [iN c] at e;exact e
 obtain ⟨g2,n,j⟩:=s.give i
 refine ⟨g2,_,n,j,?_,fun k x a m=>by
  show (if A=some ⟨k,0,none⟩ then none else o k)=some x
  rw [iN a];exact m⟩
 by_cases a:xs=[]
 ·rw [a];exact SlF.nil
 ·obtain ⟨b,rfl,f,ex,p⟩:=w.rowB a
  have l:g2 b=some (.cells (xs.flatMap enc++ex).toArray f):=by
   rw [<- j.rest b (by show (if some (⟨b,0,none⟩:aF)=some ⟨b,0,none⟩ then none else o b)=none;rw [iP rfl])]
   exact s.own b _ p
  have r:RowB (V7.put b (.cells (xs.flatMap enc++ex).toArray f)) b xs:=⟨f,ex,C2 _ _ _⟩
  refine r.slF fun k x d=>?_
  by_cases c:k=b
  ·subst c
   rw [C2] at d
   rw [l];exact d
  ·rw [C0 _ _ c] at d;cases d
def Pa.lay(X:Pa h0 xa xb aA ac bA bc lits hp):∃ g o,h0.le g/\Sep hp g o/\SlF g aA xa/\SlF g bA xb:=by
 obtain ⟨g,o,l,s,r,k,d,_⟩:=X.ex
 obtain ⟨z,t,p,f,n,j⟩:=r.lay s
 have a:OwnSl t G7 bA bc xb:=k.keep fun b x y i=>j b x (fun e=>d b e y) i
 obtain ⟨u,m,c,w,q,_⟩:=a.lay f
 exact ⟨u,m,B0 l (B0 p c),w,n.mono c,q⟩
end
def Cr(g o:aE)(cA:Option aF)(cc m l:Nat)(N:Nat->Nat->Rat):Prop:=
 ∃ (hd:List HV) (rb:Nat->Nat),OwnSl o G7 cA cc hd/\hd.length=m/\(∀ i,i<m->∃ c,hd[i]? = some ⟨some ⟨rb i,0,none⟩,l,c⟩/\l<=c)/\(∀ i,i<m->cA≠some ⟨rb i,0,none⟩)/\(∀ i j,i<m->j<m->rb i=rb j->i=j)/\∀ i,i<m->∃ xs:List QV,RowB o (rb i) xs/\xs.length=l/\Row NQr g xs l (N i)
def Cr.mt{hp g o:aE}{cA:Option aF}{cc m l:Nat}{N:Nat->Nat->Rat}(X:Cr g o cA cc m l N)(s:Sep hp g o)(hm:1<=m):∃ bo rb,cA=some ⟨bo,0,none⟩/\Mt hp g o bo rb m l N:=by
 obtain ⟨j,rb,k,a,p,f,b,c⟩:=X
 obtain ⟨bo,rfl,d⟩:=k.rowB (by rintro rfl;simp at a;omega)
 exact ⟨bo,rb,rfl,s,⟨j,d,a,p⟩,fun i n e=>f i n (by rw [e]),b,c⟩
def Cr.push{hp g o:aE}{cA:Option aF}{cc m l:Nat}{N:Nat->Nat->Rat}(X:Cr g o cA cc m l N)(s:Sep hp g o)(hm:m<=10000){be:Nat}(hbe:hp be=none){B:Option aF}{d:Nat}(row:aM NQr g B l (N m))(hl:1<=l)(hl2:l<=10000){K:Option aF->Nat->Nat->aE->Prop}
 (k:∀ A' c' h' g' o',g.le g'->Sep h' g' o'->Cr g' o' A' c' (m+1) l N->K A' (m+1) c' h'):
 wpH prog (aQ #[O4,O4] O4 #[.slice (some ⟨be,0,none⟩) 0 0,.slice B l d]) (fun v hp24=>∃ (a:Option aF) (b c:Nat),v= .slice a b c/\wpH prog (Instr.buildSlice N9 1 #[(0,.slice a b c)]) (fun v2 hp25=>∃ (a2:Option aF) (b2 c2:Nat),v2= .slice a2 b2 c2/\wpH prog (aQ #[N9,N9] N9 #[.slice cA m cc,.slice a2 b2 c2]) (fun v3 hp26=>∃ (a3:Option aF) (b3 c3:Nat),v3= .slice a3 b3 c3/\K a3 b3 c3 hp26) hp25) hp24) (hp.put be (.cells #[] E9)):=by
 obtain ⟨hd,r,ow,f,H,D,J,t⟩:=X
 obtain ⟨w,sx,G,qx⟩:=row
 have O:=s.vis hbe (.cells #[] E9)
 have C:g.le (g.put be (.cells #[] E9)):=Heap.le_put _ (s.free hbe)
 refine Wm Sk O (ys:=w) (by omega) (by rintro rfl;simp at G;omega) (sx.mono (B0 C O.le)) (by omega) (by omega) ?_
 intro b2 c2 h2 g2 o2 y Q E l2 s2 ag T
 refine ⟨_,_,_,rfl,?_⟩
 have n:∀ q x,o q=some x->q≠b2:=by
  rintro q x e rfl
  have:=O.ole q x e
  rw [this] at E;cases E
 have ab:OwnSl o2 G7 cA cc hd:=ow.keep fun q x _ e=>by rw [Q,C0 _ _ (n q x e)];exact e
 have ae:cA≠some ⟨b2,0,none⟩:=by
  intro hA
  rcases ow.2 with ⟨_,h0⟩|⟨b',af,u,Z,_⟩
  ·rw [hA] at h0;cases h0
  ·rw [hA] at u
   simp only [Option.some.injEq,Addr.mk.injEq,and_true] at u
   exact n _ _ Z u.symm
 refine O3 (ty:=N9) B9g s2 ab f.symm (y:=(⟨some ⟨b2,0,none⟩,l,c2⟩:HV)) rfl (by decide) (by rw [f];omega) (by rw [f];omega) ?_
 intro A3 c3 h3 g3 o3 l3 s3 ac S
 have V:∀ i,i<m->∃ x,o (r i)=some x:=fun i A=>by
  obtain ⟨w,⟨e,ex,hb⟩,_⟩:=t i A;exact ⟨_,hb⟩
 obtain ⟨e5,W,aa⟩:=id T
 have k2:=S b2 _ aa ae
 rw [f]
 have p:=B0 C (B0 l2 l3)
 refine k A3 c3 h3 g3 o3 p s3 ⟨_,fun i=>if i=m then b2 else r i,ac,by rw [aV,f];rfl,fun i A=>?_,fun i A=>?_,fun i j A hj h=>?_,fun i A=>?_⟩
 ·show ∃ c,(hd++[(⟨some ⟨b2,0,none⟩,l,c2⟩:HV)])[i]? = some ⟨some ⟨if i=m then b2 else r i,0,none⟩,l,c⟩/\l<=c
  by_cases e:i=m
  ·subst e
   exact ⟨c2,by rw [aO (by omega),f,iP rfl];simp,by omega⟩
  ·obtain ⟨c,h1,h2⟩:=H i (by omega)
   exact ⟨c,by rw [aP (by omega),iN e];exact h1,h2⟩
 ·show A3≠some ⟨if i=m then b2 else r i,0,none⟩
  by_cases e:i=m
  ·rw [iP e];exact k2.2
  ·rw [iN e]
   obtain ⟨x,z⟩:=V i (by omega)
   exact (S (r i) x (by rw [Q,C0 _ _ (n _ _ z)];exact z) (D i (by omega))).2
 ·have h':(if i=m then b2 else r i)=(if j=m then b2 else r j):=h
  by_cases M:i=m
  ·by_cases L:j=m
   ·omega
   ·rw [iP M,iN L] at h'
    obtain ⟨x,z⟩:=V j (by omega)
    exact absurd h'.symm (n _ _ z)
  ·by_cases L:j=m
   ·rw [iN M,iP L] at h'
    obtain ⟨x,z⟩:=V i (by omega)
    exact absurd h' (n _ _ z)
   ·rw [iN M,iN L] at h'
    exact J i j (by omega) (by omega) h'
 ·show ∃ w:List QV,RowB o3 (if i=m then b2 else r i) w/\w.length=l/\Row NQr g3 w l (N i)
  by_cases e:i=m
  ·subst e
   rw [iP rfl]
   exact ⟨w,⟨e5,W,k2.1⟩,G,qx.mono R6 p⟩
  ·rw [iN e]
   obtain ⟨ys,⟨ey,ad,F⟩,R,qy⟩:=t i (by omega)
   refine ⟨ys,⟨ey,ad,?_⟩,R,qy.mono R6 p⟩
   exact (S (r i) _ (by rw [Q,C0 _ _ (n _ _ F)];exact F) (D i (by omega))).1
def GsA(h1:aE)(M:Nat->Nat->Rat)(k l i:Nat)(aA:Option aF)(ac:Nat)(bA:Option aF)(bc:Nat)(hp:aE):Prop:=
 ∃ (xa xb:List HV),Pa h1 xa xb aA ac bA bc [] hp/\xa.length=i/\xb.length=i/\(∀ t,t<i->∃ s,xa[t]? = some s/\s.n=k/\k<=s.c/\aM NQr h1 s.A k (M t))/\∀ t,t<i->∃ s,xb[t]? = some s/\s.n=l/\l<=s.c/\aM NQr h1 s.A l (fun j=>M t (k+j))
def GsB(h1:aE)(M:Nat->Nat->Rat)(k l i:Nat)(aA bA cA:Option aF)(cc:Nat)(hp:aE):Prop:=
 ∃ g o,h1.le g/\Sep hp g o/\RowsV g aA k k M/\RowsV g bA k l (fun t j=>M t (k+j))/\Cr g o cA cc i l (fun t j=>M (k+t) (k+j))
def GsI(h1:aE)(M:Nat->Nat->Rat)(k l:Nat)(L:List Value)(hp:aE):Prop:=
 (∃ (i:Nat) (aA:Option aF) (ac:Nat) (bA:Option aF) (bc:Nat),i<k/\L=[.slice aA i ac,.slice bA i bc,.slice none 0 0,I (i:Int)]/\GsA h1 M k l i aA ac bA bc hp)\/
 ∃ (i:Nat) (aA:Option aF) (ac:Nat) (bA:Option aF) (bc:Nat) (cA:Option aF) (cc:Nat),i<=l/\L=[.slice aA k ac,.slice bA k bc,.slice cA i cc,I ((k+i:Nat):Int)]/\GsB h1 M k l i aA bA cA cc hp
section
variable {h1 hp:aE} {M:Nat->Nat->Rat} {k l i:Nat} {aA bA cA:Option aF} {ac bc cc:Nat}
def GsA.inv(X:GsA h1 M k l i aA ac bA bc hp)(hi:i<=k):GsI h1 M k l [.slice aA i ac,.slice bA i bc,.slice none 0 0,I (i:Int)] hp:=by
 by_cases e:i<k
 ·exact .inl ⟨i,aA,ac,bA,bc,e,rfl,X⟩
 ·obtain rfl:i=k:=by omega
  obtain ⟨z,w,P,p,n,m,q⟩:=X
  obtain ⟨g,o,j,s,r,y⟩:=P.lay
  exact .inr ⟨0,aA,ac,bA,bc,none,0,by omega,rfl,g,o,j,s,⟨z,r,p,fun t f=>by obtain ⟨u,a,b,c,d⟩:=m t f;exact ⟨u,a,b,c,d.mono R6 j⟩⟩,⟨w,y,n,fun t f=>by obtain ⟨u,a,b,c,d⟩:=q t f;exact ⟨u,a,b,c,d.mono R6 j⟩⟩,[],fun _=>0,OwnSl.nil,rfl,(fun t f=>by omega),(fun t f=>by omega),(fun t _ f=>by omega),fun t f=>by omega⟩
end
section
variable {h:aE} {K:VP} {A:Option aF} {n cap m:Nat} {r c:Int} {ls:Nat->List UInt8}
def A6r{z:Int}(rv':aM SSr h A n ls)(hn:n<=1000000)(hl:LL n ls)(hs:∀ i,i<n->Sz m (rv (ls i)))(h7:∀ q k,MOk r c n ls q q->k<q->7^k*m<=100000000)(hB:∀ q k,MOk r c n ls q q->1<=k->k<q->∃ B1 B2 B3 B4,SchB k m B1 B2 B3 B4)
 (hK:∀ o,SchO r c n ls z o->∀ A' cap' h',h.le h'->aM SSr h' A' o.n o.f->K (.tuple #[Dr o.r o.c A' o.n cap',I o.e]) h'):aK prog A1r #[Dr r c A n cap,I z] h K:=by
 refine B67 _ _ _ _ _ _ ?_
 unfold C0y
 refine Bc rv' hn hl ?_ (fun e he G l1=>⟨_,_,_,_,rfl,F8 (fun _=>hK (noM e) (.inl ⟨e,he,rfl⟩) none 0 G l1 RowV.nil) (fun e0=>by rcases he with ⟨_,x⟩|⟨_,_,x⟩<;>omega)⟩)
 intro q sq bo cp G l1 _ rs
 have mk:=sq.1
 have ba:=mk.r2
 obtain rfl:=mk.er
 refine ⟨_,_,_,_,rfl,F8 (fun a6=>absurd rfl a6) (fun _=>?_)⟩
 have af:¬ (1<=z/\z<q)->K (.tuple #[Dr 0 0 none 0 0,I 3]) G:=fun hx=>hK (noM 3) (.inr ⟨q,sq,.inl ⟨hx,rfl⟩⟩) none 0 G l1 RowV.nil
 refine B8 (fun hz=>af (fun x=>by omega)) (fun hz=>?_)
 refine B8 (fun az=>af (fun x=>by omega)) (fun az=>?_)
 obtain ⟨k,rfl⟩:∃ k:Nat,z=k:=⟨z.toNat,by omega⟩
 obtain ⟨l,hq⟩:∃ l,q=k+l:=⟨q-k,by omega⟩
 have F:1<=k:=by omega
 have D:1<=l:=by omega
 have aa:=fun o ho=>hK o (.inr ⟨q,sq,.inr ⟨k,l,rfl,F,D,hq,ho⟩⟩)
 obtain ⟨B1,B2,B3,B4,B⟩:=hB q k mk F (by omega)
 have au:=h7 q k mk (by omega)
 obtain ⟨b0,b1,b2,b3,⟨b4,b5,b6⟩,b7,b8⟩:=id B
 have ms:∀ i j,i<q->j<q->Sz m (mtx (rvs ls) q i j):=fun i j hi hj=>hs _ (by rw [mk.len];exact L8 hi hj)
 generalize hM:mtx (rvs ls) q=M at rs ms
 refine ⟨GsI G M k l,fun L _=>q-(iAt L 3).toNat,.inl ⟨0,none,0,none,0,by omega,rfl,[],[],⟨⟨G,V7,B5 _,Sep.refl G,OwnSl.nil,OwnSl.nil,(fun b e=>by cases e),(fun x hx=>by cases hx)⟩⟩,rfl,rfl,(fun t O=>by omega),fun t O=>by omega⟩,?_⟩
 rintro aA an ac bA bn bc cA cn cc z2 hp X
 rcases X with ⟨i,av,a1,a3,ax,bf,eL,xa,xb,P,ea,eb,ra,rb⟩|⟨i,av,a1,a3,ax,bm,bg,bl,eL,g,o,lg,s,ra,rb,X⟩
 ·simp only [aJ,aI,aW,true_and,and_true] at eL
  obtain ⟨⟨rfl,e1,rfl⟩,⟨rfl,e2,rfl⟩,⟨rfl,rfl,rfl⟩,rfl⟩:=eL
  obtain rfl:=e1.symm
  obtain rfl:=e2.symm
  refine B8 (fun _=>B8 (fun _=>?_) (fun x=>by omega)) (fun x=>by omega)
  obtain ⟨a,s,es,f1,f2,hc,row⟩:=rs.at (i:=i) (by omega)
  have cl:∀ {J:aE} {xa xb:List HV} {aA bA:Option aF} {ac bc:Nat} {C:List (Option aF × HV)},Pa G xa xb aA ac bA bc C J->J.cell? (Addr.add a (i*1))=some (.slice s.A s.n s.c):=fun P=>B9 P.le hc
  have aq:s.n-k=l:=by omega
  have ab:∀ t,t<i+1->∃ u,(xa++[(⟨I5 s.A s.c 0 4,k,s.c⟩:HV)])[t]? = some u/\u.n=k/\k<=u.c/\aM NQr G u.A k (M t):=fun t O=>by
   by_cases e:t<i
   ·rw [aP (by omega)];exact ra t e
   ·obtain rfl:t=i:=by omega
    rw [aO (by omega),ea,Nat.sub_self]
    refine ⟨_,rfl,rfl,by show k<=s.c;omega,?_⟩
    exact (row.cut (c:=s.c) (l:=0) (k:=k) (by omega) f2).congr fun j _=>by rw [bC]
  have ad:∀ t,t<i+1->∃ u,(xb++[(⟨I5 s.A s.c k 4,s.n-k,s.c-k⟩:HV)])[t]? = some u/\u.n=l/\l<=u.c/\aM NQr G u.A l (fun j=>M t (k+j)):=fun t O=>by
   by_cases e:t<i
   ·rw [aP (by omega)];exact rb t e
   ·obtain rfl:t=i:=by omega
    rw [aO (by omega),eb,Nat.sub_self]
    exact ⟨_,rfl,aq,by show l<=s.c-k;omega,row.cut (c:=s.c) (l:=k) (k:=l) (by omega) f2⟩
  have d:∀ {A':Option aF} {Q:Nat} {C:List (Option aF × HV)} {J:aE} {B:Option aF},Pa G (xa++[(⟨I5 s.A s.c 0 4,k,s.c⟩:HV)]) xb A' Q bA bc C J->(B,(⟨I5 s.A s.c k 4,s.n-k,s.c-k⟩:HV))∈C->wpH prog (aQ #[N9,N9] N9 #[.slice bA i bc,.slice B 1 1]) (fun v ah=>∃ (b1:Option aF) (b2 b3:Nat),v= .slice b1 b2 b3/\GsI G M k l [.slice A' (i+1) Q,.slice b1 b2 b3,.slice none 0 0,I (B7 ((i:Int)+1))] ah/\q-(iAt [.slice A' (i+1) Q,.slice b1 b2 b3,.slice none 0 0,I (B7 ((i:Int)+1))] 3).toNat<q-(iAt [.slice aA i ac,.slice bA i bc,.slice none 0 0,I (i:Int)] 3).toNat) J:=by
   intro A' Q C J B X hm
   refine X.swap.app hm (n:=i) eb.symm (by omega) ?_
   intro B' c2 ah X5
   rw [wiS i (by omega)]
   obtain ⟨g,o,y1,y2,y3,y4,y5,_⟩:=X5.swap.ex
   refine ⟨_,_,_,rfl,GsA.inv ⟨_,_,⟨⟨g,o,y1,y2,y3,y4,y5,fun x hx=>by cases hx⟩⟩,by rw [aV,ea];rfl,by rw [aV,eb];rfl,ab,ad⟩ (by omega),?_⟩
   show q-((i+1:Nat):Int).toNat<q-((i:Nat):Int).toNat
   omega
  have bb:k-0=k:=rfl
  refine ⟨a,es,by omega,by omega,_,_,_,cl P,⟨by omega,by omega⟩,a,es,by omega,by omega,⟨_,_,_,cl P,⟨by omega,by omega⟩,?_,?_⟩,?_⟩
  ·refine P.lit (y:=⟨I5 s.A s.c 0 4,k,s.c⟩) ?_
   intro B al l2 X2
   refine ⟨_,_,_,rfl,l2,?_,?_⟩
   ·refine X2.app (aD ..) (n:=i) ea.symm (by omega) ?_
    intro A' Q V X3
    refine ⟨_,_,_,rfl,X3.lit (y:=⟨I5 s.A s.c k 4,s.n-k,s.c-k⟩) ?_⟩
    intro B' W p X4
    exact ⟨_,_,_,rfl,p,d X4 (aD ..)⟩
   ·refine X2.lit (y:=⟨I5 s.A s.c k 4,s.n-k,s.c-k⟩) ?_
    intro B' W p X4
    refine ⟨_,_,_,rfl,p,X4.app (aS _ (aD ..)) (n:=i) ea.symm (by omega) ?_⟩
    intro A' Q V X3
    exact ⟨_,_,_,rfl,d X3 (aD ..)⟩
  ·refine P.lit (y:=⟨I5 s.A s.c k 4,s.n-k,s.c-k⟩) ?_
   intro B' W p X4
   refine ⟨_,_,_,rfl,p,X4.lit (y:=⟨I5 s.A s.c 0 4,k,s.c⟩) ?_⟩
   intro B al l2 X2
   refine ⟨_,_,_,rfl,l2,X2.app (aD ..) (n:=i) ea.symm (by omega) ?_⟩
   intro A' Q V X3
   exact ⟨_,_,_,rfl,d X3 (aS _ (aD ..))⟩
  ·refine P.lit (y:=⟨I5 s.A s.c 0 4,k,s.c⟩) ?_
   intro B al l2 X2
   refine ⟨_,_,_,rfl,l2,⟨_,_,_,cl X2,⟨by omega,by omega⟩,?_,?_⟩,?_⟩
   ·refine X2.app (aD ..) (n:=i) ea.symm (by omega) ?_
    intro A' Q V X3
    refine ⟨_,_,_,rfl,X3.lit (y:=⟨I5 s.A s.c k 4,s.n-k,s.c-k⟩) ?_⟩
    intro B' W p X4
    exact ⟨_,_,_,rfl,p,d X4 (aD ..)⟩
   ·refine X2.lit (y:=⟨I5 s.A s.c k 4,s.n-k,s.c-k⟩) ?_
    intro B' W p X4
    refine ⟨_,_,_,rfl,p,X4.app (aS _ (aD ..)) (n:=i) ea.symm (by omega) ?_⟩
    intro A' Q V X3
    exact ⟨_,_,_,rfl,d X3 (aD ..)⟩
   ·refine X2.app (aD ..) (n:=i) ea.symm (by omega) ?_
    intro A' Q V X3
    refine ⟨_,_,_,rfl,_,_,_,cl X3,⟨by omega,by omega⟩,X3.lit (y:=⟨I5 s.A s.c k 4,s.n-k,s.c-k⟩) ?_⟩
    intro B' W p X4
    exact ⟨_,_,_,rfl,p,d X4 (aD ..)⟩
 simp only [aJ,aI,aW,true_and,and_true] at eL
 obtain ⟨⟨rfl,e1,rfl⟩,⟨rfl,e2,rfl⟩,⟨rfl,e3,rfl⟩,rfl⟩:=eL
 obtain rfl:=e1.symm
 obtain rfl:=e2.symm
 obtain rfl:=e3.symm
 have ak:=B0 lg s.le
 refine B8 (fun aw=>?_) (fun bp=>?_)
 ·refine B8 (fun x=>by omega) (fun _=>?_)
  obtain ⟨a,u,es,f1,f2,hc,row⟩:=rs.at (i:=k+i) (by omega)
  refine Qm Sk ?_
  intro be am
  have ay:=Heap.le_put (.cells #[] E9) am
  refine ⟨_,_,_,rfl,a,es,by omega,by omega,_,_,_,B9 (B0 ak ay) hc,⟨by omega,by omega⟩,?_⟩
  have ag:aM NQr g (I5 u.A u.c k 4) l (fun j=>M (k+i) (k+j)):=(row.mono R6 lg).cut (c:=u.c) (l:=k) (k:=l) (by omega) f2
  simp only [Int.toNat_natCast]
  rw [show u.n-k=l by omega,show B7 (((k+i:Nat):Int)+1)=((k+(i+1):Nat):Int) by rw [C1]<;>omega]
  refine X.push s (by omega) am ag D (by omega) ?_
  intro A' Q h' g' o' l' s' X'
  refine ⟨.inr ⟨i+1,aA,ac,bA,bc,A',Q,by omega,rfl,g',o',B0 lg l',s',ra.mono l',rb.mono l',X'⟩,?_⟩
  show q-((k+(i+1):Nat):Int).toNat<q-((k+i:Nat):Int).toNat
  omega
 obtain rfl:i=l:=by omega
 obtain ⟨ao,ae,rfl,t⟩:=X.mt s D
 have bk:=B0 l1 ak
 have bz:∀ t,t<k*k->Sz m (Rc ls q k t):=fun t O=>by
  have G:=Nat.div_lt_of_lt_mul O
  have h2:=Nat.mod_lt t (show 0<k by omega)
  have:=ms (0+t/k) (0+t%k) (by omega) (by omega)
  rw [<- hM] at this
  exact this
 have blk:∀ a b,a<k->b<k->M a b=mtx (Rc ls q k) k a b:=fun a b _ N=>by
  unfold Rc
  rw [Ur _ _ _ _ N,bC,bC,hM]
 refine t.sep.call (A4d (E:=Rc ls q k) (ra.congr blk) F (by omega) b0 bz au ?_ (fun a7 g4 p h4 s4=>⟨_,_,_,_,rfl,Hp (aa (noM 7) (.inl ⟨a7,rfl⟩) none 0 h4 (B0 l1 (B0 lg (B0 p s4.le))) RowV.nil)⟩))
 intro inv A4 c4 g4 p ri h4 s4
 refine ⟨_,_,_,_,rfl,Br.nt ?_⟩
 refine s4.call (B0j (rb.mono p) F (by omega) (by omega) ?_)
 intro b5 g5 l5 rt h5 s5
 refine ⟨_,_,_,rfl,?_⟩
 have vz:∀ a b,a<k->b<k->Sz B1 (Lw (Rc ls q k) k a b):=fun a b R N=>(B3j b0 bz inv a b R N).mono b1
 refine s5.call (Vg (m:=B1) (ri.mono l5) (rb.mono (B0 p l5)) F (by omega) F (by omega) D (by omega) vz (fun a b R N=>(ms a (k+b) (by omega) (by omega)).mono b4) (by omega) ?_)
 intro b6 g6 l6 r6 h6 s6
 refine ⟨_,_,_,rfl,?_⟩
 have z6:∀ a b,a<k->b<i->Sz B2 (sm k fun t=>Lw (Rc ls q k) k a t*M t (k+b)):=fun a b R N=>(Xm (m:=B1) (f:=fun t=>Lw (Rc ls q k) k a t) (f2:=fun t=>M t (k+b)) (fun t O=>vz a t R O) (fun t O=>(ms t (k+b) (by omega) (by omega)).mono b4) k (aC _)).mono b2
 refine s6.call (Vg (m:=B2) (rt.mono l6) r6 D (by omega) F (by omega) D (by omega) (fun a b R N=>(ms b (k+a) (by omega) (by omega)).mono (by omega)) z6 (by omega) ?_)
 intro bq g7 l7 r7 bj s7
 refine ⟨_,_,_,rfl,?_⟩
 have z7:∀ a b,a<i->b<i->Sz B3 (sm k fun t=>M t (k+a)*sm k fun s=>Lw (Rc ls q k) k t s*M s (k+b)):=fun a b R N=>(Xm (m:=B2) (f:=fun t=>M t (k+a)) (f2:=fun t=>sm k fun s=>Lw (Rc ls q k) k t s*M s (k+b)) (fun t O=>(ms t (k+a) (by omega) (by omega)).mono (by omega)) (fun t O=>z6 t b O N) k (aC _)).mono b3
 have t7:=(((t.next s4 p).next s5 l5).next s6 l6).next s7 l7
 have a2:G.le g7:=B0 lg (B0 p (B0 l5 (B0 l6 l7)))
 clear t s4 s5 s6 s7 ra rb ri rt r6
 generalize hS:(fun a b=>sm k fun t=>M t (k+a)*sm k fun s=>Lw (Rc ls q k) k t s*M s (k+b))=S at r7
 have z8:∀ a b,a<i->b<i->Sz B3 (S a b):=fun a b R N=>by rw [<- hS];exact z7 a b R N
 have ew:∀ {j:Nat},j<i->B7 ((j:Int)+1)=((j+1:Nat):Int):=fun {j} hj=>by rw [C1]<;>omega
 refine ⟨fun L hp=>∃ (a:Nat) (g o:aE),a<=i/\L=[I (a:Int)]/\g7.le g/\Mt hp g o ao ae i i (fun x y=>if x<a then M (k+x) (k+y)-S x y else M (k+x) (k+y)),fun L _=>i-(iAt L 0).toNat,⟨0,g7,_,by omega,rfl,B5 _,t7.congr fun x y _ _=>by rw [iN (Nat.not_lt_zero x)]⟩,?_⟩
 clear t7
 rintro y1 hx ⟨a,g8,o8,R,eL,l8,Z⟩
 obtain rfl:=sI1 eL
 refine B8 (fun aw=>?_) (fun ai=>?_)
 rotate_left
 ·obtain rfl:a=i:=by omega
  have sc:∀ x y,x<a->y<a->(if x<a then M (k+x) (k+y)-S x y else M (k+x) (k+y))=B7h ls q k x y:=fun x y hx hy=>by
   rw [iP hx,<- hS]
   unfold B7h
   rw [C1m,hM]
   congr 1
   refine D0 fun t O=>?_
   congr 1
   have:=sq.2.symm (k+x) t (by omega) (by omega)
   rw [hM] at this
   exact this.symm
  have zq:∀ x y,x<a->y<a->Sz B4 (B7h ls q k x y):=fun x y hx hy=>C1n hq (fun a b R N=>by rw [hM];exact ms a b R N) B inv hx hy
  refine Zd (m:=B4) (Z.rowsV.congr sc) (by omega) D (by omega) D zq (by omega) ?_
  intro A9 c9 h9 l9 _ r9
  exact ⟨_,_,_,_,_,rfl,aa ⟨(a:Int),(a:Int),a*a,Gs (B7h ls q k) a,0⟩ (.inr ⟨inv,rfl⟩) A9 c9 h9 (B0 l1 (B0 a2 (B0 l8 (B0 Z.sep.le l9)))) r9⟩
 have H:a<i:=by omega
 refine ⟨fun L hp=>∃ (b:Nat) (g o:aE),b<=i/\L=[I (b:Int)]/\g7.le g/\Mt hp g o ao ae i i (fun x y=>if x<a\/(x=a/\y<b) then M (k+x) (k+y)-S x y else M (k+x) (k+y)),fun L _=>i-(iAt L 0).toNat,⟨0,g8,o8,by omega,rfl,l8,Z.congr fun x y _ _=>?_⟩,?_⟩
 ·by_cases e:x<a
  ·rw [iP e,iP (.inl e)]
  ·rw [iN e,iN (by omega)]
 clear Z l8
 rintro y2 hy ⟨b,g8,o8,N,eL,l8,Z⟩
 obtain rfl:=sI1 eL
 refine B8 (fun a8=>?_) (fun ai=>?_)
 ·have T:b<i:=by omega
  obtain ⟨ch,bd,hh⟩:=Z.head H
  obtain ⟨x,ix,x0,x1,x2,x3⟩:=Z.elem H T
  rw [iN (by omega)] at ix
  obtain ⟨a9,u9,e9,f9,bi,a0,aj⟩:=(r7.mono l8).at H
  obtain ⟨ap,w,ar,iw,c0,c1,c2,c3⟩:=aj.qat T
  have sp:=Z.sep
  have cl:=fun {a:aF} {v:Value} (x:g8.cell? a=some v)=>B9 sp.le x
  refine ⟨_,rfl,by omega,by omega,_,_,_,sp.cell hh,_,rfl,by omega,by omega,_,_,_,sp.cell hh,_,rfl,by omega,by omega,_,_,_,_,_,_,_,_,sp.cell x0,sp.cell x1,sp.cell x2,sp.cell x3,a9,e9,by omega,by omega,_,_,_,cl a0,ap,ar,by omega,by omega,_,_,_,_,_,_,_,_,cl c0,cl c1,cl c2,cl c3,?_⟩
  refine sp.call (Ny (m:=B3) ix iw ((ms (k+a) (k+b) (by omega) (by omega)).mono (by omega)) (z8 a b H T) (by omega) ?_)
  intro w8 g9 l9 i9 h9 s9
  refine ⟨_,_,_,_,_,_,_,_,rfl,sp.le_le s9 l9,_,rfl,by omega,by omega,?_⟩
  refine (Z.next s9 l9).store H T i9 ?_
  intro bh a5 a4 _
  rw [ew T]
  refine ⟨⟨b+1,g9,a5,by omega,rfl,B0 l8 l9,a4.congr fun x y _ _=>?_⟩,by simp only [U7];omega⟩
  unfold A2v
  try dsimp only
  by_cases e1:x=a/\y=b
  ·rw [iP e1,e1.1,e1.2,iP (by omega)]
  ·rw [iN e1]
   by_cases e2:x<a\/(x=a/\y<b)
   ·rw [iP e2,iP (by omega)]
   ·rw [iN e2,iN (by omega)]
 ·obtain rfl:b=i:=by omega
  rw [ew H]
  refine ⟨⟨a+1,g8,o8,by omega,rfl,l8,Z.congr fun x y _ hy=>?_⟩,by simp only [U7];omega⟩
  by_cases e:x<a\/(x=a/\y<b)
  ·rw [iP e,iP (by omega)]
  ·rw [iN e,iN (by omega)]
end
def B1q(k l:Nat):xch k l l=k:=by
 unfold xch
 by_cases c:l=k
 ·rw [iP c];exact c
 ·rw [iN c,iP rfl]
def C1a{k l i:Nat}(h1:i≠k)(h2:i≠l):xch k l i=i:=by unfold xch;rw [iN h1,iN h2]
section
variable {h g o:aE} {bo n k m cap:Nat} {rb:Nat->Nat} {P R A0 F:Nat->Nat->Rat} {d:Nat->Rat} {K:VP}
def A6s(t:Mt h g o bo rb n n P)(pd:PD n k A0 d F R)(hP:∀ i j,k<=i->i<n->k<=j->j<n->P i j=R i j)(hk:k<n)(hn:n<=64)(hs:∀ i j,i<n->j<n->Sz m (P i j))(hm:4*m+3<=400000000)
 (hK:∀ h' g' o' rb' P' R' F',g.le g'->Mt h' g' o' bo rb' n n P'->PD n k A0 d F' R'->(∀ i j,k<=i->i<n->k<=j->j<n->P' i j=R' i j)->(∀ i j,i<n->j<n->Sz (4*m+3) (P' i j))->(R' k k=0->∀ j,j<n->R' k j=0)->K (.tuple #[]) h'):aK prog A1s #[.slice (some ⟨bo,0,none⟩) n cap,I (k:Int)] h K:=by
 refine B68 _ _ _ _ ?_
 unfold C0z
 have M:∀ {q:Rat},q.num.sign=0↔q=0:=fun {q}=>by rw [aZ];exact Rat.num_eq_zero
 have ew:∀ {j:Nat},j<n->B7 ((j:Int)+1)=((j+1:Nat):Int):=fun {j} hj=>by rw [C1]<;>omega
 have D:=t.sep
 obtain ⟨ck,av,af⟩:=t.head hk
 refine ⟨fun L' B=>∃ i:Nat,k<=i/\i<=n/\L'=[I (i:Int)]/\B=h/\∀ j,k<=j->j<i->R j j=0,fun L' _=>n-(iAt L' 0).toNat,⟨k,aC _,by omega,rfl,rfl,fun j _ _=>by omega⟩,?_⟩
 rintro y B ⟨i,J,a1,eL,rfl,hz⟩
 obtain rfl:=sI1 eL
 refine B8 (fun a2=>?_) (fun a7=>?_)
 ·have l:i<n:=by omega
  obtain ⟨ci,aj,W⟩:=t.head l
  obtain ⟨x,ix,x0,x1,x2,x3⟩:=t.elem l l
  rw [hP i i J l J l] at ix
  refine ⟨_,rfl,by omega,by omega,_,_,_,D.cell W,_,rfl,by omega,by omega,_,_,_,_,_,_,_,_,D.cell x0,D.cell x1,D.cell x2,D.cell x3,?_⟩
  refine Q8 (NQ.mono D.le ix) ⟨_,rfl,F8 (fun aa=>?_) (fun he=>?_)⟩
  rotate_left
  ·rw [ew l]
   refine ⟨⟨i+1,by omega,by omega,rfl,rfl,fun j a b=>?_⟩,by simp only [U7];omega⟩
   by_cases c:j=i
   ·rw [c];exact M.1 he
   ·exact hz j a (by omega)
  have H:R i i≠0:=fun e=>aa (M.2 e)
  refine ⟨_,rfl,by omega,by omega,_,_,_,D.cell af,_,rfl,by omega,by omega,_,_,_,D.cell W,_,rfl,by omega,by omega,?_⟩
  refine t.swap (i:=k) (k:=i) hk l Tf af W av aj ?_
  intro h1 next
  refine ⟨_,rfl,by omega,by omega,next ?_⟩
  intro h2 o2 t2 _
  refine ⟨fun L' w=>∃ (j:Nat) (o':aE),j<=n/\L'=[I (j:Int)]/\Mt w g o' bo (fun a=>rb (xch k i a)) n n (fun a b=>if a<j then P (xch k i a) (xch k i b) else P (xch k i a) b),fun L' _=>n-(iAt L' 0).toNat,⟨0,o2,by omega,rfl,t2.congr fun a b _ _=>by rw [iN (by omega)]⟩,?_⟩
  clear next t2
  rintro y2 w ⟨j,o',hj,Z,C⟩
  obtain rfl:=sI1 Z
  have s:=C.sep
  refine B8 (fun ad=>?_) (fun ae=>?_)
  ·have r:j<n:=by omega
   obtain ⟨cj,a6,N⟩:=C.head r
   obtain ⟨u,Q,u0,u1,u2,u3⟩:=C.elem r hk
   obtain ⟨v,S,v0,v1,v2,v3⟩:=C.elem r l
   rw [iN (aT j)] at Q S
   refine ⟨_,rfl,by omega,by omega,_,_,_,s.cell N,_,rfl,by omega,by omega,_,_,_,s.cell N,_,rfl,by omega,by omega,_,_,_,s.cell N,_,rfl,by omega,by omega,_,_,_,_,_,_,_,_,s.cell u0,s.cell u1,s.cell u2,s.cell u3,_,rfl,by omega,by omega,_,_,_,s.cell N,_,rfl,by omega,by omega,_,_,_,_,_,_,_,_,s.cell v0,s.cell v1,s.cell v2,s.cell v3,_,rfl,by omega,by omega,?_⟩
   refine C.store r l Q ?_
   intro h4 o4 t4 _
   refine ⟨_,rfl,by omega,by omega,?_⟩
   refine t4.store r hk S ?_
   intro h5 o5 O _
   rw [ew r]
   refine ⟨⟨j+1,o5,by omega,rfl,O.congr fun a b _ _=>?_⟩,by simp only [U7];omega⟩
   unfold A2v
   dsimp only
   by_cases c1:a=j
   ·subst c1
    by_cases c2:b=k
    ·rw [iP ⟨rfl,c2⟩,iP (aH a),c2,Ak]
    ·rw [iN (fun x=>c2 x.2)]
     by_cases c3:b=i
     ·rw [iP ⟨rfl,c3⟩,iP (aH a),c3,B1q]
     ·rw [iN (fun x=>c3 x.2),iN (aT a),iP (aH a),C1a c2 c3]
   ·rw [iN (fun x=>c1 x.1),iN (fun x=>c1 x.1)]
    by_cases c2:a<j
    ·rw [iP c2,iP (by omega)]
    ·rw [iN c2,iN (by omega)]
  ·have ak:j=n:=by omega
   subst ak
   refine hK w g o' _ _ _ _ (B5 _) (C.congr (M':=fun a b=>P (xch k i a) (xch k i b)) fun a b T _=>by rw [iP T]) (pd.swap hk l (aC _) J) (fun a b T ac hb an=>hP _ _ (A32 J T) (R8 hk l ac) (A32 J hb) (R8 hk l an)) (fun a b T hb=>(hs _ _ (R8 hk l T) (R8 hk l hb)).mono (by omega)) (fun e=>?_)
   rw [Ak] at e
   exact absurd e H
 have ap:i=n:=by omega
 subst ap
 have G:∀ j,k<=j->j<i->R j j=0:=hz
 rw [ew hk]
 refine ⟨fun L' hx=>∃ a:Nat,k<a/\a<=i/\L'=[I (a:Int)]/\hx=B/\∀ b,k<b->b<a->R b k=0,fun L' _=>i-(iAt L' 0).toNat,⟨k+1,by omega,by omega,rfl,rfl,fun b _ _=>by omega⟩,?_⟩
 rintro y1 hx ⟨a,a4,ac,aw,rfl,ag⟩
 obtain rfl:=sI1 aw
 refine B8 (fun a0=>?_) (fun ay=>?_)
 rotate_left
 ·have ao:a=i:=by omega
  subst ao
  refine hK hx g o rb P R F (B5 _) t pd hP (fun a b T hb=>(hs a b T hb).mono (by omega)) (fun _ j hj=>?_)
  rcases Nat.lt_trichotomy j k with c|c|c
  ·exact pd.zero k j hk hj (.inr c)
  ·rw [c];exact G k (aC _) hk
  ·rw [pd.symm k j hk hj];exact ag j c hj
 have f:a<i:=by omega
 obtain ⟨ca,a5,aq⟩:=t.head f
 obtain ⟨x,ix,x0,x1,x2,x3⟩:=t.elem f hk
 rw [hP a k (by omega) f (aC _) hk] at ix
 refine ⟨_,rfl,by omega,by omega,_,_,_,D.cell aq,_,rfl,by omega,by omega,_,_,_,_,_,_,_,_,D.cell x0,D.cell x1,D.cell x2,D.cell x3,?_⟩
 refine Q8 (NQ.mono D.le ix) ⟨_,rfl,F8 (fun aa=>?_) (fun he=>?_)⟩
 rotate_left
 ·rw [ew f]
  refine ⟨⟨a+1,by omega,by omega,rfl,rfl,fun b h1 h2=>?_⟩,by simp only [U7];omega⟩
  by_cases c:b=a
  ·rw [c];exact M.1 he
  ·exact ag b h1 (by omega)
 have H:R a k≠0:=fun e=>aa (M.2 e)
 clear ix x0 x1 x2 x3 x
 refine ⟨fun L' w=>∃ (j:Nat) (g' o':aE),j<=i/\L'=[I (j:Int)]/\g.le g'/\Mt w g' o' bo rb i i (fun p q=>if p=k/\q<j then P k q+P a q else P p q),fun L' _=>i-(iAt L' 0).toNat,⟨0,g,o,by omega,rfl,B5 _,t.congr fun p q _ _=>by rw [iN (by omega)]⟩,?_⟩
 rintro y2 w ⟨j,g',o',hj,Z,lg,C⟩
 obtain rfl:=sI1 Z
 have s:=C.sep
 refine B8 (fun ad=>?_) (fun ae=>?_)
 ·have r:j<i:=by omega
  obtain ⟨c1,am,E⟩:=C.head hk
  obtain ⟨c2,a3,ar⟩:=C.head f
  obtain ⟨u,Q,u0,u1,u2,u3⟩:=C.elem hk r
  obtain ⟨v,S,v0,v1,v2,v3⟩:=C.elem f r
  rw [iN (by omega)] at Q S
  refine ⟨_,rfl,by omega,by omega,_,_,_,s.cell E,_,rfl,by omega,by omega,_,_,_,s.cell E,_,rfl,by omega,by omega,_,_,_,_,_,_,_,_,s.cell u0,s.cell u1,s.cell u2,s.cell u3,_,rfl,by omega,by omega,_,_,_,s.cell ar,_,rfl,by omega,by omega,_,_,_,_,_,_,_,_,s.cell v0,s.cell v1,s.cell v2,s.cell v3,?_⟩
  refine s.call (Iq (m:=m) Q S (hs k j hk r) (hs a j f r) (by omega) ?_)
  intro w5 g5 l5 i5 h5 z
  refine ⟨_,_,_,_,_,_,_,_,rfl,s.le_le z l5,_,rfl,by omega,by omega,?_⟩
  refine (C.next z l5).store hk r i5 ?_
  intro h6 o6 t6 _
  rw [ew r]
  refine ⟨⟨j+1,g5,o6,by omega,rfl,B0 lg l5,t6.congr fun p q _ _=>?_⟩,by simp only [U7];omega⟩
  unfold A2v
  dsimp only
  by_cases e:p=k/\q=j
  ·rw [iP e,iP (by omega),e.2]
  ·rw [iN e]
   by_cases V:p=k/\q<j
   ·rw [iP V,iP (by omega)]
   ·rw [iN V,iN (by omega)]
 have au:j=i:=by omega
 subst au
 have L:∀ p q,p<j->q<j->Sz (2*m+1) (if p=k then P k q+P a q else P p q):=fun p q B w=>by
  split
  ·exact ((hs k q hk w).add (hs a q f w)).mono (by omega)
  ·exact (hs p q B w).mono (by omega)
 have t4:Mt w g' o' bo rb j j (fun p q=>if p=k then P k q+P a q else P p q):=C.congr fun p q _ w=>by
  by_cases e:p=k
  ·rw [iP ⟨e,w⟩,iP e]
  ·rw [iN (fun x=>e x.1),iN e]
 clear C s
 refine ⟨fun L' hv=>∃ (b:Nat) (g2 o2:aE),b<=j/\L'=[I (b:Int)]/\g.le g2/\Mt hv g2 o2 bo rb j j (fun p q=>if p<b/\q=k then (if p=k then P k k+P a k else P p k)+(if p=k then P k a+P a a else P p a) else if p=k then P k q+P a q else P p q),fun L' _=>j-(iAt L' 0).toNat,⟨0,g',o',by omega,rfl,lg,t4.congr fun p q _ _=>by rw [iN (show ¬ (p<0/\q=k) by omega)]⟩,?_⟩
 clear t4
 rintro y3 hv ⟨b,g2,o2,hb,ai,ah,O⟩
 obtain rfl:=sI1 ai
 have z:=O.sep
 refine B8 (fun az=>?_) (fun ax=>?_)
 ·have A:b<j:=by omega
  obtain ⟨c1,am,E⟩:=O.head A
  obtain ⟨u,Q,u0,u1,u2,u3⟩:=O.elem A hk
  obtain ⟨v,S,v0,v1,v2,v3⟩:=O.elem A f
  rw [iN (show ¬ (b<b/\k=k) by omega)] at Q
  rw [iN (show ¬ (b<b/\a=k) by omega)] at S
  refine ⟨_,rfl,by omega,by omega,_,_,_,z.cell E,_,rfl,by omega,by omega,_,_,_,z.cell E,_,rfl,by omega,by omega,_,_,_,_,_,_,_,_,z.cell u0,z.cell u1,z.cell u2,z.cell u3,_,rfl,by omega,by omega,_,_,_,z.cell E,_,rfl,by omega,by omega,_,_,_,_,_,_,_,_,z.cell v0,z.cell v1,z.cell v2,z.cell v3,?_⟩
  refine z.call (Iq (m:=2*m+1) Q S (L b k A hk) (L b a A f) (by omega) ?_)
  intro w6 g6 l6 i6 h6 s6
  refine ⟨_,_,_,_,_,_,_,_,rfl,z.le_le s6 l6,_,rfl,by omega,by omega,?_⟩
  refine (O.next s6 l6).store A hk i6 ?_
  intro h7 o7 t7 _
  rw [ew A]
  refine ⟨⟨b+1,g6,o7,by omega,rfl,B0 ah l6,t7.congr fun p q _ _=>?_⟩,by simp only [U7];omega⟩
  unfold A2v
  dsimp only
  by_cases e:p=b/\q=k
  ·rw [iP e,iP (show p<b+1/\q=k by omega),e.1]
  ·rw [iN e]
   by_cases V:p<b/\q=k
   ·rw [iP V,iP (show p<b+1/\q=k by omega)]
   ·rw [iN V,iN (show ¬ (p<b+1/\q=k) by omega)]
 have al:b=j:=by omega
 subst al
 refine hK hv g2 o2 rb _ _ _ ah (O.congr (M':=fun p q=>if q=k then (if p=k then P k k+P a k else P p k)+(if p=k then P k a+P a a else P p a) else if p=k then P k q+P a q else P p q) fun p q B _=>?_) (pd.merge hk f (aC _) (by omega) (by omega)) (fun p q B X w ab=>?_) (fun p q B w=>?_) (fun e=>?_)
 ·by_cases e:q=k
  ·rw [iP ⟨B,e⟩,iP e]
  ·rw [iN (fun x=>e x.2),iN e]
 ·try dsimp only
  unfold Hu
  have e1:=hP k k (aC _) hk (aC _) hk
  have V:=hP a k (by omega) f (aC _) hk
  have e3:=hP k a (aC _) hk (by omega) f
  have e4:=hP a a (by omega) f (by omega) f
  by_cases c1:q=k
  ·by_cases c2:p=k
   ·rw [iP c1,iP c2,iP c2,iP c2,iP c1,iP c2,e1,V,e3,e4,c1,c2]
   ·rw [iP c1,iN c2,iN c2,iN c2,iP c1,iN c2,hP p k B X (aC _) hk,hP p a B X (by omega) f,c1];grind
  ·by_cases c2:p=k
   ·rw [iN c1,iP c2,iP c2,iN c1,hP k q (aC _) hk w ab,hP a q (by omega) f w ab,c2];grind
   ·rw [iN c1,iN c2,iN c2,iN c1,hP p q B X w ab];grind
 ·try dsimp only
  split
  ·exact ((L p k B hk).add (L p a B f)).mono (by omega)
  ·exact (L p q B w).mono (by omega)
 ·exfalso
  unfold Hu at e
  rw [iP rfl,iP rfl,iP rfl,G k (aC _) hk,G a (by omega) f,pd.symm k a hk f] at e
  exact H (by grind)
end
def gz(m:Nat):Nat->Nat
 | 0=>m
 | k+1=>16*gz m k+13
def C21(m:Nat):∀ n k,k<=n->gz m k<=gz m n:=by
 intro n
 induction n with
 | zero=>intro k h;rw [show k=0 by omega];exact aC _
 | succ n ih=>
  intro k h
  by_cases c:k=n+1
  ·rw [c];exact aC _
  ·have:=ih k (by omega)
   rw [show gz m (n+1)=16*gz m n+13 from rfl];omega
def Yz{d d':Nat->Rat}: ∀ n,(∀ m,m<n->d m=d' m)->Uv d n=Uv d' n:=by
 intro n
 induction n with
 | zero=>exact fun _=>rfl
 | succ n ih=>intro h;rw [Uv,Uv,ih fun m a=>h m (by omega),h n (by omega)]
def gE(P:Nat->Nat->Rat)(k i j:Nat):Nat->Nat->Rat:=fun a b=>if k<a/\k<=b/\(a<i\/(a=i/\b<j)) then P a b-P a k/P k k*P k b else P a b
section
variable {h:aE} {A:Option aF} {n m cap:Nat} {E:Nat->Rat} {K:VP}
def A6q(rs:RowsV h A n n (mtx E n))(sy:A5r n (mtx E n))(hn1:1<=n)(hn:n<=64)(hs:∀ i,i<n*n->Sz m (E i))(hm1:1<=m)(hm:gz m n<=400000000)
 (hK:∀ d F,Diag n (mtx E n) d F->∀ h',h.le h'->K (.tuple #[I (Bl d n:Int),I (Uv d n:Int),I (Ej d n:Int)]) h'):aK prog A1q #[.slice A n cap] h K:=by
 refine B66 _ _ _ ?_
 unfold C0x
 have ew:∀ {j:Nat},j<n->B7 ((j:Int)+1)=((j+1:Nat):Int):=fun {j} hj=>by rw [C1]<;>omega
 refine Qp rs (by omega) hn1 (by omega) hn1 ?_
 intro J g1 o1 bo au c0 l1 t1
 refine ⟨_,_,_,rfl,?_⟩
 refine ⟨fun L hp=>∃ (k:Nat) (g o:aE) (rb:Nat->Nat) (P R F:Nat->Nat->Rat) (d:Nat->Rat),k<=n/\L=[I (Bl d k:Int),I (Uv d k:Int),I (Ej d k:Int),I (k:Int)]/\h.le g/\Mt hp g o bo rb n n P/\PD n k (mtx E n) d F R/\(∀ i j,k<=i->i<n->k<=j->j<n->P i j=R i j)/\∀ i j,i<n->j<n->Sz (gz m k) (P i j),fun L _=>n-(iAt L 3).toNat,⟨0,g1,o1,au,_,_,_,fun _=>0,by omega,rfl,l1,t1,PD.start _ sy,fun _ _ _ _ _ _=>rfl,fun i j hi hj=>hs _ (L8 hi hj)⟩,?_⟩
 clear t1
 rintro z1 z2 z3 z4 hp ⟨k,g,o,rb,P,R,F,d,hk,eL,lg,t,pd,hP,hz⟩
 simp only [aJ,aI,true_and,and_true] at eL
 obtain ⟨rfl,rfl,rfl,rfl⟩:=eL
 have a3:=C5j d k
 refine B8 (fun a9=>?_) (fun bf=>?_)
 rotate_left
 ·have:k=n:=by omega
  subst this
  have D:=pd.done (aC k) fun i j hi hj=>pd.zero i j hi hj (.inl hi)
  have aa:=hK _ _ D hp (B0 lg t.sep.le)
  rw [Kf (d':=d) k fun m hm=>iP hm,Kg (d':=d) k fun m hm=>iP hm,Yz (d':=d) k fun m hm=>iP hm] at aa
  exact aa
 have f:k<n:=by omega
 have ba:16*gz m k+13<=gz m n:=C21 m n (k+1) f
 refine A6s t pd hP f hn hz (by omega) ?_
 intro h2 g2 o2 G P2 R2 F2 l2 t2 ag C l T
 generalize hM:4*gz m k+3=M at *
 have am:=B0 lg l2
 have s2:=t2.sep
 obtain ⟨ck,be,ay⟩:=t2.head f
 obtain ⟨x,ix,x0,x1,x2,x3⟩:=t2.elem f f
 have Q:=C k k (aC _) f (aC _) f
 rw [Q] at ix
 have d1:Bl (fun m=>if m=k then R2 k k else d m) k=Bl d k:=Kf k fun m hm=>iN (by omega)
 have d2:Ej (fun m=>if m=k then R2 k k else d m) k=Ej d k:=Kg k fun m hm=>iN (by omega)
 have d3:Uv (fun m=>if m=k then R2 k k else d m) k=Uv d k:=Yz k fun m hm=>iN (by omega)
 have O:Bl (fun m=>if m=k then R2 k k else d m) (k+1)=Bl d k+if 0<R2 k k then 1 else 0:=by rw [Bl,d1,iP rfl]
 have N:Ej (fun m=>if m=k then R2 k k else d m) (k+1)=Ej d k+if R2 k k<0 then 1 else 0:=by rw [Ej,d2,iP rfl]
 have f3:Uv (fun m=>if m=k then R2 k k else d m) (k+1)=Uv d k+if R2 k k=0 then 1 else 0:=by rw [Uv,d3,iP rfl]
 have aq:B7 ((Bl d k:Int)+1)=((Bl d k+1:Nat):Int):=by rw [C1]<;>omega
 have a1:B7 ((Ej d k:Int)+1)=((Ej d k+1:Nat):Int):=by rw [C1]<;>omega
 have ap:B7 ((Uv d k:Int)+1)=((Uv d k+1:Nat):Int):=by rw [C1]<;>omega
 have ac:∀ {q:Rat},q.num.sign=0↔q=0:=fun {q}=>by rw [aZ];exact Rat.num_eq_zero
 have ab:(R2 k k).num.sign=1↔0<R2 k k:=by
  have J:=Yr (q:= -(R2 k k))
  rw [Rat.neg_num,Int.sign_neg] at J
  have h3:(R2 k k).num.sign<=1:=by
   rcases Int.sign_trichotomy (R2 k k).num with e|e|e<;>omega
  constructor
  ·intro x;have:=J.1 (by omega);grind
  ·intro x;have:=J.2 (by grind);omega
 refine ⟨rfl,fun L hx=>hx=h2/\R2 k k≠0/\L=[I (Bl (fun m=>if m=k then R2 k k else d m) (k+1):Int),I (Uv (fun m=>if m=k then R2 k k else d m) (k+1):Int),I (Ej (fun m=>if m=k then R2 k k else d m) (k+1):Int)],?_,?_⟩
 ·refine ⟨_,rfl,by omega,by omega,_,_,_,s2.cell ay,_,rfl,by omega,by omega,_,_,_,_,_,_,_,_,s2.cell x0,s2.cell x1,s2.cell x2,s2.cell x3,?_⟩
  refine Q8 (NQ.mono s2.le ix) ⟨_,rfl,D8 (fun he=>?_) (fun a0=>?_)⟩
  ·have e0:=ac.1 he
   rw [ap,ew f]
   refine ⟨⟨k+1,g2,o2,G,P2,R2,F2,fun m=>if m=k then 0 else d m,f,?_,am,t2,ag.skip (T e0) f,fun i j a b c e=>C i j (by omega) b (by omega) e,fun i j hi hj=>(l i j hi hj).mono (show _<=16*gz m k+13 by omega)⟩,?_⟩
   ·rw [e0] at O N f3
    rw [iN (by decide +kernel)] at O N
    rw [iP rfl] at f3
    rw [O,N,f3];rfl
   ·show n-((k+1:Nat):Int).toNat<n-((k:Nat):Int).toNat
    omega
  ·have y:R2 k k≠0:=fun e=>a0 (ac.2 e)
   rw [iN y] at f3
   refine D8 (fun J=>?_) (fun J=>?_)
   ·have ax:=ab.1 J
    rw [iP ax] at O
    rw [iN (by grind)] at N
    exact ⟨rfl,y,by rw [aq,O,N,f3];rfl⟩
   ·have V: ¬ 0<R2 k k:=fun x=>J (ab.2 x)
    rw [iN V] at O
    rw [iP (by grind)] at N
    exact ⟨rfl,y,by rw [a1,O,N,f3];rfl⟩
 rintro q1 q2 q3 hx ⟨rfl,y,eJ⟩
 simp only [aJ,aI,true_and,and_true] at eJ
 obtain ⟨rfl,rfl,rfl⟩:=eJ
 clear x0 x1 x2 x3 ix x
 rw [ew f]
 have bd:P2 k k≠0:=by rw [Q];exact y
 have an:4*M+1=16*gz m k+13:=by omega
 have zE:∀ i j a b,a<n->b<n->Sz (4*M+1) (gE P2 k i j a b):=fun i j a b ha Z=>by
  unfold gE
  split
  ·exact ((l a b ha Z).sub (((l a k ha f).div (l k k f f) (by omega)).mul (l k b f Z))).mono (by omega)
  ·exact (l a b ha Z).mono (by omega)
 refine ⟨fun L hq=>∃ (i:Nat) (g' o':aE),k<i/\i<=n/\L=[I (i:Int)]/\h.le g'/\Mt hq g' o' bo G n n (gE P2 k i 0),fun L _=>n-(iAt L 0).toNat,⟨k+1,g2,o2,by omega,by omega,rfl,am,t2.congr fun a b _ _=>by unfold gE;rw [iN (by omega)]⟩,?_⟩
 clear t2
 rintro y1 hq ⟨i,g3,o3,bb,a6,a2,aj,H⟩
 obtain rfl:=sI1 a2
 have z:=H.sep
 refine B8 (fun a5=>?_) (fun a4=>?_)
 ·have s:i<n:=by omega
  obtain ⟨c1,a7,al⟩:=H.head s
  obtain ⟨c2,bc,ak⟩:=H.head f
  obtain ⟨u,iu,u0,u1,u2,u3⟩:=H.elem s f
  obtain ⟨v,iv,v0,v1,v2,v3⟩:=H.elem f f
  have eu:gE P2 k i 0 i k=P2 i k:=by unfold gE;rw [iN (by omega)]
  have ev:gE P2 k i 0 k k=P2 k k:=by unfold gE;rw [iN (by omega)]
  rw [eu] at iu
  rw [ev] at iv
  refine ⟨_,rfl,by omega,by omega,_,_,_,z.cell al,_,rfl,by omega,by omega,_,_,_,_,_,_,_,_,z.cell u0,z.cell u1,z.cell u2,z.cell u3,_,rfl,by omega,by omega,_,_,_,z.cell ak,_,rfl,by omega,by omega,_,_,_,_,_,_,_,_,z.cell v0,z.cell v1,z.cell v2,z.cell v3,?_⟩
  have zf:Sz (2*M) (P2 i k/P2 k k):=((l i k s f).div (l k k f f) (by omega)).mono (by omega)
  refine z.call (Ul (m:=M) iu iv (l i k s f) (l k k f f) (by omega) ?_)
  intro w4 g4 l4 i4 h4 s4
  refine ⟨_,_,_,_,_,_,_,_,rfl,z.le_le s4 l4,?_⟩
  refine ⟨fun L hr=>∃ (j:Nat) (g' o':aE),k<=j/\j<=n/\L=[I (j:Int)]/\g4.le g'/\Mt hr g' o' bo G n n (gE P2 k i j),fun L _=>n-(iAt L 0).toNat,⟨k,g4,o3,aC _,by omega,rfl,B5 _,(H.next s4 l4).congr fun a b _ _=>by
   unfold gE
   by_cases c:k<a/\k<=b/\(a<i\/(a=i/\b<0))
   ·rw [iP c,iP (by omega)]
   ·rw [iN c,iN (by omega)]⟩,?_⟩
  clear iu u0 u1 u2 u3 iv v0 v1 v2 v3 al ak
  rintro y2 hr ⟨j,g5,o5,av,az,W,X,B⟩
  obtain rfl:=sI1 W
  have w:=B.sep
  refine B8 (fun af=>?_) (fun ah=>?_)
  ·have r:j<n:=by omega
   obtain ⟨c3,a8,ai⟩:=B.head s
   obtain ⟨c4,ao,S⟩:=B.head f
   obtain ⟨p,ip,p0,p1,p2,p3⟩:=B.elem s r
   obtain ⟨q,iq,q0,q1,q2,q3⟩:=B.elem f r
   have ep:gE P2 k i j i j=P2 i j:=by unfold gE;rw [iN (by omega)]
   have eq:gE P2 k i j k j=P2 k j:=by unfold gE;rw [iN (by omega)]
   rw [ep] at ip
   rw [eq] at iq
   refine ⟨_,rfl,by omega,by omega,_,_,_,w.cell ai,_,rfl,by omega,by omega,_,_,_,w.cell ai,_,rfl,by omega,by omega,_,_,_,_,_,_,_,_,w.cell p0,w.cell p1,w.cell p2,w.cell p3,_,rfl,by omega,by omega,_,_,_,w.cell S,_,rfl,by omega,by omega,_,_,_,_,_,_,_,_,w.cell q0,w.cell q1,w.cell q2,w.cell q3,?_⟩
   refine w.call (Fa (m:=2*M) (NQ.mono X i4) iq zf ((l k j f r).mono (by omega)) (by omega) ?_)
   intro w6 g6 l6 i6 h6 s6
   refine ⟨_,_,_,_,_,_,_,_,rfl,w.le_le s6 l6,?_⟩
   refine s6.call (Ny (m:=3*M) (NQ.mono l6 ip) i6 ((l i j s r).mono (by omega)) ((zf.mul (l k j f r)).mono (by omega)) (by omega) ?_)
   intro w7 g7 l7 i7 h7 s7
   refine ⟨_,_,_,_,_,_,_,_,rfl,s6.le_le s7 l7,_,rfl,by omega,by omega,?_⟩
   refine ((B.next s6 l6).next s7 l7).store s r i7 ?_
   intro h8 o8 t8 _
   rw [ew r]
   refine ⟨⟨j+1,g7,o8,by omega,by omega,rfl,B0 X (B0 l6 l7),t8.congr fun a b _ _=>?_⟩,by simp only [U7];omega⟩
   unfold A2v gE
   by_cases c:a=i/\b=j
   ·rw [iP c,iP (by omega),c.1,c.2]
   ·rw [iN c]
    by_cases c2:k<a/\k<=b/\(a<i\/(a=i/\b<j))
    ·rw [iP c2,iP (by omega)]
    ·rw [iN c2,iN (by omega)]
  ·have ar:j=n:=by omega
   subst ar
   rw [ew s]
   refine ⟨⟨i+1,g5,o5,by omega,by omega,rfl,B0 aj (B0 l4 X),B.congr fun a b _ Z=>?_⟩,by simp only [U7];omega⟩
   unfold gE
   by_cases c2:k<a/\k<=b/\(a<i\/(a=i/\b<j))
   ·rw [iP c2,iP (by omega)]
   ·rw [iN c2,iN (by omega)]
 have aw:i=n:=by omega
 subst aw
 refine ⟨fun L hr=>∃ (j:Nat) (o':aE),k<j/\j<=i/\L=[I (j:Int)]/\Mt hr g3 o' bo G i i (fun a b=>if a=k/\k<b/\b<j then 0 else gE P2 k i 0 a b),fun L _=>i-(iAt L 0).toNat,⟨k+1,o3,by omega,by omega,rfl,H.congr fun a b _ _=>by rw [iN (by omega)]⟩,?_⟩
 clear H z
 rintro y3 hr ⟨j,o5,av,az,W,B⟩
 obtain rfl:=sI1 W
 have w:=B.sep
 refine B8 (fun af=>?_) (fun ah=>?_)
 ·have r:j<i:=by omega
  obtain ⟨c4,ao,S⟩:=B.head f
  refine ⟨_,rfl,by omega,by omega,_,_,_,w.cell S,_,rfl,by omega,by omega,?_⟩
  refine B.store f r (x:=Z5) NQ.zero ?_
  intro h8 o8 t8 _
  rw [ew r]
  refine ⟨⟨j+1,o8,by omega,by omega,rfl,t8.congr fun a b _ _=>?_⟩,by simp only [U7];omega⟩
  unfold A2v
  dsimp only
  by_cases c:a=k/\b=j
  ·rw [iP c,iP (by omega)]
  ·rw [iN c]
   by_cases c2:a=k/\k<b/\b<j
   ·rw [iP c2,iP (by omega)]
   ·rw [iN c2,iN (by omega)]
 ·refine ⟨⟨k+1,g3,o5,G,_,_,_,_,f,rfl,aj,B,ag.adv f y,fun a b ha ad Z ae=>?_,fun a b ha Z=>?_⟩,?_⟩
  ·rw [iN (by omega)]
   unfold gE
   rw [iP (by omega),C a b (by omega) ad (by omega) ae,C a k (by omega) ad (aC _) f,C k b (aC _) f (by omega) ae,Q]
   grind
  ·show Sz (16*gz m k+13) _
   split
   ·exact Sz.zero (by omega)
   ·rw [<- an];exact zE i 0 a b ha Z
  ·show i-((k+1:Nat):Int).toNat<i-((k:Nat):Int).toNat
   omega
def A19{r c:Int}{ls:Nat->List UInt8}(rv':aM SSr h A n ls)(hn:n<=1000000)(hl:LL n ls)(hs:∀ i,i<n->Sz m (rv (ls i)))(hm1:1<=m)(hb:∀ q,MOk r c n ls q q->gz m q<=400000000)
 (hK1:∀ q,bB r c n ls q->∀ d F,Diag q (mtx (rvs ls) q) d F->∀ h',h.le h'->K (.tuple #[I (Bl d q:Int),I (Uv d q:Int),I (Ej d q:Int),I 0]) h')
 (hK0:∀ e,SqE r c n ls e->∀ h',h.le h'->K (.tuple #[I 0,I 0,I 0,I e]) h'):aK prog Kk #[Dr r c A n cap] h K:=by
 refine A7q _ _ _ _ _ ?_
 unfold A9k
 refine Bc rv' hn hl ?_ (fun e k j f=>⟨_,_,_,_,rfl,F8 (fun _=>hK0 e k j f) (fun t=>by rcases k with ⟨_,x⟩|⟨_,_,x⟩<;>omega)⟩)
 intro q sq u cp j f _ l
 have b:=hb q sq.1
 have:=sq.1.r1;have:=sq.1.r2
 have a:=sq.1.len
 refine ⟨_,_,_,_,rfl,F8 (fun g=>absurd rfl g) (fun _=>?_)⟩
 refine A6q (m:=m) l sq.2.symm (by omega) (by omega) (fun i p=>hs i (by rw [a];exact p)) hm1 b ?_
 intro d F D s o
 exact ⟨_,_,_,rfl,hK1 q sq d F D s (B0 f o)⟩
end
structure FOut where
 r:Int
 n:Nat
 f:Nat->List UInt8
 dn:Nat
 g:Nat->List UInt8
 ok:Bool
 e:Int
def noF(e:Int):FOut:=⟨0,0,fun _=>[],0,fun _=>[],false,e⟩
def FacO(r c:Int)(n:Nat)(ls:Nat->List UInt8)(o:FOut):Prop:=
 (∃ e,SqE r c n ls e/\o=noF e)\/∃ q,bB r c n ls q/\(((∀ k,k<q->Pz (mtx (rvs ls) q) q k)/\o=⟨(q:Int),q*q,fun t=>K4 (A2w (mtx (rvs ls) q) q q t),q,fun t=>K4 (A2x (mtx (rvs ls) q) q t),true,0⟩)\/((¬ ∀ k,k<q->Pz (mtx (rvs ls) q) q k)/\o=noF 0))
def InO(r c:Int)(n:Nat)(ls:Nat->List UInt8)(p z m:Nat)(e:Int):Prop:=
 (SqE r c n ls e/\p=0/\z=0/\m=0)\/∃ q,bB r c n ls q/\e=0/\∃ d F,Diag q (mtx (rvs ls) q) d F/\p=Bl d q/\z=Uv d q/\m=Ej d q
section
variable {r c:Int} {n:Nat} {ls:Nat->List UInt8}
def SqE.eq{e e':Int}(x:SqE r c n ls e)(y:SqE r c n ls e'):e=e':=by
 rcases x with ⟨x1,rfl⟩|⟨x1,x2,rfl⟩<;>rcases y with ⟨y1,rfl⟩|⟨y1,y2,rfl⟩
 ·rfl
 ·exact absurd y1 x1
 ·exact absurd x1 y1
 ·rfl
def SqOk.eq{q q':Nat}(x:bB r c n ls q)(y:bB r c n ls q'):q=q':=by have:=x.1.er;have:=y.1.er;omega
def FacO.eq{o p:FOut}(x:FacO r c n ls o)(y:FacO r c n ls p):o=p:=by
 rcases x with ⟨e,x1,rfl⟩|⟨q,x1,x2⟩<;>rcases y with ⟨e',y1,rfl⟩|⟨q',y1,y2⟩
 ·rw [x1.eq y1]
 ·exact (x1.not y1).elim
 ·exact (y1.not x1).elim
 ·obtain rfl:=x1.eq y1
  rcases x2 with ⟨a,rfl⟩|⟨a,rfl⟩<;>rcases y2 with ⟨b,rfl⟩|⟨b,rfl⟩
  ·rfl
  ·exact absurd a b
  ·exact absurd b a
  ·rfl
def InO.eq{p z m p' z' m':Nat}{e e':Int}(x:InO r c n ls p z m e)(y:InO r c n ls p' z' m' e'):p=p'/\z=z'/\m=m'/\e=e':=by
 rcases x with ⟨x1,rfl,rfl,rfl⟩|⟨q,x1,rfl,d,F,D,rfl,rfl,rfl⟩<;>rcases y with ⟨y1,rfl,rfl,rfl⟩|⟨q',y1,rfl,d',F',D',rfl,rfl,rfl⟩
 ·exact ⟨rfl,rfl,rfl,x1.eq y1⟩
 ·exact (x1.not y1).elim
 ·exact (y1.not x1).elim
 ·obtain rfl:=x1.eq y1
  have:=D.same D'
  exact ⟨this.1,this.2.1,this.2.2,rfl⟩
end
section
variable {h:aE} {K:VP} {A A2 B B2:Option aF} {n cap cap2 cap3 cap4 m Q:Nat} {r c:Int} {ls:Nat->List UInt8}
def B0p(gl:Gl h)(rv':aM SSr h A n ls)(hn:n<=1000000)(hl:LL n ls)(hs:∀ i,i<n->Sz m (rv (ls i)))(hb:∀ q,MOk r c n ls q q->3^q*bnd q m+bnd q m<=Q)(hQ:Q<=20000000)
 (hK:∀ o,FacO r c n ls o->∀ A' B' c1 c2 h',h.le h'->aM SSr h' A' o.n o.f->aM SSr h' B' o.dn o.g->K (.tuple #[.agg #[I o.r,I o.r,.slice A' o.n c1,.slice B' o.dn c2],.bool o.ok,I o.e]) h'):aK prog Fj #[Dr r c A n cap] h K:=by
 refine Jg gl rv' hn hl hs hb hQ (fun q sq ok p k h' a b=>?_) (fun q sq ok h' a=>hK (noF 0) (.inr ⟨q,sq,.inr ⟨ok,rfl⟩⟩) none none 0 0 h' a RowV.nil RowV.nil) (fun e j h' a=>hK (noF e) (.inl ⟨e,j,rfl⟩) none none 0 0 h' a RowV.nil RowV.nil)
 obtain ⟨rfl,rfl,_⟩:=id sq.1
 exact hK ⟨_,_,_,_,_,_,_⟩ (.inr ⟨q,sq,.inl ⟨ok,rfl⟩⟩) _ _ _ _ h' a b.l b.d
def B0g(rv':aM SSr h A n ls)(hn:n<=1000000)(hl:LL n ls)(hs:∀ i,i<n->Sz m (rv (ls i)))(hb:∀ q,MOk r c n ls q q->3^q*bnd q m+bnd q m<=Q)(hQ:Q<=20000000)
 (hK:∀ o,FacO r c n ls o->∀ A' B' c1 c2 h',h.le h'->aM SSr h' A' o.n o.f->aM SSr h' B' o.dn o.g->K (.tuple #[.agg #[I o.r,I o.r,.slice A' o.n c1,.slice B' o.dn c2],.bool o.ok,I o.e]) h'):aK prog Vo #[Dr r c A n cap] h K:=by
 refine B1h _ _ _ _ _ ?_
 unfold B69
 refine Bc rv' hn hl ?_ (fun e G E p=>⟨_,_,_,_,rfl,F8 (fun _=>hK (noF e) (.inl ⟨e,G,rfl⟩) none none 0 0 E p RowV.nil RowV.nil) (fun W=>by rcases G with ⟨_,x⟩|⟨_,_,x⟩<;>omega)⟩)
 intro q sq bo cp E p _ R
 have b:=hb q sq.1
 have z:=sq.1.r1
 have s:=sq.1.r2
 have L:=sq.1.len
 have d:1<=Q:=by unfold bnd at b;omega
 have H:∀ i,i<q*q->Sz m (rvs ls i):=fun i l=>hs i (by omega)
 refine ⟨_,_,_,_,rfl,F8 (fun y=>absurd rfl y) (fun _=>?_)⟩
 refine Vf (Q:=Q) R z s (fun k u ok=>ldF H b sq.2.symm u ok) d (by omega) ?_ (fun B D w=>⟨_,_,_,_,_,_,_,rfl,Hp (hK (noF 0) (.inr ⟨q,sq,.inr ⟨B,rfl⟩⟩) none none 0 0 D (B0 p w) RowV.nil RowV.nil)⟩)
 intro ok b2 A2 c2 D w _ S M
 refine ⟨_,_,_,_,_,_,_,rfl,Br.nt ?_⟩
 have F:=fun k (u:k<=q)=>ldF H b sq.2.symm u fun m hm=>ok m (by omega)
 refine Zd (m:=2*Q) S (by omega) z (by omega) z (fun i j l T=>B3f (F j (by omega)) T d l) (by omega) ?_
 intro A3 c3 X J _ O
 refine ⟨_,_,_,_,_,rfl,?_⟩
 refine Yo (m:=Q) (M.mono R6 J) (by omega) (fun i l=>(F i (by omega)).zA i i (aC _) l l) (by omega) ?_
 intro Z N a
 refine ⟨_,_,_,rfl,hK ⟨(q:Int),q*q,fun t=>K4 (A2w (mtx (rvs ls) q) q q t),q,fun t=>K4 (A2x (mtx (rvs ls) q) q t),true,0⟩ (.inr ⟨q,sq,.inl ⟨ok,rfl⟩⟩) _ _ _ _ N (B0 p (B0 w (B0 J a.le))) ((O.mono J5 a.le).congr fun t C=>?_) ((a.vis J5).congr fun t C=>?_)⟩
 ·show K4 (ldL (mtx (rvs ls) q) (t/q) (t%q))=K4 (A2w (mtx (rvs ls) q) q q t)
  unfold A2w
  rw [iP (Nat.mod_lt t (by omega))]
 ·show K4 (ldD (mtx (rvs ls) q) t)=K4 (A2x (mtx (rvs ls) q) q t)
  have V:t<q:=C
  unfold A2x
  rw [iP V]
def B0c{o:FOut}(ra:aM SSr h A o.n o.f)(rb:aM SSr h B o.dn o.g)(ra2:aM SSr h A2 o.n o.f)(rb2:aM SSr h B2 o.dn o.g)(hn:o.n<=1000000000)(hdn:o.dn<=1000000000)(hK:K (.bool true) h):aK prog A6z #[.agg #[I o.r,I o.r,.slice A o.n cap,.slice B o.dn cap2],.agg #[I o.r,I o.r,.slice A2 o.n cap3,.slice B2 o.dn cap4]] h K:=by
 refine B92 _ _ _ _ _ _ _ _ _ _ _ _ _ _ _ _ ?_
 unfold C55
 refine Ky ra ra2 hn (fun _ _ _ _=>⟨_,rfl,Xj ?_⟩) (fun a=>absurd ⟨rfl,rfl,rfl,fun _ _=>rfl⟩ a)
 exact Cg rb rb2 hdn (fun _ _=>⟨_,rfl,hK⟩) (fun a=>absurd ⟨rfl,fun _ _=>rfl⟩ a)
def FacO.le{o:FOut}(x:FacO r c n ls o):o.n<=4096/\o.dn<=64:=by
 rcases x with ⟨e,_,rfl⟩|⟨q,sq,⟨_,rfl⟩|⟨_,rfl⟩⟩
 ·exact ⟨aL _,aL _⟩
 ·have:=sq.1.r2
  exact ⟨aR this this,this⟩
 ·exact ⟨aL _,aL _⟩
def B4e(gl:Gl h)(rv':aM SSr h A n ls)(hn:n<=1000000)(hl:LL n ls)(hs:∀ i,i<n->Sz m (rv (ls i)))(hb:∀ q,MOk r c n ls q q->sgM (bnd q m) (bnd q m) q<=100000000)
 (hK:∀ p z k e,InO r c n ls p z k e->∀ h',h.le h'->K (.tuple #[I (p:Int),I (z:Int),I (k:Int),I e]) h'):aK prog Kn #[Dr r c A n cap] h K:=
 A25 gl rv' hn hl hs hb (fun q sq d F D h' l=>hK _ _ _ _ (.inr ⟨q,sq,rfl,d,F,D,rfl,rfl,rfl⟩) h' l) (fun e a h' l=>hK 0 0 0 e (.inl ⟨a,rfl,rfl,rfl⟩) h' l)
def B3k(rv':aM SSr h A n ls)(hn:n<=1000000)(hl:LL n ls)(hs:∀ i,i<n->Sz m (rv (ls i)))(hm1:1<=m)(hb:∀ q,MOk r c n ls q q->gz m q<=400000000)
 (hK:∀ p z k e,InO r c n ls p z k e->∀ h',h.le h'->K (.tuple #[I (p:Int),I (z:Int),I (k:Int),I e]) h'):aK prog Kk #[Dr r c A n cap] h K:=
 A19 rv' hn hl hs hm1 hb (fun q sq d F D h' l=>hK _ _ _ _ (.inr ⟨q,sq,rfl,d,F,D,rfl,rfl,rfl⟩) h' l) (fun e a h' l=>hK 0 0 0 e (.inl ⟨a,rfl,rfl,rfl⟩) h' l)
end
def ValO(r c:Int)(n:Nat)(ls:Nat->List UInt8)(vn:Nat)(vs:Nat->List UInt8)(s:List UInt8)(e:Int):Prop:=
 (¬ (Mx r c n ls/\∀ i,i<vn->IsNum (vs i))/\s=[]/\e=1)\/((Mx r c n ls/\∀ i,i<vn->IsNum (vs i))/\(¬ ∃ q,bB r c n ls q/\vn=q)/\s=[]/\e=4)\/∃ q,bB r c n ls q/\vn=q/\(∀ i,i<vn->IsNum (vs i))/\s=K4 (qf q (mtx (rvs ls) q) (rvs vs))/\e=0
def ValO.eq{r c:Int}{n vn:Nat}{ls vs:Nat->List UInt8}{s s':List UInt8}{e e':Int}(x:ValO r c n ls vn vs s e)(y:ValO r c n ls vn vs s' e'):s=s'/\e=e':=by
 rcases x with ⟨x1,rfl,rfl⟩|⟨x1,x2,rfl,rfl⟩|⟨q,x1,x2,x3,rfl,rfl⟩<;>rcases y with ⟨y1,rfl,rfl⟩|⟨y1,y2,rfl,rfl⟩|⟨q',y1,y2,y3,rfl,rfl⟩
 ·exact ⟨rfl,rfl⟩
 ·exact absurd y1 x1
 ·exact absurd ⟨⟨_,_,y1.1⟩,y3⟩ x1
 ·exact absurd x1 y1
 ·exact ⟨rfl,rfl⟩
 ·exact absurd ⟨_,y1,y2⟩ x2
 ·exact absurd ⟨⟨_,_,x1.1⟩,x3⟩ y1
 ·exact absurd ⟨_,x1,x2⟩ y2
 ·obtain rfl:=x1.eq y1
  exact ⟨rfl,rfl⟩
section
variable {h:aE} {K:VP} {A B:Option aF} {n vn cap cap2:Nat} {r c:Int} {ls vs:Nat->List UInt8}
def Vw(gl:Gl h)(rv':aM SSr h A n ls)(hn:n<=1000000)(hl:LL n ls)
 (hK1:(∃ q,bB r c n ls q)->∀ h',h.le h'->K (.bool true) h') (hK0:∀ e,SqE r c n ls e->∀ h',h.le h'->K (.bool false) h'):aK prog Dy #[Dr r c A n cap] h K:=by
 refine A2r _ _ _ _ _ ?_
 unfold A07
 refine Fk gl rv' hn hl (fun q sq b a own=>⟨_,_,_,_,rfl,hK1 ⟨q,sq⟩ a own.le⟩) (fun e d a f=>⟨_,_,_,_,rfl,?_⟩)
 have:(e==(0:Int))=false:=beq_eq_false_iff_ne.2 (by rcases d with ⟨_,x⟩|⟨_,_,x⟩<;>omega)
 rw [this]
 exact hK0 e d a f
def B9e{q:Nat}{R:Nat->Nat->Rat}{f:Nat->Rat}(h5:q<=5)(hs:∀ i j,i<q->j<q->Sz 48 (R i j))(hf:∀ i,i<q->Sz 48 (f i)):(∀ i,i<q->Sz 486 (sm q fun j=>R i j*f j))/\∀ k,k<=q->Sz 2676 (sm k fun i=>f i*sm q fun j=>R i j*f j):=by
 have a:∀ i,i<q->Sz 486 (sm q fun j=>R i j*f j):=fun i c=>(Xm (m:=48) (f:=R i) (f2:=f) (fun j d=>hs i j c d) hf q (aC _)).mono (by omega)
 exact ⟨a,fun k b=>(B9i (m:=48) (m2:=486) (f:=f) (f2:=fun i=>sm q fun j=>R i j*f j) hf a k b).mono (by omega)⟩
def A72(gl:Gl h)(rv':aM SSr h A n ls)(rw':aM SSr h B vn vs)(hn:n<=1000000)(hvn:vn<=1000000)(hl:LL n ls)(hlv:LL vn vs)(hs:∀ i,i<n->Sz 48 (rv (ls i)))(hsv:∀ i,i<vn->Sz 48 (rv (vs i)))(hd:∀ a b,MOk r c n ls a b->a<=5)
 (hK:∀ s e,ValO r c n ls vn vs s e->∀ h',h.le h'->K (.tuple #[.string (bs s),I e]) h'):aK prog A1w #[Dr r c A n cap,.slice B vn cap2] h K:=by
 refine B6e _ _ _ _ _ _ _ _ ?_
 unfold C12
 have C:¬ (Mx r c n ls/\∀ i,i<vn->IsNum (vs i))->∀ h',h.le h'->K (.tuple #[.string (bs []),I 1]) h':=fun x=>hK [] 1 (.inl ⟨x,rfl,rfl⟩)
 refine Fk gl rv' hn hl ?_ ?_
 rotate_left
 ·intro e he h1 E
  refine ⟨_,_,_,_,rfl,?_⟩
  refine V6 (gl.mono E) (rw'.mono J5 E) hvn hlv (fun f b2 F g=>⟨_,_,_,_,rfl,?_⟩) (fun p F O=>⟨_,_,_,_,rfl,?_⟩)
  ·have d:=B0 E g.le
   rcases he with ⟨x,rfl⟩|⟨mx,x,rfl⟩
   ·exact D8 (fun _=>C (fun y=>x y.1) F d) (fun e=>absurd rfl e)
   ·refine D8 (fun e=>absurd e (by decide)) (fun _=>Br.nt (F8 (fun _=>hK [] 4 (.inr (.inl ⟨⟨mx,f⟩,(fun ⟨q,y,_⟩=>x ⟨q,y⟩),rfl,rfl⟩)) F d) (fun e=>absurd e (by decide))))
  ·have d:=B0 E O
   have b:=C (fun y=>p y.2) F d
   exact D8 (fun _=>b) (fun _=>Hp b)
 intro q sq b h1 own
 have E:=own.le
 refine ⟨_,_,_,_,rfl,?_⟩
 refine V6 (gl.mono E) (rw'.mono J5 E) hvn hlv (fun f b2 F g=>⟨_,_,_,_,rfl,D8 (fun e=>absurd e (by decide)) (fun _=>Br.nt (F8 (fun e=>absurd rfl e) (fun _=>?_)))⟩) (fun p F O=>⟨_,_,_,_,rfl,D8 (fun e=>absurd e (by decide)) (fun _=>Hp (C (fun y=>p y.2) F (B0 E O)))⟩)
 have d:=B0 E g.le
 have er:=sq.1.er
 refine F8 (fun e=>hK [] 4 (.inr (.inl ⟨⟨⟨_,_,sq.1⟩,f⟩,(fun ⟨q',y,z⟩=>e (by have:=y.1.er;omega)),rfl,rfl⟩)) F d) (fun e=>?_)
 obtain rfl:vn=q:=by omega
 have h5:=hd _ _ sq.1
 have q1:=sq.1.r1
 have ms:∀ i j,i<vn->j<vn->Sz 48 (mtx (rvs ls) vn i j):=fun i j R hj=>hs _ (by rw [sq.1.len];exact L8 R hj)
 obtain ⟨N,S⟩:=B9e h5 ms hsv
 refine A6n (m:=48) (gl.mono d) (rv'.mono J5 d) (rw'.mono J5 d) hn hvn hl hlv hs hsv (by omega) (by omega) ?_
 intro o ho A3 c3 h3 X r3
 refine ⟨_,_,_,_,rfl,?_⟩
 rcases ho with ⟨x,_⟩|⟨_,_,x,_⟩|⟨a,b',mk,_,_,rfl⟩
 ·exact absurd ⟨⟨_,_,sq.1⟩,f⟩ x
 ·exact absurd (by rw [sq.1.ec]) x
 obtain rfl:vn=a:=(sq.1.uniq mk).1.symm
 obtain rfl:vn=b':=(sq.1.uniq mk).2.symm
 have G:=B0 d X
 refine V6 (gl.mono G) r3 (show vn<=1000000 by omega) (fun i R=>Nat.le_trans (A0g (N i R)) (by omega)) ?_ (fun p=>absurd (fun i _=>⟨_,rfl⟩) p)
 intro _ b4 T t
 refine ⟨_,_,_,_,rfl,?_⟩
 have Q:=B0 G t.le
 have rp:aM RQr T (some ⟨b4,0,none⟩) vn (fun i=>sm vn fun j=>mtx (rvs ls) vn i j*rvs vs j):=(t.vis H1).congr fun i _=>In _
 have rx:=(g.vis H1).mono H1 (B0 X t.le)
 refine ⟨fun L H=>∃ (k:Nat) (w:QV),k<=vn/\L=[I (k:Int),.bool w.s,.slice w.A w.n w.c,.bool w.s2,.slice w.A2 w.n2 w.c2]/\T.le H/\RQ H w (sm k fun i=>rvs vs i*sm vn fun j=>mtx (rvs ls) vn i j*rvs vs j),fun L _=>vn-(iAt L 0).toNat,⟨0,⟨false,none,0,0,false,none,0,0⟩,by omega,rfl,B5 _,RQ.zero⟩,?_⟩
 rintro z s0 s1 s2 s3 s4 s5 s6 s7 H ⟨k,w,hk,V,M,W⟩
 simp only [aJ,aI,Value.bool.injEq,aW,true_and,and_true] at V
 obtain ⟨rfl,rfl,⟨rfl,rfl,rfl⟩,rfl,rfl,rfl,rfl⟩:=V
 have D:=B0 Q M
 refine B8 (fun ab=>?_) (fun ac=>?_)
 ·have l:k<vn:=by omega
  obtain ⟨a1,u,e1,iu,c0,c1,c2,c3⟩:=(rx.mono H1 M).qat l
  obtain ⟨a2,v,e2,iv,d0,d1,d2,d3⟩:=(rp.mono H1 M).qat l
  refine ⟨a1,e1,by omega,by omega,_,_,_,_,_,_,_,_,c0,c1,c2,c3,a2,e2,by omega,by show (k:Int)<(vn:Int);omega,_,_,_,_,_,_,_,_,d0,d1,d2,d3,?_⟩
  refine Ys (m:=486) (gl.mono D).tz iu iv ((hsv k l).mono (by omega)) (N k l) (by omega) ?_
  intro w5 aa J i5
  refine ⟨_,_,_,_,_,_,_,_,rfl,J,?_⟩
  refine Yt (a:=w) (m:=2676) (gl.mono (B0 D J)).tz (H1 _ _ _ _ J W) i5 (S k hk) (((hsv k l).mul (N k l)).mono (by omega)) (by omega) ?_
  intro w6 h6 Z i6
  refine ⟨_,_,_,_,_,_,_,_,rfl,Z,?_⟩
  rw [wiS k (by omega)]
  exact ⟨⟨k+1,w6,by omega,rfl,B0 M (B0 J Z),i6⟩,by simp only [U7];omega⟩
 ·obtain rfl:k=vn:=by omega
  refine Io (w:=w) (m:=2676) (gl.mono D).p10 W (S k (aC _)) (by omega) ⟨_,rfl,?_⟩
  exact hK _ 0 (.inr (.inr ⟨k,sq,rfl,f,rfl,rfl⟩)) H D
def A6p(rv':aM SSr h A n ls)(rw':aM SSr h B vn vs)(hn:n<=1000000)(hvn:vn<=1000000)(hl:LL n ls)(hlv:LL vn vs)(hs:∀ i,i<n->Sz 48 (rv (ls i)))(hsv:∀ i,i<vn->Sz 48 (rv (vs i)))(hd:∀ a b,MOk r c n ls a b->a<=5)
 (hK:∀ s e,ValO r c n ls vn vs s e->∀ h',h.le h'->K (.tuple #[.string (bs s),I e]) h'):aK prog A1p #[Dr r c A n cap,.slice B vn cap2] h K:=by
 refine B64 _ _ _ _ _ _ _ _ ?_
 unfold C0w
 have f:¬ (Mx r c n ls/\∀ i,i<vn->IsNum (vs i))->∀ h',h.le h'->K (.tuple #[.string (bs []),I 1]) h':=fun x=>hK [] 1 (.inl ⟨x,rfl,rfl⟩)
 refine Zc rv' hn hl (fun F J mk M N o _=>?_) (fun g N o=>⟨_,_,_,_,rfl,Uw (rw'.mono J5 o) hvn hlv (fun _ W t d=>⟨_,_,_,_,rfl,Hp (f (fun x=>g x.1) t (B0 o d.le))⟩) (fun _ t D=>⟨_,_,_,_,rfl,Hp (f (fun x=>g x.1) t (B0 o D))⟩)⟩)
 refine ⟨_,_,_,_,rfl,Uw (rw'.mono J5 o) hvn hlv ?_ (fun g t D=>⟨_,_,_,_,rfl,Br.nt (Hp (f (fun x=>g x.2) t (B0 o D)))⟩)⟩
 intro l W t d
 refine ⟨_,_,_,_,rfl,Br.nt (Br.nt ?_)⟩
 have p:=B0 o d.le
 have k:(¬ ∃ q,bB r c n ls q/\vn=q)->∀ h',h.le h'->K (.tuple #[.string (bs []),I 4]) h':=fun x=>hK [] 4 (.inr (.inl ⟨⟨⟨_,_,mk⟩,l⟩,x,rfl,rfl⟩))
 refine Bc (rv'.mono J5 p) hn hl ?_ (fun e H C w=>⟨_,_,_,_,rfl,F8 (fun _=>k (fun ⟨q,y,_⟩=>H.not y) C (B0 p w)) (fun e0=>by rcases H with ⟨_,x⟩|⟨_,_,x⟩<;>omega)⟩)
 intro q sq bo cp C w _ R
 have u:=B0 p w
 have er:=sq.1.er
 refine ⟨_,_,_,_,rfl,F8 (fun e=>absurd rfl e) (fun _=>F8 (fun e=>k (fun ⟨q',y,z⟩=>e (by have:=y.1.er;omega)) C u) (fun e=>?_))⟩
 obtain rfl:vn=q:=by omega
 have E:=hd _ _ sq.1
 have T:=sq.1.r1
 have G:∀ i j,i<vn->j<vn->Sz 48 (mtx (rvs ls) vn i j):=fun i j Z V=>hs _ (by rw [sq.1.len];exact L8 Z V)
 obtain ⟨z1,L⟩:=B9e E G hsv
 have M:vn*97<=5*97:=Nat.mul_le_mul_right _ E
 have S:vn*(2*(1+vn*(48+48+1))+1)<=5*(2*(1+5*97)+1):=aR E (by omega)
 refine B0f (m:=48) (m2:=48) R ((d.vis R6).mono R6 w) (by omega) G hsv (by omega) (by omega) (by omega) T ?_
 intro v O Q X
 refine ⟨_,_,_,_,_,_,_,_,rfl,Ud (m:=2676) X (L vn (aC _)) (by omega) ⟨_,rfl,?_⟩⟩
 exact hK _ 0 (.inr (.inr ⟨vn,sq,rfl,l,rfl,rfl⟩)) O (B0 u Q)
end
def bB1(m k:Nat):Nat:=3^k*bnd (k+k) m
def bB2(m k:Nat):Nat:=1+k*(2*bB1 m k+1)
def bB3(m k:Nat):Nat:=1+k*(2*bB2 m k+1)
def bB4(m k:Nat):Nat:=2*bB3 m k+2
section
variable {h:aE} {K:VP} {lA cA:Option aF} {ln lc cn cc:Nat} {ls cs:Nat->List UInt8}
end
def SchO.eq{r c z:Int}{n:Nat}{ls:Nat->List UInt8}{o p:MOut}(x:SchO r c n ls z o)(y:SchO r c n ls z p):o=p:=by
 rcases x with ⟨e,x1,rfl⟩|⟨q,x1,x2⟩<;>rcases y with ⟨e',y1,rfl⟩|⟨q',y1,y2⟩
 ·rw [x1.eq y1]
 ·exact (x1.not y1).elim
 ·exact (y1.not x1).elim
 ·obtain rfl:=x1.eq y1
  rcases x2 with ⟨a,rfl⟩|⟨k,l,ez,hk,hl,hq,x3⟩<;>rcases y2 with ⟨b,rfl⟩|⟨k',l',ez',hk',hl',hq',y3⟩
  ·rfl
  ·exact absurd ⟨by omega,by omega⟩ a
  ·exact absurd ⟨by omega,by omega⟩ b
  ·obtain rfl:k=k':=by omega
   obtain rfl:l=l':=by omega
   rcases x3 with ⟨a,rfl⟩|⟨a,rfl⟩<;>rcases y3 with ⟨b,rfl⟩|⟨b,rfl⟩
   ·rfl
   ·exact absurd b a
   ·exact absurd a b
   ·rfl
def SchO.le{r c z:Int}{n:Nat}{ls:Nat->List UInt8}{o:MOut}(x:SchO r c n ls z o):o.n<=4096:=by
 rcases x with ⟨e,_,rfl⟩|⟨q,sq,⟨_,rfl⟩|⟨k,l,_,_,_,a,⟨_,rfl⟩|⟨_,rfl⟩⟩⟩
 ·exact aL _
 ·exact aL _
 ·exact aL _
 ·have:=sq.1.r2
  exact aR (show l<=64 by omega) (show l<=64 by omega)
def C3x{q:Nat}(h:q<=5):sgM (bnd q 48) (bnd q 48) q<=100000000/\gz 48 q<=400000000:=by
 have key:∀ q,q<6->sgM (bnd q 48) (bnd q 48) q<=100000000/\gz 48 q<=400000000:=by
  unfold bnd
  decide
 exact key q (by omega)
def C3w{k:Nat}(h:k<5):7^k*48<=100000000:=by
 have key:∀ k,k<5->7^k*48<=100000000:=by decide
 exact key k h
def C3u{k:Nat}(h1:1<=k)(h:k<5):SchB k 48 (bB1 48 k) (bB2 48 k) (bB3 48 k) (bB4 48 k):=by
 have key:∀ k,k<5->1<=k->48<=bB1 48 k/\bB1 48 k<=bB2 48 k/\bB2 48 k<=bB3 48 k/\bB4 48 k<=10000000:=by
  unfold bB4 bB3 bB2 bB1 bnd
  decide
 obtain ⟨a,b,c,d⟩:=key k h h1
 exact ⟨by omega,aC _,aC _,aC _,⟨a,b,c⟩,aC _,d⟩
def B6i{b:Bool}{X Y:Prop}(x:X):Br (b==b) X Y:=by rw [beq_self_eq_true];exact x
section
variable {h:aE} {A B lA cA:Option aF} {n vn cap cap2 ln lc cn cc:Nat} {r c:Int} {ls cs vs:Nat->List UInt8}
def law_ldlRaw{z:Int}(gl:Gl h)(rm:aM SSr h A n ls)(hcap:n<=cap)(rw':aM SSr h B vn vs):aK prog A4g #[Dr r c A n cap,.slice B vn cap2,I z] h (C6s h):=by
 refine B1f _ _ _ _ _ _ _ _ _ ?_
 unfold B61
 have aw:∀ d,h.le d->aK prog Gz #[] d (fun r hp=>∃ t,r= .bool t/\C6s h (.bool t) hp):=fun d l=>A7b (gl.mono l) fun al ag=>⟨_,rfl,rfl,B0 l ag⟩
 have D:=aw h (B5 _)
 refine A6o rm (by omega) (fun ad=>⟨_,rfl,Br.nt ?_⟩) (fun _=>⟨_,rfl,Hp D⟩)
 refine B8 (fun _=>D) (fun ak=>?_)
 refine Vb rw' (by omega) (fun N=>⟨_,rfl,Br.nt ?_⟩) (fun _=>⟨_,rfl,Hp D⟩)
 obtain ⟨f,u,g,ac⟩:=B2d ad rfl
 have R:∀ i,i<vn->(vs i).length<=100000000:=fun i O=>by have:=N i O;omega
 have V:∀ i,i<vn->Sz 48 (rv (vs i)):=fun i O=>B7i (k:=12) (by have:=N i O;omega) (by omega)
 have G:∀ a b,MOk r c n ls a b->a<=5:=fun a b mk=>(ac a b mk).1
 have hb:∀ a,MOk r c n ls a a->3^a*bnd a 48+bnd a 48<=71000:=fun a mk=>C41 (G a a mk)
 have hB:∀ a k,MOk r c n ls a a->1<=k->k<a->∃ B1 B2 B3 B4,SchB k 48 B1 B2 B3 B4:=fun a k mk h1 h2=>⟨_,_,_,_,C3u h1 (by have:=G a a mk;omega)⟩
 have k1:aK prog Bg #[Dr r c A n cap] h (fun x d=>∃ (A':Option aF) (n' c':Nat) (e:Int),x= .tuple #[.slice A' n' c',I e]/\h.le d/\((e=0/\∃ q,bB r c n ls q)\/SqE r c n ls e)):=Bc rm g f (fun q sq bo cp d l _ _=>⟨_,_,_,_,rfl,l,.inl ⟨rfl,q,sq⟩⟩) (fun e X d l=>⟨_,_,_,_,rfl,l,.inr X⟩)
 refine FCall.mono k1 ?_
 rintro _ h1 ⟨A1,n1,c1,e1,rfl,l1,J⟩
 refine ⟨_,_,_,_,rfl,?_⟩
 refine B0p (Q:=71000) (gl.mono l1) (rm.mono J5 l1) g f u hb (by omega) ?_
 intro o ho A2 B2 c2 d2 h2 l2 f2 g2
 refine ⟨_,_,_,_,_,_,_,_,_,_,rfl,?_⟩
 have T:=B0 l1 l2
 refine B0g (Q:=71000) (rm.mono J5 T) g f u hb (by omega) ?_
 intro o' Z A3 B3 c3 d3 h3 l3 f3 g3
 obtain rfl:=ho.eq Z
 refine ⟨_,_,_,_,_,_,_,_,_,_,rfl,?_⟩
 have C:=B0 T l3
 have k2:aK prog Dy #[Dr r c A n cap] h3 (fun x d=>∃ b:Bool,x= .bool b/\h3.le d/\b=(e1==0)):=Vw (gl.mono C) (rm.mono J5 C) g f (fun ⟨q,sq⟩ d l=>⟨true,rfl,l,by
  rcases J with ⟨rfl,_⟩|J
  ·rfl
  ·exact (J.not sq).elim⟩) (fun e X d l=>⟨false,rfl,l,by
  rcases J with ⟨_,q,sq⟩|J
  ·exact (X.not sq).elim
  ·exact (beq_eq_false_iff_ne.2 (by rcases J with ⟨_,x⟩|⟨_,_,x⟩<;>omega)).symm⟩)
 refine FCall.mono k2 ?_
 rintro _ h4 ⟨b,rfl,M,rfl⟩
 have E:=B0 C M
 refine ⟨_,rfl,Br.not (B6i ?_)⟩
 have on:=ho.le
 refine B0c (f2.mono J5 (B0 l3 M)) (g2.mono J5 (B0 l3 M)) (f3.mono J5 M) (g3.mono J5 M) (by omega) (by omega) ⟨_,rfl,Br.nt (Br.not (B6i ?_))⟩
 refine F8 (fun e=>absurd rfl e) (fun _=>?_)
 refine B4e (m:=48) (gl.mono E) (rm.mono J5 E) g f u (fun a mk=>(C3x (G a a mk)).1) ?_
 intro p y w e O h5 l5
 refine ⟨_,_,_,_,rfl,?_⟩
 have S:=B0 E l5
 refine B3k (m:=48) (rm.mono J5 S) g f u (by omega) (fun a mk=>(C3x (G a a mk)).2) ?_
 intro p' y' w' e' af h6 l6
 obtain ⟨rfl,rfl,rfl,rfl⟩:=O.eq af
 refine ⟨_,_,_,_,rfl,?_⟩
 have j:=B0 S l6
 refine A72 (gl.mono j) (rm.mono J5 j) (rw'.mono J5 j) g (by omega) f R u V G ?_
 intro s e7 hv h7 l7
 refine ⟨_,_,rfl,?_⟩
 have F:=B0 j l7
 refine A6p (rm.mono J5 F) (rw'.mono J5 F) g (by omega) f R u V G ?_
 intro s' e8 ah h8 l8
 obtain ⟨rfl,rfl⟩:=hv.eq ah
 refine ⟨_,_,rfl,?_⟩
 have H:=B0 F l8
 refine A73 (m:=48) (gl.mono H) (rm.mono J5 H) hcap g f u hB ?_
 intro t ht A9 c9 h9 l9 r9
 refine ⟨_,_,_,_,_,_,rfl,?_⟩
 have W:=B0 H l9
 refine A6r (m:=48) (rm.mono J5 W) g f u (fun a k mk h2=>C3w (by have:=G a a mk;omega)) hB ?_
 intro t' ae A10 aj aa L ab
 obtain rfl:=ht.eq ae
 refine ⟨_,_,_,_,_,_,rfl,?_⟩
 have tn:=ht.le
 refine D8 (fun _=>?_) (fun e=>absurd rfl e)
 refine D8 (fun _=>?_) (fun e=>absurd rfl e)
 refine D8 (fun _=>?_) (fun e=>absurd rfl e)
 refine D8 (fun _=>?_) (fun e=>absurd rfl e)
 rw [Lb]
 refine B8 (fun _=>D8 (fun _=>?_) (fun e=>absurd rfl e)) (fun e=>absurd rfl e)
 refine Ky (r9.mono J5 L) ab (by omega) (fun _ _ _ _=>⟨_,rfl,Xj ?_⟩) (fun ai=>absurd ⟨rfl,rfl,rfl,fun _ _=>rfl⟩ ai)
 exact D8 (fun _=>aw aa (B0 W L)) (fun e=>absurd rfl e)
end
end Go.Proofs.YtmbfcbbkbefgfaaGreatDoor
namespace Go.Proofs.YtmbfcbbkbefgfaaGreatDoor
set_option maxRecDepth 20000
open Go Go.RowKit
def C4f(s:ByteArray):bs s.data.toList=s:=by
 cases s;simp [bs]
def open_strV{H:Type}{enc:TypeId × Value->H}{P:Program}{W:World}{base:Nat}{sp:Nat->Bool}{held:Bool}{t e:TypeId}{fuel:Nat}{A:Option aF}{len cap:Nat}{x:DataW H × List MemPlace}(ht:P.underlying t=some (.slice e))(he:P.underlying e=some .string)(hc:P.cellsOf e=1)
 (hf:DataW.trod enc P W base sp held fuel t [.slice A len cap]=some x):∃ ls:Nat->List UInt8,aM SSr (memOf W) A len ls/\len<=maxLen:=by
 rcases Deep.open_strs ht he hc hf with ⟨b,_⟩|⟨a,l,c,m,Sx,b,_,n,o,g,_,d⟩
 ·simp at b
  obtain ⟨rfl,rfl,rfl⟩:=b
  exact ⟨fun _=>[],RowV.nil,aL _⟩
 ·simp at b
  obtain ⟨rfl,rfl,rfl⟩:=b
  have k:len<=m:=by rw [g];split<;>omega
  have sl:SlV (memOf W) (some a) (((List.range len).map fun i=>(Sx i).data.toList).map fun l=>Value.string (bs l)):=by
   refine .inr ⟨a,rfl,fun i v f=>?_⟩
   rw [List.getElem?_map,List.getElem?_map] at f
   by_cases j:i<len
   ·rw [List.getElem?_range j] at f
    simp only [Option.map_some,Option.some.injEq,C4f] at f
    rw [<- f]
    exact Ql (d i (by omega)).1
   ·rw [List.getElem?_eq_none (by simpa using j)] at f;cases f
  have:=Ip sl
  rw [List.length_map,List.length_range] at this
  exact ⟨_,this,by omega⟩
end Go.Proofs.YtmbfcbbkbefgfaaGreatDoor
namespace Go.Proofs.YtmbfcbbkbefgfaaGreatDoor
set_option maxRecDepth 20000
open Go Go.RowKit
def open_matC{H:Type}{enc:TypeId × Value->H}{P:Program}{W:World}{base:Nat}{sp:Nat->Bool}{held:Bool}{r:Reach}{b0:Nat}{t e:TypeId}{f0 f1 f2:Field}{v:Value}{d:DataW H}{ps:List MemPlace}(ht:P.underlying t=some (.struct #[f0,f1,f2]))(u0:P.underlying f0.type=some (.int .i64))(u1:P.underlying f1.type=some (.int .i64))(u2:P.underlying f2.type=some (.slice e))(ue:P.underlying e=some .string)
 (hoff:f0.offset=0/\f1.offset=1/\f2.offset=2/\P.cellsOf f0.type=1/\P.cellsOf f1.type=1/\P.cellsOf f2.type=1/\P.cellsOf t=3/\P.cellsOf e=1)
 (hval:Value.okWide P W r b0 t v) (hd:DataW.Trod enc P W base sp held t v d ps):∃ (x y:Int) (A:Option aF) (len cap:Nat) (ls:Nat->List UInt8),v= .agg #[.int .i64 x,.int .i64 y,.slice A len cap]/\aM SSr (memOf W) A len ls/\len<=cap:=by
 obtain ⟨F,G,M,c0,c1,c2,J,o⟩:=hoff
 obtain ⟨g,rfl,b⟩:=WideShapes.okWide_struct ht hval
 obtain ⟨w,N⟩:=hd
 obtain ⟨Q,R,T,n,S,E,D,C,f⟩:=Deep.trod_struct3 ht N
 rw [F,c0] at D
 rw [G,c1] at C
 rw [M,c2] at f
 obtain ⟨u,k,_,_⟩:=DataW.trod_int u0 D
 obtain ⟨B,j,_,_⟩:=DataW.trod_int u1 C
 rw [J] at b
 have i:g.toList.length=3:=by simpa using b
 obtain ⟨p,q,z,hm⟩:∃ p q z,g.toList=[p,q,z]:=by
  match h:g.toList,i with
  | [p,q,z],_=>exact ⟨p,q,z,rfl⟩
 simp only [Value.cells] at k j f
 rw [hm] at k j f
 simp at k j f
 have L:∃ A len cap,z= .slice A len cap:=by
  rcases Deep.open_strs u2 ue o f with ⟨b,_⟩|⟨a,l,c,m,Sx,b,_⟩
  ·simp at b;exact ⟨_,_,_,b⟩
  ·simp at b;exact ⟨_,_,_,b⟩
 obtain ⟨A,len,cap,rfl⟩:=L
 obtain ⟨ls,O,_⟩:=open_strV u2 ue o f
 have s:len<=cap:=by
  rcases Deep.open_strs u2 ue o f with ⟨b,_⟩|⟨a,l,c,m,Sx,b,_,E,_⟩
  ·simp at b;omega
  ·simp at b;omega
 have:g=#[.int .i64 u,.int .i64 B,.slice A len cap]:=by rw [<- Array.toArray_toList (xs:=g),hm,k,j]
 exact ⟨u,B,A,len,cap,ls,by rw [this],O,s⟩
