/- A part. -/
import Derived.Test.YtmbfcbbkbefgfaaGreatDoorG31
import Derived.Test.YtmbfcbbkbefgfaaGreatDoorG32
import Derived.Deep.Strs
open Go.Proofs.Tryz
set_option linter.all false
open _root_.Go.Builtin renaming append_->aQ
open Int renaming gcd->aF,lcm->aL,sign_eq_zero_iff_zero->aY
open List renaming mem_cons_self->aD,getElem?_append_right->aO,getElem?_append_left->aP,mem_cons_of_mem->aS,length_append->aV
open List.cons renaming injEq->aK
open Nat renaming le_refl->aC,lt_succ_self->aH,zero_le->aI,mul_le_mul->aR,lt_irrefl->aT,zero_add->aZ
open Rat renaming divInt->aU,divInt_eq_div->aW,intCast_mul->aX
open _root_.Go.Value.int renaming injEq->aJ
open _root_.Go renaming Addr->aG
open _root_.Go.Proofs.YtmbfcbbkbefgfaaGreatDoor renaming Heap->aE,FCall->aM,RowV->aN
namespace Go.Proofs.YtmbfcbbkbefgfaaGreatDoor
set_option maxRecDepth 20000
open Go
def Uf(x:Rat):x*(x.den:Rat)=(x.num:Rat):=by
 have h:=(Rat.num_divInt_den x).symm
 rw [aW] at h
 have b:(((x.den:Nat):Int):Rat)=(x.den:Rat):=rfl
 have a:(((x.den:Nat):Int):Rat)≠0:=J6 (by have:=x.den_nz;omega)
 rw [b] at h a
 generalize (x.den:Rat)=d at *
 generalize (x.num:Rat)=n at *
 rw [h]
 grind
def B2z{x y:Rat}(hx:0<x)(hy:0<y){s:Rat}(hs:s=aU (aL x.num y.num) (aF (x.den:Int) (y.den:Int))):0<s/\s=((s/x).num:Rat)*x/\s=((s/y).num:Rat)*y:=by
 have l:∀ z:Rat,0<z->0<z.num:=fun z m=>by
  have k:(0:Rat)<(z.den:Rat):=by exact_mod_cast z.den_pos
  have f:=Rat.mul_pos m k
  rw [Uf] at f
  exact_mod_cast f
 have p:=l x hx
 have t:=l y hy
 have q:=x.den_pos
 have n:=y.den_pos
 have B:0<aF (x.den:Int) (y.den:Int):=Nat.gcd_pos_of_pos_left _ (by omega)
 have w:0<aL x.num y.num:=Nat.lcm_pos (by omega) (by omega)
 have c:s*((aF (x.den:Int) (y.den:Int):Nat):Int)=((aL x.num y.num:Nat):Int):=by
  rw [hs,aW]
  have:(((aF (x.den:Int) (y.den:Int):Nat):Int):Rat)≠0:=J6 (by omega)
  grind
 have key:∀ z:Rat,0<z->z.num∣((aL x.num y.num:Nat):Int)->((aF (x.den:Int) (y.den:Int):Nat):Int)∣(z.den:Int)->s=((s/z).num:Rat)*z:=by
  intro z m ⟨a,ha⟩ ⟨b,hb⟩
  have d:z*(z.den:Rat)=(z.num:Rat):=Uf z
  have r:(((aF (x.den:Int) (y.den:Int):Nat):Int):Rat)≠0:=J6 (by omega)
  have j:(z.den:Rat)=((((aF (x.den:Int) (y.den:Int):Nat):Int):Rat))*(b:Rat):=by
   rw [<- aX,<- hb];rfl
  have g:((((aL x.num y.num:Nat):Int)):Rat)=(z.num:Rat)*(a:Rat):=by rw [<- aX,<- ha]
  have e:s=((a*b:Int):Rat)*z:=by
   rw [aX]
   rw [g] at c
   generalize ((((aF (x.den:Int) (y.den:Int):Nat):Int):Rat))=G at *
   rw [j] at d
   have:s*G=((a:Rat)*b*z)*G:=by rw [c,<- d];grind
   grind
  have o:s/z=((a*b:Int):Rat):=by
   have:z≠0:=by grind
   rw [e];grind
  rw [o,Rat.num_intCast,<- e]
 have i:0<s:=by
  have k:(0:Rat)<((((aF (x.den:Int) (y.den:Int):Nat):Int)):Rat):=by exact_mod_cast (by omega:(0:Int)<((aF (x.den:Int) (y.den:Int):Nat):Int))
  have f:(0:Rat)<((((aL x.num y.num:Nat):Int)):Rat):=by exact_mod_cast (by omega:(0:Int)<((aL x.num y.num:Nat):Int))
  rw [<- c] at f
  refine Classical.byContradiction fun u=>?_
  have A:s<=0:=by grind
  have C:=Rat.mul_nonneg (show 0 <= -s by grind) (show (0:Rat)<=_ from (by grind:(0:Rat)<=((((aF (x.den:Int) (y.den:Int):Nat):Int)):Rat)))
  grind
 exact ⟨i,key x hx (Int.dvd_lcm_left ..) (Int.gcd_dvd_left ..),key y hy (Int.dvd_lcm_right ..) (Int.gcd_dvd_right ..)⟩
def C26{m:Nat}{x y:Int}(hx:ZB m x)(hy:ZB m y):ZB (m+m) ((aL x y:Nat):Int):=by
 refine (hx.mul hy).le ?_
 rw [Int.natAbs_natCast,Int.natAbs_mul]
 exact Nat.div_le_self _ _
def A00(i a:Nat):xch i i a=a:=by
 unfold xch
 by_cases e:a=i
 ·rw [iP e,e]
 ·rw [iN e,iN e]
section
variable {h g o:aE} {be:Nat} {T:Tb} {M:Nat->Nat->Int} {S:Nat->Rat} {n k m sc:Nat} {w:IV} {z:Int} {L D:Value} {K:VP}
def Jq{w:QV}{q:Rat}(i:RQ h w q)(hK:K (.agg #[.bool w.s,.slice w.A w.n w.c]) h):aM prog Ys #[w.v] h K:=by
 refine C2c _ _ _ _ _ _ _ _ ?_
 unfold C77
 exact hK
def A5n(t:Tab h g o T M S)(gl:Gl g){i l:Nat}(hi:i<T.rows)(hl:l<T.rows)(hil:i≠l)(pi:0<S i)(pl:0<S l)(zi:Sz sc (S i))(zl:Sz sc (S l))(hM:∀ a b,a<T.rows->b<T.cols->ZB m (M a b))(hs1:1<=sc)(hm:m+3*sc+1<=6400000000)
 (hK:∀ h' g' o' (x y:Int) (q:Rat),g.le g'->0<q->q=x*S i->q=y*S l->Sz (sc+sc) q->ZB (3*sc) x->ZB (3*sc) y->Tab h' g' o' T (fun a b=>if a=i then M i b*x+M l b*y else M a b) (fun a=>if a=i then q else S a)->(∀ b,b≠T.bE->b≠T.bS->o' b=o b)->K (.tuple #[]) h'):aM prog A8e #[.pointer (some ⟨T.bt,0,none⟩),I (i:Int),I (l:Int)] h K:=by
 refine B68 _ _ _ ?_
 unfold C0o
 obtain ⟨wx,ix,a0,a1,a2,a3⟩:=t.sat hi
 obtain ⟨wy,X,b0,b1,b2,b3⟩:=t.sat hl
 have W:=t.sep
 refine ⟨_,rfl,_,_,_,t.c2,_,rfl,by omega,by omega,_,_,_,_,_,_,_,_,a0,a1,a2,a3,_,rfl,_,_,_,t.c2,_,rfl,by omega,by omega,_,_,_,_,_,_,_,_,b0,b1,b2,b3,?_⟩
 refine Jq (I8 _ _ _ _ W.le ix) ⟨_,_,_,_,rfl,B5 _,?_⟩
 refine Jq (I8 _ _ _ _ W.le X) ⟨_,_,_,_,rfl,B5 _,?_⟩
 refine W.call (A2l (m:=sc) gl.tz ix.num X.num zi.num zl.num (by omega) ?_)
 intro A2 n2 c2 g2 l2 i2 h2 s2
 refine ⟨_,_,_,_,rfl,W.le_le s2 l2,?_⟩
 refine s2.call (Er (I8 _ _ _ _ l2 ix) ?_)
 intro x3 A3 n3 c3 g3 l3 i3 h3 s3
 refine ⟨_,_,_,_,rfl,s2.le_le s3 l3,?_⟩
 have R:=B0 l2 l3
 refine s3.call (Er (I8 _ _ _ _ R X) ?_)
 intro x4 A4 n4 c4 g4 l4 i4 h4 s4
 refine ⟨_,_,_,_,rfl,s3.le_le s4 l4,?_⟩
 have F:=B0 R l4
 refine s4.call (Cx (m:=sc) (gl.mono F).tz (i3.mono l4) i4 zi.den zl.den (by omega) ?_)
 intro A5 n5 c5 g5 l5 i5 h5 s5
 refine ⟨_,_,_,_,rfl,s4.le_le s5 l5,?_⟩
 have H:=B0 F l5
 have Q:((S i).den:Int)≠0:=by have:=(S i).den_nz;omega
 have A:((S l).den:Int)≠0:=by have:=(S l).den_nz;omega
 have aq:(aF ((S i).den:Int) ((S l).den:Int):Int)≠0:=by
  have:0<aF ((S i).den:Int) ((S l).den:Int):=Int.gcd_pos_of_ne_zero_left _ Q
  omega
 have V:=C26 zi.num zl.num
 have zg:ZB (sc+sc) (aF ((S i).den:Int) ((S l).den:Int):Int):=(ZB.gcd A zl.den).mono (by omega)
 refine s5.call (T0 (m:=sc+sc) (gl.mono H).tz (i2.mono (B0 l3 (B0 l4 l5))) i5 V zg (by omega) ?_)
 intro w6 g6 l6 i6 h6 s6
 refine ⟨_,_,_,_,_,_,_,_,rfl,s5.le_le s6 l6,?_⟩
 have p:=B0 H l6
 have O:Sz (sc+sc) (aU (aL (S i).num (S l).num) (aF ((S i).den:Int) ((S l).den:Int))):=U3 aq V zg
 obtain ⟨hq,ex,ey⟩:=B2z pi pl (s:=aU (aL (S i).num (S l).num) (aF ((S i).den:Int) ((S l).den:Int))) rfl
 generalize aU (aL (S i).num (S l).num) (aF ((S i).den:Int) ((S l).den:Int))=q at *
 refine s6.call (Jr (m:=sc+sc) (gl.mono p).tz i6 (I8 _ _ _ _ p ix) O (zi.mono (by omega)) (by omega) (by omega) ?_)
 intro w7 g7 Z i7 h7 s7
 refine ⟨_,_,_,_,_,_,_,_,rfl,s6.le_le s7 Z,?_⟩
 refine Jq (I8 _ _ _ _ s7.le i7) ⟨_,_,_,_,rfl,B5 _,?_⟩
 have B:=B0 p Z
 refine s7.call (Jr (m:=sc+sc) (gl.mono B).tz (I8 _ _ _ _ Z i6) (I8 _ _ _ _ B X) O (zl.mono (by omega)) (by omega) (by omega) ?_)
 intro w8 g8 l8 i8 h8 s8
 refine ⟨_,_,_,_,_,_,_,_,rfl,s7.le_le s8 l8,?_⟩
 refine Jq (I8 _ _ _ _ s8.le i8) ⟨_,_,_,_,rfl,B5 _,?_⟩
 have G:=B0 B l8
 have zx:ZB (3*sc) (q/S i).num:=(O.div zi hs1).num.mono (by omega)
 have zy:ZB (3*sc) (q/S l).num:=(O.div zl hs1).num.mono (by omega)
 have ae:=i7.num.mono l8
 have am:=i8.num
 have iq:=I8 _ _ _ _ (B0 Z l8) i6
 generalize (q/S i).num=x at *
 generalize (q/S l).num=y at *
 have t8:=t.next s8 G
 clear i7 i8 i6 i5 i4 i3 i2
 refine O4 t8 hi ⟨_,_,_,rfl,O4 t8 hl ⟨_,_,_,rfl,?_⟩⟩
 refine ⟨fun L hp=>∃ (c:Nat) (g' o':aE),c<=T.cols/\L=[I (c:Int)]/\g8.le g'/\Tab hp g' o' T (fun a b=>if a=i/\b<c then M i b*x+M l b*y else M a b) S/\∀ b,b≠T.bE->o' b=o b,fun L _=>T.cols-(iAt L 0).toNat,⟨0,g8,o,by omega,rfl,B5 _,t8.congr (fun a b _ _=>by rw [iN (by omega)]) (fun _ _=>rfl),fun _ _=>rfl⟩,?_⟩
 rintro z1 hp ⟨c,g9,o9,hc,eL,J,r,ko⟩
 obtain rfl:=sI1 eL
 have ay:=t.small
 refine B8 (fun au=>?_) (fun av=>?_)
 ·have d:c<T.cols:=by omega
  obtain ⟨u,iu,u0,u1⟩:=r.at hl d
  obtain ⟨v,iv,v0,v1⟩:=r.at hi d
  rw [iN (by omega)] at iu iv
  refine ⟨_,rfl,by omega,by omega,_,_,_,_,u0,u1,_,rfl,by omega,by omega,_,_,_,_,v0,v1,?_⟩
  refine r.sep.call (N3 (m:=m+3*sc) iv (ae.mono J) ((hM i c hi d).mono (by omega)) (zx.mono (by omega)) (by omega) ?_)
  intro a7 A10 a5 az a9 f ab E j
  refine ⟨_,_,_,_,rfl,r.sep.le_le j f,?_⟩
  refine j.call (N3 (m:=m+3*sc) (iu.mono f) (am.mono (B0 J f)) ((hM l c hl d).mono (by omega)) (zy.mono (by omega)) (by omega) ?_)
  intro ar A11 aw a4 a8 n ak a6 k
  refine ⟨_,_,_,_,rfl,j.le_le k n,?_⟩
  refine k.call (Ei (m:=m+3*sc) (ab.mono n) ak ((hM i c hi d).mul zx) ((hM l c hl d).mul zy) (by omega) ?_)
  intro ad A12 aa ah ao z ag ax N
  have al:=((r.next j f).next k n).next N z
  refine ⟨_,_,_,_,rfl,k.le_le N z,_,rfl,by omega,by omega,?_⟩
  refine al.store hi d (w:=⟨ad,A12,aa,ah⟩) ag ?_
  intro ba ai ac C
  rw [wiS c (by omega)]
  refine ⟨⟨c+1,ao,ai,by omega,rfl,B0 J (B0 f (B0 n z)),ac.congr (fun a b _ _=>?_) (fun _ _=>rfl),fun b hb=>by rw [C b hb];exact ko b hb⟩,by simp only [U9];omega⟩
  unfold C31
  try dsimp only
  by_cases e:a=i/\b=c
  ·rw [iP e,iP (by omega),e.2]
  ·rw [iN e]
   by_cases e2:a=i/\b<c
   ·rw [iP e2,iP (by omega)]
   ·rw [iN e2,iN (by omega)]
 ·have ec:c=T.cols:=by omega
  refine ⟨_,rfl,_,_,_,r.c2,_,rfl,by omega,by omega,?_⟩
  refine r.sstore hi (w:=w6) (I8 _ _ _ _ J iq) ?_
  intro E an aj D
  refine hK E g9 an x y q (B0 G J) hq ex ey O zx zy (aj.congr (fun a b _ hb=>?_) (fun _ _=>rfl)) (fun b ap af=>by rw [D b af];exact ko b ap)
  by_cases e:a=i
  ·rw [iP ⟨e,by omega⟩,iP e]
  ·rw [iN (fun x=>e x.1),iN e]
def El.tab(X:El h g o be T M S n k w z L D){h' g' o':aE}{M':Nat->Nat->Int}{S':Nat->Rat}(t:Tab h' g' o' T M' S')(lg:g.le g')(ko:∀ b,¬ onT T b->o' b=o b):El h' g' o' be T M' S' n k w z L D:=by
 obtain ⟨e,a⟩:=X.hd
 exact ⟨t,X.rows,X.cols,⟨e,by rw [ko _ X.off];exact a⟩,X.off,Fz _ _ _ _ lg X.last⟩
def Oo(X:El h g o be T M S n k w z L D){i l:Nat}(hi:i<n)(hl:l<n)(hn:n<=10000)
 (hK:∀ h' o',El h' g o' be T (fun a b=>M (xch i l a) (xch i l b)) (fun a=>S (xch i l a)) n k w z L D->(∀ b,¬ onT T b->o' b=o b)->K (.tuple #[]) h'):aM prog Gn #[.pointer (some ⟨be,0,none⟩),I (i:Int),I (l:Int)] h K:=by
 refine A54 _ _ _ ?_
 unfold A55
 have er:=X.rows
 have ec:=X.cols
 refine E5 (fun e=>?_) (fun e=>?_)
 ·obtain rfl:i=l:=by omega
  exact hK h o (X.tab (X.t.congr (fun a b _ _=>by rw [A00,A00]) (fun a _=>by rw [A00])) (B5 _) fun _ _=>rfl) (fun _ _=>rfl)
 refine ⟨_,rfl,_,X.c2,?_⟩
 refine A32 X.t (by omega) (by omega) (by omega) ?_
 intro h1 R t1 d
 have X1:=X.tab t1 (B5 _) fun b c=>d b (fun e=>c (.inr (.inl e))) (fun e=>c (.inr (.inr e)))
 refine ⟨rfl,_,rfl,_,X1.c0,?_⟩
 refine ⟨fun L' p=>∃ (r:Nat) (f:aE),r<=n/\L'=[I (r:Int)]/\El p g f be T (fun a b=>if a<r then M (xch i l a) (xch i l b) else M (xch i l a) b) (fun a=>S (xch i l a)) n k w z L D/\∀ b,¬ onT T b->f b=o b,fun L' _=>n-(iAt L' 0).toNat,⟨0,R,by omega,rfl,X1.tab (t1.congr (fun a b _ _=>by rw [iN (by omega)]) (fun _ _=>rfl)) (B5 _) (fun _ _=>rfl),fun b c=>d b (fun e=>c (.inr (.inl e))) (fun e=>c (.inr (.inr e)))⟩,?_⟩
 clear X1 t1 d
 rintro y p ⟨r,f,hr,Q,X2,ko2⟩
 obtain rfl:=sI1 Q
 refine B8 (fun H=>?_) (fun W=>?_)
 ·have V:r<n:=by omega
  obtain ⟨u,B,G,J⟩:=X2.t.at (i:=r) (j:=l) (by omega) (by omega)
  obtain ⟨v,C,O,N⟩:=X2.t.at (i:=r) (j:=i) (by omega) (by omega)
  rw [iN (aT r)] at B C
  refine ⟨_,rfl,_,X2.c2,O4 X2.t (by omega) ⟨_,_,_,rfl,_,rfl,by omega,by omega,_,_,_,_,G,J,_,rfl,by omega,by omega,_,_,_,_,O,N,_,rfl,by omega,by omega,?_⟩⟩
  refine X2.t.store (i:=r) (j:=i) (by omega) (by omega) (w:=u) B ?_
  intro Z o3 F q
  refine ⟨_,rfl,by omega,by omega,?_⟩
  refine F.store (i:=r) (j:=l) (by omega) (by omega) (w:=v) C ?_
  intro h4 A E s
  have m:∀ b,¬ onT T b->A b=f b:=fun b c=>by rw [s b (fun e=>c (.inr (.inl e))),q b (fun e=>c (.inr (.inl e)))]
  rw [wiS r (by omega)]
  refine ⟨⟨r+1,A,by omega,rfl,X2.tab (E.congr (fun a b _ _=>?_) (fun _ _=>rfl)) (B5 _) m,fun b c=>by rw [m b c];exact ko2 b c⟩,by simp only [U9];omega⟩
  unfold C31
  try dsimp only
  by_cases c1:a=r
  ·subst c1
   by_cases c2:b=l
   ·rw [iP ⟨rfl,c2⟩,iP (aH a),c2]
    have:xch i l l=i:=by unfold xch;rw [iN (by omega),iP rfl]
    rw [this]
   ·rw [iN (fun x=>c2 x.2)]
    by_cases c3:b=i
    ·rw [iP ⟨rfl,c3⟩,iP (aH a),c3,Ah]
    ·rw [iN (fun x=>c3 x.2),iN (aT a),iP (aH a)]
     have:xch i l b=b:=by unfold xch;rw [iN c3,iN c2]
     rw [this]
  ·rw [iN (fun x=>c1 x.1),iN (fun x=>c1 x.1)]
   by_cases c2:a<r
   ·rw [iP c2,iP (by omega)]
   ·rw [iN c2,iN (by omega)]
 ·exact hK p f (X2.tab (X2.t.congr (fun a b ha _=>by rw [iP (by omega)]) (fun _ _=>rfl)) (B5 _) fun _ _=>rfl) ko2
def A3i{R A0 F:Nat->Nat->Rat}{d:Nat->Rat}(X:El h g o be T M S n k w z L D)(gl:Gl g)(te:TE n k R M S z)(pd:PD n k A0 d F R)(hk:k<=n)(hn:n<=10000)(hM:∀ a b,a<n->b<n->ZB m (M a b))(hS:∀ a,a<n->Sz sc (S a))(hs1:1<=sc)(hb:m+3*sc+2<=6400000000)
 (hK1:∀ h' g' o' M' S' R' F',g.le g'->El h' g' o' be T M' S' n k w z L D->TE n k R' M' S' z->k<n->R' k k≠0->PD n k A0 d F' R'->(∀ a b,a<n->b<n->ZB (m+3*sc+2) (M' a b))->(∀ a,a<n->Sz (sc+sc) (S' a))->K (.bool true) h')
 (hK0:(∀ i j,i<n->j<n->R i j=0)->K (.bool false) h):aM prog Qo #[.pointer (some ⟨be,0,none⟩)] h K:=by
 refine A7d _ ?_
 unfold A97
 have er:=X.rows
 have ec:=X.cols
 refine ⟨_,rfl,_,X.c1,?_⟩
 refine ⟨fun L' hp=>∃ i:Nat,k<=i/\i<=n/\L'=[I (i:Int)]/\hp=h/\∀ j,k<=j->j<i->R j j=0,fun L' _=>n-(iAt L' 0).toNat,⟨k,aC _,hk,rfl,rfl,fun j _ _=>by omega⟩,?_⟩
 rintro y hp ⟨i,O,a6,eL,rfl,hz⟩
 obtain rfl:=sI1 eL
 refine ⟨_,rfl,_,X.c0,B8 (fun a2=>?_) (fun a4=>?_)⟩
 ·have B:i<n:=by omega
  obtain ⟨u,iu,u0,u1⟩:=X.t.at (i:=i) (j:=i) (by omega) (by omega)
  refine ⟨_,rfl,_,X.c2,O4 X.t (by omega) ⟨_,_,_,rfl,_,rfl,by omega,by omega,_,_,_,_,u0,u1,?_⟩⟩
  refine F5 (iu.mono X.t.sep.le) ⟨_,rfl,Br.not (B8 (fun e=>?_) (fun e=>?_))⟩
  ·rw [wiS i (by omega)]
   refine ⟨⟨i+1,by omega,by omega,rfl,rfl,fun j a b=>?_⟩,by simp only [U9];omega⟩
   by_cases c:j=i
   ·rw [c];exact (te.zero O B B).1 e
   ·exact hz j a (by omega)
  ·refine ⟨_,rfl,_,X.c1,Oo X (by omega) B hn ?_⟩
   intro E o1 X1 ab
   have A:k<n:=by omega
   refine ⟨rfl,hK1 E g o1 _ _ _ _ (B5 _) X1 (te.swap O B) A ?_ (pd.swap A B (aC _) O) (fun a b ha hb=>(hM _ _ (R6 A B ha) (R6 A B hb)).mono (by omega)) (fun a ha=>(hS _ (R6 A B ha)).mono (by omega))⟩
   show R (xch k i k) (xch k i k)≠0
   rw [Ah]
   exact fun x=>e ((te.zero O B B).2 x)
 have ap:i=n:=by omega
 subst ap
 have N:∀ j,k<=j->j<i->R j j=0:=hz
 refine ⟨_,rfl,_,X.c1,?_⟩
 refine ⟨fun L' hx=>∃ a:Nat,k<=a/\a<=i/\L'=[I (a:Int)]/\hx=hp/\∀ b c,k<=b->b<a->b<c->c<i->R b c=0,fun L' _=>i-(iAt L' 0).toNat,⟨k,aC _,hk,rfl,rfl,fun b c _ _=>by omega⟩,?_⟩
 rintro y1 hx ⟨a,C,a5,ar,rfl,V⟩
 obtain rfl:=sI1 ar
 refine ⟨_,rfl,_,X.c0,B8 (fun aw=>?_) (fun ay=>?_)⟩
 rotate_left
 ·have aj:a=i:=by omega
  subst aj
  refine hK0 fun b c hb H=>?_
  by_cases c1:b<k
  ·exact pd.zero b c hb H (.inl c1)
  ·by_cases c2:c<k
   ·exact pd.zero b c hb H (.inr c2)
   ·rcases Nat.lt_trichotomy b c with c3|c3|c3
    ·exact V b c (by omega) hb c3 H
    ·rw [c3];exact N c (by omega) H
    ·rw [pd.symm b c hb H];exact V c b (by omega) H c3 hb
 have f:a<i:=by omega
 have ew:∀ {j:Nat},j<i->B7 ((j:Int)+1)=((j+1:Nat):Int):=fun {j} hj=>by rw [C0]<;>omega
 rw [ew f]
 refine ⟨fun L' hy=>∃ b:Nat,a<b/\b<=i/\L'=[I (b:Int)]/\hy=hx/\∀ c,a<c->c<b->R a c=0,fun L' _=>i-(iAt L' 0).toNat,⟨a+1,by omega,by omega,rfl,rfl,fun c _ _=>by omega⟩,?_⟩
 rintro y2 hy ⟨b,a7,a3,ai,rfl,aa⟩
 obtain rfl:=sI1 ai
 refine ⟨_,rfl,_,X.c0,B8 (fun ax=>?_) (fun a0=>?_)⟩
 rotate_left
 ·have ad:b=i:=by omega
  subst ad
  refine ⟨⟨a+1,by omega,by omega,rfl,rfl,fun b' c E J h3 h4=>?_⟩,by simp only [U9];omega⟩
  by_cases e:b'=a
  ·rw [e];exact aa c (by omega) h4
  ·exact V b' c E (by omega) h3 h4
 have s:b<i:=by omega
 rw [ew s]
 obtain ⟨u,iu,u0,u1⟩:=X.t.at (i:=a) (j:=b) (by omega) (by omega)
 refine ⟨_,rfl,_,X.c2,O4 X.t (by omega) ⟨_,_,_,rfl,_,rfl,by omega,by omega,_,_,_,_,u0,u1,?_⟩⟩
 refine F5 (iu.mono X.t.sep.le) ⟨_,rfl,B8 (fun e=>?_) (fun e=>?_)⟩
 ·refine ⟨⟨b+1,by omega,by omega,rfl,rfl,fun c E J=>?_⟩,by simp only [U9];omega⟩
  by_cases e2:c=b
  ·rw [e2];exact (te.zero C f s).1 e
  ·exact aa c E (by omega)
 have ak:R a b≠0:=fun x=>e ((te.zero C f s).2 x)
 refine ⟨_,rfl,_,X.c2,?_⟩
 refine A5n (m:=m) (sc:=sc) X.t gl (i:=a) (l:=b) (by omega) (by omega) (by omega) (te.scale a C f) (te.scale b (by omega) s) (hS a f) (hS b s) (fun c1 c2 E J=>hM c1 c2 (by omega) (by omega)) hs1 (by omega) ?_
 intro E g1 o1 x y q l1 hq ex ey zq zx zy t1 ab
 have X1:=X.tab t1 l1 fun c H=>ab c (fun e=>H (.inr (.inl e))) (fun e=>H (.inr (.inr e)))
 have ae:=te.addRow C f (show k<=b by omega) s hq ex ey
 have ag:=ae.addCol C f (show k<=b by omega) s
 have au:=pd.merge f s C (by omega) (by omega)
 have aq:∀ c1 c2,c1<i->c2<i->ZB (m+3*sc+1) (if c1=a then M a c2*x+M b c2*y else M c1 c2):=fun c1 c2 E J=>by
  split
  ·exact ((hM a c2 f J).mul zx).add ((hM b c2 s J).mul zy)
  ·exact (hM c1 c2 E J).mono (by omega)
 have ah:∀ c,c<i->Sz (sc+sc) (if c=a then q else S c):=fun c H=>by
  split
  ·exact zq
  ·exact (hS c H).mono (by omega)
 generalize hM1e:(fun c1 c2=>if c1=a then M a c2*x+M b c2*y else M c1 c2)=M1 at *
 generalize hS1e:(fun c=>if c=a then q else S c)=S1 at *
 have ao:TE i k (Hf a b R) (fun c1 c2=>if c2=a then M1 c1 a+M1 c1 b else M1 c1 c2) S1 z:=by
  rw [<- hM1e];exact ag
 have G: ∀ c1 c2,c1<i->c2<i->ZB (m+3*sc+1) (M1 c1 c2):=fun c1 c2 E J=>by rw [<- hM1e];exact aq c1 c2 E J
 have ac: ∀ c,c<i->Sz (sc+sc) (S1 c):=fun c H=>by rw [<- hS1e];exact ah c H
 refine ⟨rfl,_,rfl,_,X1.c0,?_⟩
 refine ⟨fun L' hv=>∃ (r:Nat) (Z o2:aE),r<=i/\L'=[I (r:Int)]/\g1.le Z/\El hv Z o2 be T (fun c1 c2=>if c1<r/\c2=a then M1 c1 a+M1 c1 b else M1 c1 c2) S1 i k w z L D,fun L' _=>i-(iAt L' 0).toNat,⟨0,g1,o1,by omega,rfl,B5 _,X1.tab (t1.congr (fun c1 c2 _ _=>by rw [iN (by omega)]) (fun _ _=>rfl)) (B5 _) fun _ _=>rfl⟩,?_⟩
 rintro y3 hv ⟨r,Z,o2,hr,al,l2,X2⟩
 obtain rfl:=sI1 al
 refine B8 (fun av=>?_) (fun az=>?_)
 ·have W:r<i:=by omega
  obtain ⟨p,ip,p0,p1⟩:=X2.t.at (i:=r) (j:=a) (by omega) (by omega)
  obtain ⟨v,iv,v0,v1⟩:=X2.t.at (i:=r) (j:=b) (by omega) (by omega)
  rw [iN (by omega)] at ip iv
  refine ⟨_,rfl,_,X2.c2,O4 X2.t (by omega) ⟨_,_,_,rfl,_,rfl,by omega,by omega,_,_,_,_,p0,p1,_,rfl,by omega,by omega,_,_,_,_,v0,v1,?_⟩⟩
  refine X2.t.sep.call (Ei (m:=m+3*sc+1) ip iv (G r a W f) (G r b W s) (by omega) ?_)
  intro x3 A3 n3 c3 g3 l3 i3 h3 s3
  refine ⟨_,_,_,_,rfl,X2.t.sep.le_le s3 l3,_,rfl,by omega,by omega,?_⟩
  refine (X2.t.next s3 l3).store (i:=r) (j:=a) (by omega) (by omega) (w:=⟨x3,A3,n3,c3⟩) i3 ?_
  intro h4 o4 t4 af
  rw [ew W]
  refine ⟨⟨r+1,g3,o4,by omega,rfl,B0 l2 l3,(X2.next s3 l3).tab (t4.congr (fun c1 c2 _ _=>?_) (fun _ _=>rfl)) (B5 _) fun c H=>af c (fun e=>H (.inr (.inl e)))⟩,by simp only [U9];omega⟩
  unfold C31
  try dsimp only
  by_cases Q:c1=r/\c2=a
  ·rw [iP Q,iP (by omega),Q.1]
  ·rw [iN Q]
   by_cases e2:c1<r/\c2=a
   ·rw [iP e2,iP (by omega)]
   ·rw [iN e2,iN (by omega)]
 ·have am:r=i:=by omega
  subst am
  have X3:El hv Z o2 be T (fun c1 c2=>if c2=a then M1 c1 a+M1 c1 b else M1 c1 c2) S1 r k w z L D:=X2.tab (X2.t.congr (fun c1 c2 E _=>by
   by_cases Q:c2=a
   ·rw [iP ⟨by omega,Q⟩,iP Q]
   ·rw [iN (fun x=>Q x.2),iN Q]) (fun _ _=>rfl)) (B5 _) fun _ _=>rfl
  have A:k<r:=by omega
  refine ⟨_,rfl,_,X3.c1,Oo X3 A f hn ?_⟩
  intro h5 o5 X5 a1
  have an:∀ c1 c2,c1<r->c2<r->ZB (m+3*sc+2) (if c2=a then M1 c1 a+M1 c1 b else M1 c1 c2):=fun c1 c2 E J=>by
   split
   ·exact (G c1 a E f).add (G c1 b E s)
   ·exact (G c1 c2 E J).mono (by omega)
  refine ⟨rfl,hK1 h5 Z o5 _ _ _ _ (B0 l1 l2) X5 (ao.swap C f) A ?_ (au.swap A f (aC _) C) (fun c1 c2 E J=>an _ _ (R6 A f E) (R6 A f J)) (fun c H=>ac _ (R6 A f H))⟩
  show Hf a b R (xch k a k) (xch k a k)≠0
  rw [Ah]
  unfold Hf
  rw [iP rfl,iP rfl,iP rfl,N a C f,N b (by omega) s,pd.symm b a s f]
  intro x
  exact ak (by grind)
end
def sgS(s:Nat):Nat->Nat
 | 0=>s
 | k+1=>sgS s k+sgS s k
def sgM(m s:Nat):Nat->Nat
 | 0=>m
 | k+1=>2*(sgM m s k+3*sgS s k+2)+1
def A0c(m s:Nat):∀ n k,k<=n->sgM m s k<=sgM m s n:=by
 intro n
 induction n with
 | zero=>intro k h;rw [show k=0 by omega];exact aC _
 | succ n ih=>
  intro k h
  by_cases c:k=n+1
  ·rw [c];exact aC _
  ·have:=ih k (by omega)
   rw [show sgM m s (n+1)=2*(sgM m s n+3*sgS s n+2)+1 from rfl]
   omega
def C3e(s:Nat):∀ k,sgS s k<=sgM s s k:=by
 intro k
 induction k with
 | zero=>exact aC _
 | succ k ih=>
  rw [show sgM s s (k+1)=2*(sgM s s k+3*sgS s k+2)+1 from rfl,show sgS s (k+1)=sgS s k+sgS s k from rfl]
  omega
def C14{s:Nat}(h:1<=s):∀ k,1<=sgS s k:=by
 intro k
 induction k with
 | zero=>exact h
 | succ k ih=>rw [show sgS s (k+1)=sgS s k+sgS s k from rfl];omega
def Js{d d':Nat->Rat}: ∀ n,(∀ m,m<n->d m=d' m)->Bg d n=Bg d' n:=by
 intro n
 induction n with
 | zero=>exact fun _=>rfl
 | succ n ih=>intro h;rw [Bg,Bg,ih fun m a=>h m (by omega),h n (by omega)]
def Jt{d d':Nat->Rat}: ∀ n,(∀ m,m<n->d m=d' m)->Ec d n=Ec d' n:=by
 intro n
 induction n with
 | zero=>exact fun _=>rfl
 | succ n ih=>intro h;rw [Ec,Ec,ih fun m a=>h m (by omega),h n (by omega)]
def B7d(d:Nat->Rat)(k:Nat):∀ j,Bg (fun m=>if m<k then d m else 0) (k+j)=Bg d k:=by
 intro j
 induction j with
 | zero=>exact Js k fun m a=>iP a
 | succ j ih=>
  rw [<- Nat.add_assoc,Bg,ih,iN (show ¬ k+j<k by omega),iN (by decide +kernel),Nat.add_zero]
def B7f(d:Nat->Rat)(k:Nat):∀ j,Ec (fun m=>if m<k then d m else 0) (k+j)=Ec d k:=by
 intro j
 induction j with
 | zero=>exact Jt k fun m a=>iP a
 | succ j ih=>
  rw [<- Nat.add_assoc,Ec,ih,iN (show ¬ k+j<k by omega),iN (by decide +kernel),Nat.add_zero]
def InI(h:aE)(be:Nat)(T:Tb)(E:Nat->Rat)(q B k:Nat)(d:Nat->Rat)(hp:aE):Prop:=
 ∃ (g o:aE) (M:Nat->Nat->Int) (S:Nat->Rat) (R F:Nat->Nat->Rat) (w:IV) (z:Int),h.le g/\El hp g o be T M S q k w z (.slice none 0 0) (.slice none 0 0)/\TE q k R M S z/\PD q k (mtx E q) d F R/\(∀ a b,a<q->b<q->ZB (sgM B B k) (M a b))/\ZB (sgM B B k) z/\∀ a,a<q->Sz (sgS B k) (S a)
section
variable {h:aE} {K:VP} {A:Option aG} {n cap m:Nat} {r c:Int} {ls:Nat->List UInt8} {E:Nat->Rat}
def A3n(gl:Gl h)(rq:aN RQr h A (n*n) E)(hcap:n*n<=cap)(hn1:1<=n)(hn:n<=64)(hs:∀ i,i<n*n->Sz m (E i))(hb:bnd n m<=100000000)(sy:A5d n (mtx E n))
 (hK:∀ h' be T,InI h be T E n (bnd n m) 0 (fun _=>0) h'->K (.pointer (some ⟨be,0,none⟩)) h'):aM prog T3 #[.slice A (n*n) cap,I (n:Int)] h K:=by
 have N:n*n<=64*64:=aR hn hn
 have Q:bnd n m=1+n*m+m:=rfl
 refine Dx _ _ _ _ ?_
 unfold Dl
 refine Fy (m:=m) gl rq hcap hn1 (by omega) hn1 (by omega) hs (by omega) ?_
 intro V S Z T r t1 F O
 refine ⟨_,rfl,?_⟩
 refine t1.sep.call (Cv (by decide) (by decide) ?_)
 intro u A2 y c2 w z L W p
 have d:=t1.next p z
 refine ⟨_,_,_,_,rfl,Wa ?_⟩
 intro be c
 have g:∀ {l B q:aE} {k x b},Sep l B q->q k=some x->l b=none->k≠b:=by
  rintro l B q k x b s e hb rfl
  rw [s.own k x e] at hb;cases hb
 have f:¬ onT T be:=by
  obtain ⟨⟨y1,D⟩,⟨R,H⟩,⟨X,M⟩⟩:=d.own
  rintro (rfl|rfl|rfl)
  ·exact g d.sep D c rfl
  ·exact g d.sep H c rfl
  ·exact g d.sep M c rfl
 have J:=d.sep.new c (.cells (Value.agg #[I (n:Int),I (0:Int),.pointer (some ⟨T.bt,0,none⟩),.bool u,.slice A2 y c2,.slice none 0 0,.slice none 0 0]).cells Fq)
 have X3:El _ w _ be T (A08 E n) (Tz E n) n 0 ⟨u,A2,y,c2⟩ 1 (.slice none 0 0) (.slice none 0 0):=⟨d.keep J (B5 _) (fun k x e _=>by rw [B9 _ _ (g d.sep e c)];exact e),F,O,⟨Fq,C2 _ _ _⟩,f,L⟩
 have C:∀ i,i<n->∀ j,j<n->Sz m (E (i*n+j)):=fun i G j o=>hs _ (O2 G o)
 exact ⟨_,rfl,hK _ be T ⟨w,_,_,_,_,_,_,_,B0 r z,X3,TE.start (fun i j _ o=>B1v E n i o) (fun i _=>Nd E n i),PD.start _ sy,fun a b t hb=>B1u (C a t) hb,ZB.one (show 1<=bnd n m by omega),fun a t=>A07 (C a t)⟩⟩
def A1p(gl:Gl h)(rv':aN SSr h A n ls)(hn:n<=1000000)(hl:LL n ls)(hs:∀ i,i<n->Sz m (rv (ls i)))(hb:∀ q,MOk r c n ls q q->sgM (bnd q m) (bnd q m) q<=100000000)
 (hK1:∀ q,SqOk r c n ls q->∀ d F,Diag q (mtx (rvs ls) q) d F->∀ h',h.le h'->K (.tuple #[I (Bg d q:Int),I (Uo d q:Int),I (Ec d q:Int),I 0]) h')
 (hK0:∀ e,SqE r c n ls e->∀ h',h.le h'->K (.tuple #[I 0,I 0,I 0,I e]) h'):aM prog Kc #[Hb r c A n cap] h K:=by
 refine A7g _ _ _ _ _ ?_
 unfold A9a
 refine Qr gl rv' hn hl ?_ (fun e he u l1=>⟨_,_,_,_,rfl,I4 (fun _=>hK0 e he u l1) (fun e0=>by rcases he with ⟨_,x⟩|⟨_,_,x⟩<;>omega)⟩)
 intro q sq b u own
 obtain ⟨mk,st⟩:=id sq
 have Z:=hb q mk
 have:=mk.r1;have:=mk.r2
 obtain ⟨rfl,rfl,_,_,_,_,rfl,ak⟩:=id mk
 refine ⟨_,_,_,_,rfl,I4 (fun s=>absurd rfl s) (fun _=>?_)⟩
 have ab:1<=bnd q m:=by unfold bnd;omega
 have af:bnd q m<=100000000:=Nat.le_trans (A0c (bnd q m) (bnd q m) q 0 (by omega)) Z
 refine A3n (m:=m) (gl.mono own.le) (own.vis I8) (aC _) (by omega) (by omega) hs af st.symm ?_
 intro h2 be T I0
 generalize bnd q m=B at *
 refine ⟨_,rfl,fun L hp=>∃ (k:Nat) (d:Nat->Rat),k<=q/\L=[I (Bg d k:Int),I (Ec d k:Int)]/\Bg d k+Ec d k=k/\InI u be T (rvs ls) q B k d hp,fun L _=>q-((iAt L 0).toNat+(iAt L 1).toNat),⟨0,_,by omega,rfl,rfl,I0⟩,?_⟩
 clear I0
 rintro H neg hp ⟨k,d,hk,eL,am,g,o,M,S,R,F,w,z,lg,X,te,pd,hM,hz,hS⟩
 simp only [aK,aJ,true_and,and_true] at eL
 obtain ⟨rfl,rfl⟩:=eL
 have l0:=B0 own.le lg
 have al:sgM B B k<=sgM B B q:=A0c B B q k hk
 have an:=C3e B k
 have ai:=C14 ab k
 refine A3i (m:=sgM B B k) (sc:=sgS B k) X (gl.mono l0) te pd hk (by omega) hM hS ai (by omega) ?_ ?_
 ·intro h3 g3 o3 M3 S3 R3 F3 l3 X3 p f s ag l N
  have aj:2*(sgM B B k+3*sgS B k+2)+1<=sgM B B q:=A0c B B q (k+1) f
  refine ⟨_,rfl,?_⟩
  show Br true _ _
  refine ⟨_,rfl,_,X3.c1,_,rfl,_,X3.c1,?_⟩
  have ac:=B0 l0 l3
  have ao:=p.scale k (aC _) f
  refine B4k (m:=sgM B B k+3*sgS B k+2) X3 (gl.mono ac) f f (l k k f f) (hz.mono (by omega)) ((N k f).mono (by omega)) (U3 p.ne (l k k f f) (hz.mono (by omega))) (by omega) (by omega) ?_
  intro w4 h4 g4 l4 s4 ad i4
  have ev:aU (M3 k k) z/S3 k=R3 k k:=by
   rw [aW,p.val k k (aC _) f f,C5x (J6 p.ne) (by grind)]
  rw [ev] at i4
  refine ⟨_,_,_,_,_,_,_,_,rfl,ad,?_⟩
  refine Uc (I8 _ _ _ _ s4.le i4) ⟨_,rfl,B5 _,?_⟩
  have X4:=X3.next s4 l4
  have adv:∀ {K':VP},(∀ h',InI u be T (rvs ls) q B (k+1) (fun m=>if m=k then R3 k k else d m) h'->K' (.tuple #[]) h')->aM prog Cp #[.pointer (some ⟨be,0,none⟩)] h4 K':=by
   intro K' kk
   refine Rz (m:=sgM B B k+3*sgS B k+2) X4 f (by omega) p.ne (fun a b _ C hb=>l a b C hb) (hz.mono (by omega)) (by omega) (by omega) ?_
   intro h5 g5 o5 w5 l5 X5 _
   have ae:TE q (k+1) (fun i j=>R3 i j-R3 i k*(R3 k j/R3 k k)) (fun a b=>if k<a then (M3 k k*M3 a b-M3 a k*M3 k b).tdiv z else M3 a b) S3 (M3 k k):=(p.adv f s).congr (fun _ _ _ _ _=>rfl) (fun i j hi _ _=>by rw [iP (show k<i by omega)]) (fun _ _ _=>rfl)
   refine kk h5 ⟨g5,o5,_,S3,_,_,w5,_,B0 lg (B0 l3 (B0 l4 l5)),X5,ae,ag.adv f s,fun a b C hb=>?_,(l k k f f).mono (show _<=2*(sgM B B k+3*sgS B k+2)+1 by omega),fun a C=>N a C⟩
   show ZB (2*(sgM B B k+3*sgS B k+2)+1) _
   split
   ·exact (((l k k f f).mul (l a b C hb)).sub ((l a k C f).mul (l k b f hb))).tdivS.mono (by omega)
   ·exact (l a b C hb).mono (by omega)
  have e1:Bg (fun m=>if m=k then R3 k k else d m) k=Bg d k:=Js k fun m hm=>iN (by omega)
  have e2:Ec (fun m=>if m=k then R3 k k else d m) k=Ec d k:=Jt k fun m hm=>iN (by omega)
  have V:Bg (fun m=>if m=k then R3 k k else d m) (k+1)=Bg d k+if 0<R3 k k then 1 else 0:=by rw [Bg,e1,iP rfl]
  have Q:Ec (fun m=>if m=k then R3 k k else d m) (k+1)=Ec d k+if R3 k k<0 then 1 else 0:=by rw [Ec,e2,iP rfl]
  have O:0<(R3 k k).num.sign↔0<R3 k k:=by
   have u:=Yh (q:= -(R3 k k))
   rw [Rat.neg_num,Int.sign_neg] at u
   constructor
   ·intro x;have:=u.1 (by omega);grind
   ·intro x;have:=u.2 (by grind);omega
  have G:B7 ((Bg d k:Int)+1)=((Bg d k+1:Nat):Int):=by rw [C0]<;>omega
  have E:B7 ((Ec d k:Int)+1)=((Ec d k+1:Nat):Int):=by rw [C0]<;>omega
  refine B8 (fun W=>?_) (fun aa=>?_)
  ·have H:=O.1 W
   rw [iP H] at V
   rw [iN (by grind)] at Q
   refine adv fun h5 i5=>⟨rfl,⟨k+1,_,f,by rw [G,V,Q];rfl,by omega,i5⟩,?_⟩
   rw [G]
   show q-(((Bg d k+1:Nat):Int).toNat+((Ec d k:Nat):Int).toNat)<q-(((Bg d k:Nat):Int).toNat+((Ec d k:Nat):Int).toNat)
   omega
  ·have y: ¬ 0<R3 k k:=fun x=>aa (O.2 x)
   rw [iN y] at V
   rw [iP (by grind)] at Q
   refine adv fun h5 i5=>⟨rfl,⟨k+1,_,f,by rw [E,V,Q];rfl,by omega,i5⟩,?_⟩
   rw [E]
   show q-(((Bg d k:Nat):Int).toNat+((Ec d k+1:Nat):Int).toNat)<q-(((Bg d k:Nat):Int).toNat+((Ec d k:Nat):Int).toNat)
   omega
 ·intro ah
  refine ⟨_,rfl,?_⟩
  show Br false _ _
  have D:=pd.done hk ah
  have c1:=B7d d k (q-k)
  have c2:=B7f d k (q-k)
  rw [show k+(q-k)=q by omega] at c1 c2
  have c3:=C52 (fun m=>if m<k then d m else 0) q
  have J:=hK1 q sq _ _ D hp (B0 l0 X.t.sep.le)
  rw [c1,c2,show Uo (fun m=>if m<k then d m else 0) q=q-Bg d k-Ec d k by omega] at J
  rw [show B7 ((q:Int)-(Bg d k:Int))=((q-Bg d k:Nat):Int) by rw [C0]<;>omega,show B7 (((q-Bg d k:Nat):Int)-(Ec d k:Int))=((q-Bg d k-Ec d k:Nat):Int) by rw [C0]<;>omega]
  exact J
end
def C3f{q m:Nat}(hq:q<=4)(hm:m=294\/m=18861):sgM (bnd q m) (bnd q m) q<=100000000:=by
 have key:∀ q,q<5->sgM (bnd q 294) (bnd q 294) q<=100000000/\sgM (bnd q 18861) (bnd q 18861) q<=100000000:=by
  unfold bnd
  decide
 rcases hm with rfl|rfl
 ·exact (key q (by omega)).1
 ·exact (key q (by omega)).2
def SqE.not{r c:Int}{n q:Nat}{ls:Nat->List UInt8}{e:Int}(sq:SqOk r c n ls q)(x:SqE r c n ls e):False:=by
 rcases x with ⟨x,_⟩|⟨_,x,_⟩
 ·exact x ⟨_,_,sq.1⟩
 ·exact x ⟨_,sq⟩
section
variable {h:aE} {lA cA tA:Option aG} {ln lc cn cc tn tc:Nat} {ls cs ts:Nat->List UInt8}
end
structure Pa (h0:aE) (xa xb:List HV) (aA:Option aG) (ac:Nat) (bA:Option aG) (bc:Nat) (lits:List (Option aG × HV)) (hp:aE):Prop where
 ex:∃ g o,h0.le g/\Sep hp g o/\OwnSl o F8 aA ac xa/\OwnSl o F8 bA bc xb/\(∀ b,aA=some ⟨b,0,none⟩->bA≠some ⟨b,0,none⟩)/\∀ x∈lits,SlF g x.1 [x.2]
section
variable {h0 hp:aE} {xa xb:List HV} {aA bA:Option aG} {ac bc:Nat} {lits:List (Option aG × HV)}
def Pa.le(X:Pa h0 xa xb aA ac bA bc lits hp):h0.le hp:=by
 obtain ⟨g,o,l,s,_⟩:=X.ex
 exact B0 l s.le
def Pa.lit(X:Pa h0 xa xb aA ac bA bc lits hp){y:HV}{K:VP}(k:∀ B hp',hp.le hp'->Pa h0 xa xb aA ac bA bc ((B,y)::lits) hp'->K (.slice B 1 1) hp'):wpH prog (Instr.buildSlice L9 1 #[(0,.slice y.A y.n y.c)]) K hp:=by
 obtain ⟨g,o,l,s,j,p,d,q⟩:=X.ex
 refine Nv B6w (vs:=[.slice y.A y.n y.c]) (fun w m=>by rw [List.mem_singleton.1 m];rfl) rfl (by simp) rfl ?_
 intro b f
 have e:([Value.slice y.A y.n y.c].flatMap (fun v=>v.cells.toList))=[y].flatMap enc:=rfl
 rw [e]
 have i:g b=none:=s.free f
 refine k _ _ (Heap.le_put _ f) ⟨_,_,B0 l (Heap.le_put _ i),s.vis f _,j,p,d,fun x a=>?_⟩
 rcases List.mem_cons.1 a with rfl|a
 ·have r:RowB (g.put b (.cells ([y].flatMap enc).toArray F8)) b [y]:=⟨F8,[],by rw [C2,List.append_nil]⟩
  exact r.slF (B5 _)
 ·exact (q x a).mono (Heap.le_put _ i)
def Pa.swap(X:Pa h0 xa xb aA ac bA bc lits hp):Pa h0 xb xa bA bc aA ac lits hp:=by
 obtain ⟨g,o,l,s,f,i,d,a⟩:=X.ex
 exact ⟨g,o,l,s,i,f,fun b e c=>d b c e,a⟩
def Pa.app(X:Pa h0 xa xb aA ac bA bc lits hp){B:Option aG}{y:HV}(hm:(B,y)∈lits){n:Nat}(hn:n=xa.length)(hs:n<=1000){K:VP}(k:∀ A' c' hp',Pa h0 (xa++[y]) xb A' c' bA bc lits hp'->K (.slice A' (n+1) c') hp'):wpH prog (aQ #[L9,L9] L9 #[.slice aA n ac,.slice B 1 1]) K hp:=by
 obtain ⟨g,o,l,s,G,q,d,u⟩:=X.ex
 refine OwnSl.app (ty:=L9) B6w s G hn (ys:=[y]) rfl (by simp) ((u _ hm).mono s.le) (by rw [<- hn];simp;omega) (by rw [<- hn];simp;omega) ?_
 intro A' c' C F A r D j t
 rw [<- hn]
 have p:∀ b,bA=some ⟨b,0,none⟩->aA≠some ⟨b,0,none⟩:=fun b e a=>d b a e
 refine k A' c' C ⟨F,A,B0 l r,D,j,q.keep fun b x z f=>(t b x f (p b z)).1,fun b e a=>?_,fun x f=>(u x f).mono r⟩
 rcases q.2 with ⟨_,w⟩|⟨i,E,c,m,_⟩
 ·rw [w] at a;cases a
 ·have:i=b:=by rw [c] at a;simpa using a
  subst this
  exact (t i _ m (p i c)).2 e
def OwnSl.lay{α:Type}[E:Enc α]{h g o:aE}{e:TypeId}{A:Option aG}{c:Nat}{xs:List α}(s:Sep h g o)(w:OwnSl o e A c xs):∃ g2 o2,g.le g2/\Sep h g2 o2/\SlF g2 A xs/\∀ k x,A≠some ⟨k,0,none⟩->o k=some x->o2 k=some x:=by
 have i:Heap.le (fun k=>if A=some ⟨k,0,none⟩ then none else o k) o:=fun k x e=>by
  dsimp only at e
  by_cases c:A=some ⟨k,0,none⟩
  ·rw [iP c] at e;cases e
  ·rw [iN c] at e;exact e
 obtain ⟨g2,n,j⟩:=s.give i
 refine ⟨g2,_,n,j,?_,fun k x a l=>by
  show (if A=some ⟨k,0,none⟩ then none else o k)=some x
  rw [iN a];exact l⟩
 by_cases a:xs=[]
 ·rw [a];exact SlF.nil
 ·obtain ⟨b,rfl,f,ex,m⟩:=w.rowB a
  have p:g2 b=some (.cells (xs.flatMap enc++ex).toArray f):=by
   rw [<- j.rest b (by show (if some (⟨b,0,none⟩:aG)=some ⟨b,0,none⟩ then none else o b)=none;rw [iP rfl])]
   exact s.own b _ m
  have r:RowB (U1.put b (.cells (xs.flatMap enc++ex).toArray f)) b xs:=⟨f,ex,C2 _ _ _⟩
  refine r.slF fun k x d=>?_
  by_cases c:k=b
  ·subst c
   rw [C2] at d
   rw [p];exact d
  ·rw [B9 _ _ c] at d;cases d
def Pa.lay(X:Pa h0 xa xb aA ac bA bc lits hp):∃ g o,h0.le g/\Sep hp g o/\SlF g aA xa/\SlF g bA xb:=by
 obtain ⟨g,o,l,s,q,u,d,_⟩:=X.ex
 obtain ⟨z,i,p,m,t,k⟩:=q.lay s
 have a:OwnSl i F8 bA bc xb:=u.keep fun b x y j=>k b x (fun e=>d b e y) j
 obtain ⟨r,n,c,f,w,_⟩:=a.lay m
 exact ⟨r,n,B0 l (B0 p c),f,t.mono c,w⟩
end
def Cr(g o:aE)(cA:Option aG)(cc m l:Nat)(N:Nat->Nat->Rat):Prop:=
 ∃ (hd:List HV) (rb:Nat->Nat),OwnSl o F8 cA cc hd/\hd.length=m/\(∀ i,i<m->∃ c,hd[i]? = some ⟨some ⟨rb i,0,none⟩,l,c⟩/\l<=c)/\(∀ i,i<m->cA≠some ⟨rb i,0,none⟩)/\(∀ i j,i<m->j<m->rb i=rb j->i=j)/\∀ i,i<m->∃ xs:List QV,RowB o (rb i) xs/\xs.length=l/\Row NQr g xs l (N i)
def Cr.mt{hp g o:aE}{cA:Option aG}{cc m l:Nat}{N:Nat->Nat->Rat}(X:Cr g o cA cc m l N)(s:Sep hp g o)(hm:1<=m):∃ bo rb,cA=some ⟨bo,0,none⟩/\Mt hp g o bo rb m l N:=by
 obtain ⟨n,rb,j,c,p,d,a,b⟩:=X
 obtain ⟨bo,rfl,f⟩:=j.rowB (by rintro rfl;simp at c;omega)
 exact ⟨bo,rb,rfl,s,⟨n,f,c,p⟩,fun i k e=>d i k (by rw [e]),a,b⟩
def Cr.push{hp g o:aE}{cA:Option aG}{cc m l:Nat}{N:Nat->Nat->Rat}(X:Cr g o cA cc m l N)(s:Sep hp g o)(hm:m<=10000){be:Nat}(hbe:hp be=none){B:Option aG}{d:Nat}(row:aN NQr g B l (N m))(hl:1<=l)(hl2:l<=10000){K:Option aG->Nat->Nat->aE->Prop}
 (k:∀ A' c' h' g' o',g.le g'->Sep h' g' o'->Cr g' o' A' c' (m+1) l N->K A' (m+1) c' h'):
 wpH prog (aQ #[K4,K4] K4 #[.slice (some ⟨be,0,none⟩) 0 0,.slice B l d]) (fun v hp24=>∃ (a:Option aG) (b c:Nat),v= .slice a b c/\wpH prog (Instr.buildSlice L9 1 #[(0,.slice a b c)]) (fun v2 hp25=>∃ (a2:Option aG) (b2 c2:Nat),v2= .slice a2 b2 c2/\wpH prog (aQ #[L9,L9] L9 #[.slice cA m cc,.slice a2 b2 c2]) (fun v3 hp26=>∃ (a3:Option aG) (b3 c3:Nat),v3= .slice a3 b3 c3/\K a3 b3 c3 hp26) hp25) hp24) (hp.put be (.cells #[] E7)):=by
 obtain ⟨hd,r,ow,n,H,G,E,t⟩:=X
 obtain ⟨u,sx,J,qx⟩:=row
 have O:=s.vis hbe (.cells #[] E7)
 have C:g.le (g.put be (.cells #[] E7)):=Heap.le_put _ (s.free hbe)
 refine Wf Sg O (ys:=u) (by omega) (by rintro rfl;simp at J;omega) (sx.mono (B0 C O.le)) (by omega) (by omega) ?_
 intro b2 c2 h2 g2 o2 y V F l2 s2 ae S
 refine ⟨_,_,_,rfl,?_⟩
 have f:∀ q x,o q=some x->q≠b2:=by
  rintro q x e rfl
  have:=O.ole q x e
  rw [this] at F;cases F
 have W:OwnSl o2 F8 cA cc hd:=ow.keep fun q x _ e=>by rw [V,B9 _ _ (f q x e)];exact e
 have ab:cA≠some ⟨b2,0,none⟩:=by
  intro hA
  rcases ow.2 with ⟨_,h0⟩|⟨b',ad,w,Q,_⟩
  ·rw [hA] at h0;cases h0
  ·rw [hA] at w
   simp only [Option.some.injEq,Addr.mk.injEq,and_true] at w
   exact f _ _ Q w.symm
 refine L7 (ty:=L9) B6w s2 W n.symm (y:=(⟨some ⟨b2,0,none⟩,l,c2⟩:HV)) rfl (by decide) (by rw [n];omega) (by rw [n];omega) ?_
 intro A3 c3 h3 g3 o3 l3 s3 M kp
 have kq:∀ i,i<m->∃ x,o (r i)=some x:=fun i A=>by
  obtain ⟨u,⟨e,ex,hb⟩,_⟩:=t i A;exact ⟨_,hb⟩
 obtain ⟨e5,Z,aa⟩:=id S
 have k2:=kp b2 _ aa ab
 rw [n]
 have p:=B0 C (B0 l2 l3)
 refine k A3 c3 h3 g3 o3 p s3 ⟨_,fun i=>if i=m then b2 else r i,M,by rw [aV,n];rfl,fun i A=>?_,fun i A=>?_,fun i j A hj h=>?_,fun i A=>?_⟩
 ·show ∃ c,(hd++[(⟨some ⟨b2,0,none⟩,l,c2⟩:HV)])[i]? = some ⟨some ⟨if i=m then b2 else r i,0,none⟩,l,c⟩/\l<=c
  by_cases e:i=m
  ·subst e
   exact ⟨c2,by rw [aO (by omega),n,iP rfl];simp,by omega⟩
  ·obtain ⟨c,h1,h2⟩:=H i (by omega)
   exact ⟨c,by rw [aP (by omega),iN e];exact h1,h2⟩
 ·show A3≠some ⟨if i=m then b2 else r i,0,none⟩
  by_cases e:i=m
  ·rw [iP e];exact k2.2
  ·rw [iN e]
   obtain ⟨x,z⟩:=kq i (by omega)
   exact (kp (r i) x (by rw [V,B9 _ _ (f _ _ z)];exact z) (G i (by omega))).2
 ·have h':(if i=m then b2 else r i)=(if j=m then b2 else r j):=h
  by_cases R:i=m
  ·by_cases L:j=m
   ·omega
   ·rw [iP R,iN L] at h'
    obtain ⟨x,z⟩:=kq j (by omega)
    exact absurd h'.symm (f _ _ z)
  ·by_cases L:j=m
   ·rw [iN R,iP L] at h'
    obtain ⟨x,z⟩:=kq i (by omega)
    exact absurd h' (f _ _ z)
   ·rw [iN R,iN L] at h'
    exact E i j (by omega) (by omega) h'
 ·show ∃ u:List QV,RowB o3 (if i=m then b2 else r i) u/\u.length=l/\Row NQr g3 u l (N i)
  by_cases e:i=m
  ·subst e
   rw [iP rfl]
   exact ⟨u,⟨e5,Z,k2.1⟩,J,qx.mono V8 p⟩
  ·rw [iN e]
   obtain ⟨ys,⟨ey,T,D⟩,ac,qy⟩:=t i (by omega)
   refine ⟨ys,⟨ey,T,?_⟩,ac,qy.mono V8 p⟩
   exact (kp (r i) _ (by rw [V,B9 _ _ (f _ _ D)];exact D) (G i (by omega))).1
def GsA(h1:aE)(M:Nat->Nat->Rat)(k l i:Nat)(aA:Option aG)(ac:Nat)(bA:Option aG)(bc:Nat)(hp:aE):Prop:=
 ∃ (xa xb:List HV),Pa h1 xa xb aA ac bA bc [] hp/\xa.length=i/\xb.length=i/\(∀ t,t<i->∃ s,xa[t]? = some s/\s.n=k/\k<=s.c/\aN NQr h1 s.A k (M t))/\∀ t,t<i->∃ s,xb[t]? = some s/\s.n=l/\l<=s.c/\aN NQr h1 s.A l (fun j=>M t (k+j))
def GsB(h1:aE)(M:Nat->Nat->Rat)(k l i:Nat)(aA bA cA:Option aG)(cc:Nat)(hp:aE):Prop:=
 ∃ g o,h1.le g/\Sep hp g o/\RowsV g aA k k M/\RowsV g bA k l (fun t j=>M t (k+j))/\Cr g o cA cc i l (fun t j=>M (k+t) (k+j))
def GsI(h1:aE)(M:Nat->Nat->Rat)(k l:Nat)(L:List Value)(hp:aE):Prop:=
 (∃ (i:Nat) (aA:Option aG) (ac:Nat) (bA:Option aG) (bc:Nat),i<k/\L=[.slice aA i ac,.slice bA i bc,.slice none 0 0,I (i:Int)]/\GsA h1 M k l i aA ac bA bc hp)\/
 ∃ (i:Nat) (aA:Option aG) (ac:Nat) (bA:Option aG) (bc:Nat) (cA:Option aG) (cc:Nat),i<=l/\L=[.slice aA k ac,.slice bA k bc,.slice cA i cc,I ((k+i:Nat):Int)]/\GsB h1 M k l i aA bA cA cc hp
section
variable {h1 hp:aE} {M:Nat->Nat->Rat} {k l i:Nat} {aA bA cA:Option aG} {ac bc cc:Nat}
def GsA.inv(X:GsA h1 M k l i aA ac bA bc hp)(hi:i<=k):GsI h1 M k l [.slice aA i ac,.slice bA i bc,.slice none 0 0,I (i:Int)] hp:=by
 by_cases e:i<k
 ·exact .inl ⟨i,aA,ac,bA,bc,e,rfl,X⟩
 ·obtain rfl:i=k:=by omega
  obtain ⟨y,w,P,p,m,n,q⟩:=X
  obtain ⟨g,o,j,s,r,z⟩:=P.lay
  exact .inr ⟨0,aA,ac,bA,bc,none,0,by omega,rfl,g,o,j,s,⟨y,r,p,fun t f=>by obtain ⟨u,a,b,c,d⟩:=n t f;exact ⟨u,a,b,c,d.mono V8 j⟩⟩,⟨w,z,m,fun t f=>by obtain ⟨u,a,b,c,d⟩:=q t f;exact ⟨u,a,b,c,d.mono V8 j⟩⟩,[],fun _=>0,OwnSl.nil,rfl,(fun t f=>by omega),(fun t f=>by omega),(fun t _ f=>by omega),fun t f=>by omega⟩
end
section
variable {h:aE} {K:VP} {A:Option aG} {n cap m:Nat} {r c:Int} {ls:Nat->List UInt8}
def A6d{z:Int}(rv':aN SSr h A n ls)(hn:n<=1000000)(hl:LL n ls)(hs:∀ i,i<n->Sz m (rv (ls i)))(h7:∀ q k,MOk r c n ls q q->k<q->7^k*m<=100000000)(hB:∀ q k,MOk r c n ls q q->1<=k->k<q->∃ B1 B2 B3 B4,SchB k m B1 B2 B3 B4)
 (hK:∀ o,SchO r c n ls z o->∀ A' cap' h',h.le h'->aN SSr h' A' o.n o.f->K (.tuple #[Hb o.r o.c A' o.n cap',I o.e]) h'):aM prog A1f #[Hb r c A n cap,I z] h K:=by
 refine B5w _ _ _ _ _ _ ?_
 unfold C0h
 refine Ie rv' hn hl ?_ (fun e he G l1=>⟨_,_,_,_,rfl,I4 (fun _=>hK (noM e) (.inl ⟨e,he,rfl⟩) none 0 G l1 RowV.nil) (fun e0=>by rcases he with ⟨_,x⟩|⟨_,_,x⟩<;>omega)⟩)
 intro q sq bo cp G l1 _ rs
 have mk:=sq.1
 have bm:=mk.r2
 obtain rfl:=mk.er
 refine ⟨_,_,_,_,rfl,I4 (fun ay=>absurd rfl ay) (fun _=>?_)⟩
 have al:¬ (1<=z/\z<q)->K (.tuple #[Hb 0 0 none 0 0,I 3]) G:=fun hx=>hK (noM 3) (.inr ⟨q,sq,.inl ⟨hx,rfl⟩⟩) none 0 G l1 RowV.nil
 refine B8 (fun hz=>al (fun x=>by omega)) (fun hz=>?_)
 refine B8 (fun a3=>al (fun x=>by omega)) (fun a3=>?_)
 obtain ⟨k,rfl⟩:∃ k:Nat,z=k:=⟨z.toNat,by omega⟩
 obtain ⟨l,hq⟩:∃ l,q=k+l:=⟨q-k,by omega⟩
 have F:1<=k:=by omega
 have D:1<=l:=by omega
 have aa:=fun o ho=>hK o (.inr ⟨q,sq,.inr ⟨k,l,rfl,F,D,hq,ho⟩⟩)
 obtain ⟨B1,B2,B3,B4,B⟩:=hB q k mk F (by omega)
 have a4:=h7 q k mk (by omega)
 obtain ⟨b0,b1,b2,b3,⟨b4,b5,b6⟩,b7,b8⟩:=id B
 have ms:∀ i j,i<q->j<q->Sz m (mtx (rvs ls) q i j):=fun i j hi hj=>hs _ (by rw [mk.len];exact O2 hi hj)
 generalize hM:mtx (rvs ls) q=M at rs ms
 refine ⟨GsI G M k l,fun L _=>q-(iAt L 3).toNat,.inl ⟨0,none,0,none,0,by omega,rfl,[],[],⟨⟨G,U1,B5 _,Sep.refl G,OwnSl.nil,OwnSl.nil,(fun b e=>by cases e),(fun x hx=>by cases hx)⟩⟩,rfl,rfl,(fun t O=>by omega),fun t O=>by omega⟩,?_⟩
 rintro aA an ac bA bn bc cA cn cc z2 hp X
 rcases X with ⟨i,a2,a5,au,ar,bk,eL,xa,xb,P,ea,eb,ra,rb⟩|⟨i,a2,a5,au,ar,ba,bj,bb,eL,g,o,lg,s,ra,rb,X⟩
 ·simp only [aK,aJ,Value.slice.injEq,true_and,and_true] at eL
  obtain ⟨⟨rfl,e1,rfl⟩,⟨rfl,e2,rfl⟩,⟨rfl,rfl,rfl⟩,rfl⟩:=eL
  obtain rfl:=e1.symm
  obtain rfl:=e2.symm
  refine B8 (fun _=>B8 (fun _=>?_) (fun x=>by omega)) (fun x=>by omega)
  obtain ⟨a,s,es,f1,f2,hc,row⟩:=rs.at (i:=i) (by omega)
  have cl:∀ {H:aE} {xa xb:List HV} {aA bA:Option aG} {ac bc:Nat} {C:List (Option aG × HV)},Pa G xa xb aA ac bA bc C H->H.cell? (Addr.add a (i*1))=some (.slice s.A s.n s.c):=fun P=>C1 P.le hc
  have az:s.n-k=l:=by omega
  have ad:∀ t,t<i+1->∃ u,(xa++[(⟨H9 s.A s.c 0 4,k,s.c⟩:HV)])[t]? = some u/\u.n=k/\k<=u.c/\aN NQr G u.A k (M t):=fun t O=>by
   by_cases e:t<i
   ·rw [aP (by omega)];exact ra t e
   ·obtain rfl:t=i:=by omega
    rw [aO (by omega),ea,Nat.sub_self]
    refine ⟨_,rfl,rfl,by show k<=s.c;omega,?_⟩
    exact (row.cut (c:=s.c) (l:=0) (k:=k) (by omega) f2).congr fun j _=>by rw [aZ]
  have ab:∀ t,t<i+1->∃ u,(xb++[(⟨H9 s.A s.c k 4,s.n-k,s.c-k⟩:HV)])[t]? = some u/\u.n=l/\l<=u.c/\aN NQr G u.A l (fun j=>M t (k+j)):=fun t O=>by
   by_cases e:t<i
   ·rw [aP (by omega)];exact rb t e
   ·obtain rfl:t=i:=by omega
    rw [aO (by omega),eb,Nat.sub_self]
    exact ⟨_,rfl,az,by show l<=s.c-k;omega,row.cut (c:=s.c) (l:=k) (k:=l) (by omega) f2⟩
  have d:∀ {A':Option aG} {Q:Nat} {C:List (Option aG × HV)} {H:aE} {B:Option aG},Pa G (xa++[(⟨H9 s.A s.c 0 4,k,s.c⟩:HV)]) xb A' Q bA bc C H->(B,(⟨H9 s.A s.c k 4,s.n-k,s.c-k⟩:HV))∈C->wpH prog (aQ #[L9,L9] L9 #[.slice bA i bc,.slice B 1 1]) (fun v ag=>∃ (b1:Option aG) (b2 b3:Nat),v= .slice b1 b2 b3/\GsI G M k l [.slice A' (i+1) Q,.slice b1 b2 b3,.slice none 0 0,I (B7 ((i:Int)+1))] ag/\q-(iAt [.slice A' (i+1) Q,.slice b1 b2 b3,.slice none 0 0,I (B7 ((i:Int)+1))] 3).toNat<q-(iAt [.slice aA i ac,.slice bA i bc,.slice none 0 0,I (i:Int)] 3).toNat) H:=by
   intro A' Q C H B X hm
   refine X.swap.app hm (n:=i) eb.symm (by omega) ?_
   intro B' c2 ag X5
   rw [wiS i (by omega)]
   obtain ⟨g,o,y1,y2,y3,y4,y5,_⟩:=X5.swap.ex
   refine ⟨_,_,_,rfl,GsA.inv ⟨_,_,⟨⟨g,o,y1,y2,y3,y4,y5,fun x hx=>by cases hx⟩⟩,by rw [aV,ea];rfl,by rw [aV,eb];rfl,ad,ab⟩ (by omega),?_⟩
   show q-((i+1:Nat):Int).toNat<q-((i:Nat):Int).toNat
   omega
  have bl:k-0=k:=rfl
  refine ⟨a,es,by omega,by omega,_,_,_,cl P,⟨by omega,by omega⟩,a,es,by omega,by omega,⟨_,_,_,cl P,⟨by omega,by omega⟩,?_,?_⟩,?_⟩
  ·refine P.lit (y:=⟨H9 s.A s.c 0 4,k,s.c⟩) ?_
   intro B af l2 X2
   refine ⟨_,_,_,rfl,l2,?_,?_⟩
   ·refine X2.app (aD ..) (n:=i) ea.symm (by omega) ?_
    intro A' Q T X3
    refine ⟨_,_,_,rfl,X3.lit (y:=⟨H9 s.A s.c k 4,s.n-k,s.c-k⟩) ?_⟩
    intro B' R p X4
    exact ⟨_,_,_,rfl,p,d X4 (aD ..)⟩
   ·refine X2.lit (y:=⟨H9 s.A s.c k 4,s.n-k,s.c-k⟩) ?_
    intro B' R p X4
    refine ⟨_,_,_,rfl,p,X4.app (aS _ (aD ..)) (n:=i) ea.symm (by omega) ?_⟩
    intro A' Q T X3
    exact ⟨_,_,_,rfl,d X3 (aD ..)⟩
  ·refine P.lit (y:=⟨H9 s.A s.c k 4,s.n-k,s.c-k⟩) ?_
   intro B' R p X4
   refine ⟨_,_,_,rfl,p,X4.lit (y:=⟨H9 s.A s.c 0 4,k,s.c⟩) ?_⟩
   intro B af l2 X2
   refine ⟨_,_,_,rfl,l2,X2.app (aD ..) (n:=i) ea.symm (by omega) ?_⟩
   intro A' Q T X3
   exact ⟨_,_,_,rfl,d X3 (aS _ (aD ..))⟩
  ·refine P.lit (y:=⟨H9 s.A s.c 0 4,k,s.c⟩) ?_
   intro B af l2 X2
   refine ⟨_,_,_,rfl,l2,⟨_,_,_,cl X2,⟨by omega,by omega⟩,?_,?_⟩,?_⟩
   ·refine X2.app (aD ..) (n:=i) ea.symm (by omega) ?_
    intro A' Q T X3
    refine ⟨_,_,_,rfl,X3.lit (y:=⟨H9 s.A s.c k 4,s.n-k,s.c-k⟩) ?_⟩
    intro B' R p X4
    exact ⟨_,_,_,rfl,p,d X4 (aD ..)⟩
   ·refine X2.lit (y:=⟨H9 s.A s.c k 4,s.n-k,s.c-k⟩) ?_
    intro B' R p X4
    refine ⟨_,_,_,rfl,p,X4.app (aS _ (aD ..)) (n:=i) ea.symm (by omega) ?_⟩
    intro A' Q T X3
    exact ⟨_,_,_,rfl,d X3 (aD ..)⟩
   ·refine X2.app (aD ..) (n:=i) ea.symm (by omega) ?_
    intro A' Q T X3
    refine ⟨_,_,_,rfl,_,_,_,cl X3,⟨by omega,by omega⟩,X3.lit (y:=⟨H9 s.A s.c k 4,s.n-k,s.c-k⟩) ?_⟩
    intro B' R p X4
    exact ⟨_,_,_,rfl,p,d X4 (aD ..)⟩
 simp only [aK,aJ,Value.slice.injEq,true_and,and_true] at eL
 obtain ⟨⟨rfl,e1,rfl⟩,⟨rfl,e2,rfl⟩,⟨rfl,e3,rfl⟩,rfl⟩:=eL
 obtain rfl:=e1.symm
 obtain rfl:=e2.symm
 obtain rfl:=e3.symm
 have aj:=B0 lg s.le
 refine B8 (fun aq=>?_) (fun bg=>?_)
 ·refine B8 (fun x=>by omega) (fun _=>?_)
  obtain ⟨a,u,es,f1,f2,hc,row⟩:=rs.at (i:=k+i) (by omega)
  refine Qb Sg ?_
  intro be ah
  have ap:=Heap.le_put (.cells #[] E7) ah
  refine ⟨_,_,_,rfl,a,es,by omega,by omega,_,_,_,C1 (B0 aj ap) hc,⟨by omega,by omega⟩,?_⟩
  have am:aN NQr g (H9 u.A u.c k 4) l (fun j=>M (k+i) (k+j)):=(row.mono V8 lg).cut (c:=u.c) (l:=k) (k:=l) (by omega) f2
  simp only [Int.toNat_natCast]
  rw [show u.n-k=l by omega,show B7 (((k+i:Nat):Int)+1)=((k+(i+1):Nat):Int) by rw [C0]<;>omega]
  refine X.push s (by omega) ah am D (by omega) ?_
  intro A' Q h' g' o' l' s' X'
  refine ⟨.inr ⟨i+1,aA,ac,bA,bc,A',Q,by omega,rfl,g',o',B0 lg l',s',ra.mono l',rb.mono l',X'⟩,?_⟩
  show q-((k+(i+1):Nat):Int).toNat<q-((k+i:Nat):Int).toNat
  omega
 obtain rfl:i=l:=by omega
 obtain ⟨ae,ak,rfl,t⟩:=X.mt s D
 have bd:=B0 l1 aj
 have bz:∀ t,t<k*k->Sz m (Qu ls q k t):=fun t O=>by
  have G:=Nat.div_lt_of_lt_mul O
  have h2:=Nat.mod_lt t (show 0<k by omega)
  have:=ms (0+t/k) (0+t%k) (by omega) (by omega)
  rw [<- hM] at this
  exact this
 have blk:∀ a b,a<k->b<k->M a b=mtx (Qu ls q k) k a b:=fun a b _ N=>by
  unfold Qu
  rw [Uk _ _ _ _ N,aZ,aZ,hM]
 refine t.sep.call (A41 (E:=Qu ls q k) (ra.congr blk) F (by omega) b0 bz a4 ?_ (fun a7 g4 p h4 s4=>⟨_,_,_,_,rfl,A2g (aa (noM 7) (.inl ⟨a7,rfl⟩) none 0 h4 (B0 l1 (B0 lg (B0 p s4.le))) RowV.nil)⟩))
 intro inv A4 c4 g4 p ri h4 s4
 refine ⟨_,_,_,_,rfl,Br.nt ?_⟩
 refine s4.call (Yq (rb.mono p) F (by omega) (by omega) ?_)
 intro b5 g5 l5 rt h5 s5
 refine ⟨_,_,_,rfl,?_⟩
 have vz:∀ a b,a<k->b<k->Sz B1 (Li (Qu ls q k) k a b):=fun a b W N=>(B3a b0 bz inv a b W N).mono b1
 refine s5.call (Uy (m:=B1) (ri.mono l5) (rb.mono (B0 p l5)) F (by omega) F (by omega) D (by omega) vz (fun a b W N=>(ms a (k+b) (by omega) (by omega)).mono b4) (by omega) ?_)
 intro b6 g6 l6 r6 h6 s6
 refine ⟨_,_,_,rfl,?_⟩
 have z6:∀ a b,a<k->b<i->Sz B2 (sm k fun t=>Li (Qu ls q k) k a t*M t (k+b)):=fun a b W N=>(A5r (m:=B1) (f:=fun t=>Li (Qu ls q k) k a t) (f2:=fun t=>M t (k+b)) (fun t O=>vz a t W O) (fun t O=>(ms t (k+b) (by omega) (by omega)).mono b4) k (aC _)).mono b2
 refine s6.call (Uy (m:=B2) (rt.mono l6) r6 D (by omega) F (by omega) D (by omega) (fun a b W N=>(ms b (k+a) (by omega) (by omega)).mono (by omega)) z6 (by omega) ?_)
 intro bq g7 l7 r7 bf s7
 refine ⟨_,_,_,rfl,?_⟩
 have z7:∀ a b,a<i->b<i->Sz B3 (sm k fun t=>M t (k+a)*sm k fun s=>Li (Qu ls q k) k t s*M s (k+b)):=fun a b W N=>(A5r (m:=B2) (f:=fun t=>M t (k+a)) (f2:=fun t=>sm k fun s=>Li (Qu ls q k) k t s*M s (k+b)) (fun t O=>(ms t (k+a) (by omega) (by omega)).mono (by omega)) (fun t O=>z6 t b O N) k (aC _)).mono b3
 have t7:=(((t.next s4 p).next s5 l5).next s6 l6).next s7 l7
 have aw:G.le g7:=B0 lg (B0 p (B0 l5 (B0 l6 l7)))
 clear t s4 s5 s6 s7 ra rb ri rt r6
 generalize hS:(fun a b=>sm k fun t=>M t (k+a)*sm k fun s=>Li (Qu ls q k) k t s*M s (k+b))=S at r7
 have z8:∀ a b,a<i->b<i->Sz B3 (S a b):=fun a b W N=>by rw [<- hS];exact z7 a b W N
 have ew:∀ {j:Nat},j<i->B7 ((j:Int)+1)=((j+1:Nat):Int):=fun {j} hj=>by rw [C0]<;>omega
 refine ⟨fun L hp=>∃ (a:Nat) (g o:aE),a<=i/\L=[I (a:Int)]/\g7.le g/\Mt hp g o ae ak i i (fun x y=>if x<a then M (k+x) (k+y)-S x y else M (k+x) (k+y)),fun L _=>i-(iAt L 0).toNat,⟨0,g7,_,by omega,rfl,B5 _,t7.congr fun x y _ _=>by rw [iN (Nat.not_lt_zero x)]⟩,?_⟩
 clear t7
 rintro y1 hx ⟨a,g8,o8,W,eL,l8,Z⟩
 obtain rfl:=sI1 eL
 refine B8 (fun aq=>?_) (fun ao=>?_)
 rotate_left
 ·obtain rfl:a=i:=by omega
  have sc:∀ x y,x<a->y<a->(if x<a then M (k+x) (k+y)-S x y else M (k+x) (k+y))=B76 ls q k x y:=fun x y hx hy=>by
   rw [iP hx,<- hS]
   unfold B76
   rw [C15,hM]
   congr 1
   refine D0 fun t O=>?_
   congr 1
   have:=sq.2.symm (k+x) t (by omega) (by omega)
   rw [hM] at this
   exact this.symm
  have zq:∀ x y,x<a->y<a->Sz B4 (B76 ls q k x y):=fun x y hx hy=>C16 hq (fun a b W N=>by rw [hM];exact ms a b W N) B inv hx hy
  refine Qe (m:=B4) (Z.rowsV.congr sc) (by omega) D (by omega) D zq (by omega) ?_
  intro A9 c9 h9 l9 _ r9
  exact ⟨_,_,_,_,_,rfl,aa ⟨(a:Int),(a:Int),a*a,Db (B76 ls q k) a,0⟩ (.inr ⟨inv,rfl⟩) A9 c9 h9 (B0 l1 (B0 aw (B0 l8 (B0 Z.sep.le l9)))) r9⟩
 have J:a<i:=by omega
 refine ⟨fun L hp=>∃ (b:Nat) (g o:aE),b<=i/\L=[I (b:Int)]/\g7.le g/\Mt hp g o ae ak i i (fun x y=>if x<a\/(x=a/\y<b) then M (k+x) (k+y)-S x y else M (k+x) (k+y)),fun L _=>i-(iAt L 0).toNat,⟨0,g8,o8,by omega,rfl,l8,Z.congr fun x y _ _=>?_⟩,?_⟩
 ·by_cases e:x<a
  ·rw [iP e,iP (.inl e)]
  ·rw [iN e,iN (by omega)]
 clear Z l8
 rintro y2 hy ⟨b,g8,o8,N,eL,l8,Z⟩
 obtain rfl:=sI1 eL
 refine B8 (fun a8=>?_) (fun ao=>?_)
 ·have V:b<i:=by omega
  obtain ⟨ch,bi,hh⟩:=Z.head J
  obtain ⟨x,ix,x0,x1,x2,x3⟩:=Z.elem J V
  rw [iN (by omega)] at ix
  obtain ⟨a9,u9,e9,f9,bp,a0,ai⟩:=(r7.mono l8).at J
  obtain ⟨a6,w,ax,iw,c0,c1,c2,c3⟩:=ai.qat V
  have sp:=Z.sep
  have cl:=fun {a:aG} {v:Value} (x:g8.cell? a=some v)=>C1 sp.le x
  refine ⟨_,rfl,by omega,by omega,_,_,_,sp.cell hh,_,rfl,by omega,by omega,_,_,_,sp.cell hh,_,rfl,by omega,by omega,_,_,_,_,_,_,_,_,sp.cell x0,sp.cell x1,sp.cell x2,sp.cell x3,a9,e9,by omega,by omega,_,_,_,cl a0,a6,ax,by omega,by omega,_,_,_,_,_,_,_,_,cl c0,cl c1,cl c2,cl c3,?_⟩
  refine sp.call (Hy (m:=B3) ix iw ((ms (k+a) (k+b) (by omega) (by omega)).mono (by omega)) (z8 a b J V) (by omega) ?_)
  intro w8 g9 l9 i9 h9 s9
  refine ⟨_,_,_,_,_,_,_,_,rfl,sp.le_le s9 l9,_,rfl,by omega,by omega,?_⟩
  refine (Z.next s9 l9).store J V i9 ?_
  intro bh a1 av _
  rw [ew V]
  refine ⟨⟨b+1,g9,a1,by omega,rfl,B0 l8 l9,av.congr fun x y _ _=>?_⟩,by simp only [U9];omega⟩
  unfold A04
  try dsimp only
  by_cases e1:x=a/\y=b
  ·rw [iP e1,e1.1,e1.2,iP (by omega)]
  ·rw [iN e1]
   by_cases e2:x<a\/(x=a/\y<b)
   ·rw [iP e2,iP (by omega)]
   ·rw [iN e2,iN (by omega)]
 ·obtain rfl:b=i:=by omega
  rw [ew J]
  refine ⟨⟨a+1,g8,o8,by omega,rfl,l8,Z.congr fun x y _ hy=>?_⟩,by simp only [U9];omega⟩
  by_cases e:x<a\/(x=a/\y<b)
  ·rw [iP e,iP (by omega)]
  ·rw [iN e,iN (by omega)]
end
def B1d(k l:Nat):xch k l l=k:=by
 unfold xch
 by_cases c:l=k
 ·rw [iP c];exact c
 ·rw [iN c,iP rfl]
def C0s{k l i:Nat}(h1:i≠k)(h2:i≠l):xch k l i=i:=by unfold xch;rw [iN h1,iN h2]
section
variable {h g o:aE} {bo n k m cap:Nat} {rb:Nat->Nat} {P R A0 F:Nat->Nat->Rat} {d:Nat->Rat} {K:VP}
def A6e(t:Mt h g o bo rb n n P)(pd:PD n k A0 d F R)(hP:∀ i j,k<=i->i<n->k<=j->j<n->P i j=R i j)(hk:k<n)(hn:n<=64)(hs:∀ i j,i<n->j<n->Sz m (P i j))(hm:4*m+3<=400000000)
 (hK:∀ h' g' o' rb' P' R' F',g.le g'->Mt h' g' o' bo rb' n n P'->PD n k A0 d F' R'->(∀ i j,k<=i->i<n->k<=j->j<n->P' i j=R' i j)->(∀ i j,i<n->j<n->Sz (4*m+3) (P' i j))->(R' k k=0->∀ j,j<n->R' k j=0)->K (.tuple #[]) h'):aM prog A1g #[.slice (some ⟨bo,0,none⟩) n cap,I (k:Int)] h K:=by
 refine B5x _ _ _ _ ?_
 unfold C0i
 have M:∀ {q:Rat},q.num.sign=0↔q=0:=fun {q}=>by rw [aY];exact Rat.num_eq_zero
 have ew:∀ {j:Nat},j<n->B7 ((j:Int)+1)=((j+1:Nat):Int):=fun {j} hj=>by rw [C0]<;>omega
 have D:=t.sep
 obtain ⟨ck,au,ad⟩:=t.head hk
 refine ⟨fun L' B=>∃ i:Nat,k<=i/\i<=n/\L'=[I (i:Int)]/\B=h/\∀ j,k<=j->j<i->R j j=0,fun L' _=>n-(iAt L' 0).toNat,⟨k,aC _,by omega,rfl,rfl,fun j _ _=>by omega⟩,?_⟩
 rintro y B ⟨i,J,a4,eL,rfl,hz⟩
 obtain rfl:=sI1 eL
 refine B8 (fun a0=>?_) (fun a1=>?_)
 ·have l:i<n:=by omega
  obtain ⟨ci,aj,X⟩:=t.head l
  obtain ⟨x,ix,x0,x1,x2,x3⟩:=t.elem l l
  rw [hP i i J l J l] at ix
  refine ⟨_,rfl,by omega,by omega,_,_,_,D.cell X,_,rfl,by omega,by omega,_,_,_,_,_,_,_,_,D.cell x0,D.cell x1,D.cell x2,D.cell x3,?_⟩
  refine Q7 (NQ.mono D.le ix) ⟨_,rfl,I4 (fun W=>?_) (fun he=>?_)⟩
  rotate_left
  ·rw [ew l]
   refine ⟨⟨i+1,by omega,by omega,rfl,rfl,fun j a b=>?_⟩,by simp only [U9];omega⟩
   by_cases c:j=i
   ·rw [c];exact M.1 he
   ·exact hz j a (by omega)
  have G:R i i≠0:=fun e=>W (M.2 e)
  refine ⟨_,rfl,by omega,by omega,_,_,_,D.cell ad,_,rfl,by omega,by omega,_,_,_,D.cell X,_,rfl,by omega,by omega,?_⟩
  refine t.swap (i:=k) (k:=i) hk l Ta ad X au aj ?_
  intro h1 next
  refine ⟨_,rfl,by omega,by omega,next ?_⟩
  intro h2 o2 t2 _
  refine ⟨fun L' w=>∃ (j:Nat) (o':aE),j<=n/\L'=[I (j:Int)]/\Mt w g o' bo (fun a=>rb (xch k i a)) n n (fun a b=>if a<j then P (xch k i a) (xch k i b) else P (xch k i a) b),fun L' _=>n-(iAt L' 0).toNat,⟨0,o2,by omega,rfl,t2.congr fun a b _ _=>by rw [iN (by omega)]⟩,?_⟩
  clear next t2
  rintro y2 w ⟨j,o',hj,V,A⟩
  obtain rfl:=sI1 V
  have r:=A.sep
  refine B8 (fun ae=>?_) (fun ag=>?_)
  ·have s:j<n:=by omega
   obtain ⟨cj,a6,N⟩:=A.head s
   obtain ⟨u,Q,u0,u1,u2,u3⟩:=A.elem s hk
   obtain ⟨v,S,v0,v1,v2,v3⟩:=A.elem s l
   rw [iN (aT j)] at Q S
   refine ⟨_,rfl,by omega,by omega,_,_,_,r.cell N,_,rfl,by omega,by omega,_,_,_,r.cell N,_,rfl,by omega,by omega,_,_,_,r.cell N,_,rfl,by omega,by omega,_,_,_,_,_,_,_,_,r.cell u0,r.cell u1,r.cell u2,r.cell u3,_,rfl,by omega,by omega,_,_,_,r.cell N,_,rfl,by omega,by omega,_,_,_,_,_,_,_,_,r.cell v0,r.cell v1,r.cell v2,r.cell v3,_,rfl,by omega,by omega,?_⟩
   refine A.store s l Q ?_
   intro h4 o4 t4 _
   refine ⟨_,rfl,by omega,by omega,?_⟩
   refine t4.store s hk S ?_
   intro h5 o5 O _
   rw [ew s]
   refine ⟨⟨j+1,o5,by omega,rfl,O.congr fun a b _ _=>?_⟩,by simp only [U9];omega⟩
   unfold A04
   dsimp only
   by_cases c1:a=j
   ·subst c1
    by_cases c2:b=k
    ·rw [iP ⟨rfl,c2⟩,iP (aH a),c2,Ah]
    ·rw [iN (fun x=>c2 x.2)]
     by_cases c3:b=i
     ·rw [iP ⟨rfl,c3⟩,iP (aH a),c3,B1d]
     ·rw [iN (fun x=>c3 x.2),iN (aT a),iP (aH a),C0s c2 c3]
   ·rw [iN (fun x=>c1 x.1),iN (fun x=>c1 x.1)]
    by_cases c2:a<j
    ·rw [iP c2,iP (by omega)]
    ·rw [iN c2,iN (by omega)]
  ·have ak:j=n:=by omega
   subst ak
   refine hK w g o' _ _ _ _ (B5 _) (A.congr (M':=fun a b=>P (xch k i a) (xch k i b)) fun a b ha _=>by rw [iP ha]) (pd.swap hk l (aC _) J) (fun a b ha ac hb ai=>hP _ _ (A2n J ha) (R6 hk l ac) (A2n J hb) (R6 hk l ai)) (fun a b ha hb=>(hs _ _ (R6 hk l ha) (R6 hk l hb)).mono (by omega)) (fun e=>?_)
   rw [Ah] at e
   exact absurd e G
 have aq:i=n:=by omega
 subst aq
 have L:∀ j,k<=j->j<i->R j j=0:=hz
 rw [ew hk]
 refine ⟨fun L' hx=>∃ a:Nat,k<a/\a<=i/\L'=[I (a:Int)]/\hx=B/\∀ b,k<b->b<a->R b k=0,fun L' _=>i-(iAt L' 0).toNat,⟨k+1,by omega,by omega,rfl,rfl,fun b _ _=>by omega⟩,?_⟩
 rintro y1 hx ⟨a,a2,ac,av,rfl,ab⟩
 obtain rfl:=sI1 av
 refine B8 (fun ax=>?_) (fun ay=>?_)
 rotate_left
 ·have al:a=i:=by omega
  subst al
  refine hK hx g o rb P R F (B5 _) t pd hP (fun a b ha hb=>(hs a b ha hb).mono (by omega)) (fun _ j hj=>?_)
  rcases Nat.lt_trichotomy j k with c|c|c
  ·exact pd.zero k j hk hj (.inr c)
  ·rw [c];exact L k (aC _) hk
  ·rw [pd.symm k j hk hj];exact ab j c hj
 have f:a<i:=by omega
 obtain ⟨ca,a5,ap⟩:=t.head f
 obtain ⟨x,ix,x0,x1,x2,x3⟩:=t.elem f hk
 rw [hP a k (by omega) f (aC _) hk] at ix
 refine ⟨_,rfl,by omega,by omega,_,_,_,D.cell ap,_,rfl,by omega,by omega,_,_,_,_,_,_,_,_,D.cell x0,D.cell x1,D.cell x2,D.cell x3,?_⟩
 refine Q7 (NQ.mono D.le ix) ⟨_,rfl,I4 (fun W=>?_) (fun he=>?_)⟩
 rotate_left
 ·rw [ew f]
  refine ⟨⟨a+1,by omega,by omega,rfl,rfl,fun b h1 h2=>?_⟩,by simp only [U9];omega⟩
  by_cases c:b=a
  ·rw [c];exact M.1 he
  ·exact ab b h1 (by omega)
 have G:R a k≠0:=fun e=>W (M.2 e)
 clear ix x0 x1 x2 x3 x
 refine ⟨fun L' w=>∃ (j:Nat) (g' o':aE),j<=i/\L'=[I (j:Int)]/\g.le g'/\Mt w g' o' bo rb i i (fun p q=>if p=k/\q<j then P k q+P a q else P p q),fun L' _=>i-(iAt L' 0).toNat,⟨0,g,o,by omega,rfl,B5 _,t.congr fun p q _ _=>by rw [iN (by omega)]⟩,?_⟩
 rintro y2 w ⟨j,g',o',hj,V,lg,A⟩
 obtain rfl:=sI1 V
 have r:=A.sep
 refine B8 (fun ae=>?_) (fun ag=>?_)
 ·have s:j<i:=by omega
  obtain ⟨c1,ah,E⟩:=A.head hk
  obtain ⟨c2,a3,an⟩:=A.head f
  obtain ⟨u,Q,u0,u1,u2,u3⟩:=A.elem hk s
  obtain ⟨v,S,v0,v1,v2,v3⟩:=A.elem f s
  rw [iN (by omega)] at Q S
  refine ⟨_,rfl,by omega,by omega,_,_,_,r.cell E,_,rfl,by omega,by omega,_,_,_,r.cell E,_,rfl,by omega,by omega,_,_,_,_,_,_,_,_,r.cell u0,r.cell u1,r.cell u2,r.cell u3,_,rfl,by omega,by omega,_,_,_,r.cell an,_,rfl,by omega,by omega,_,_,_,_,_,_,_,_,r.cell v0,r.cell v1,r.cell v2,r.cell v3,?_⟩
  refine r.call (No (m:=m) Q S (hs k j hk s) (hs a j f s) (by omega) ?_)
  intro w5 g5 l5 i5 h5 z
  refine ⟨_,_,_,_,_,_,_,_,rfl,r.le_le z l5,_,rfl,by omega,by omega,?_⟩
  refine (A.next z l5).store hk s i5 ?_
  intro h6 o6 t6 _
  rw [ew s]
  refine ⟨⟨j+1,g5,o6,by omega,rfl,B0 lg l5,t6.congr fun p q _ _=>?_⟩,by simp only [U9];omega⟩
  unfold A04
  dsimp only
  by_cases e:p=k/\q=j
  ·rw [iP e,iP (by omega),e.2]
  ·rw [iN e]
   by_cases Z:p=k/\q<j
   ·rw [iP Z,iP (by omega)]
   ·rw [iN Z,iN (by omega)]
 have ar:j=i:=by omega
 subst ar
 have H:∀ p q,p<j->q<j->Sz (2*m+1) (if p=k then P k q+P a q else P p q):=fun p q B w=>by
  split
  ·exact ((hs k q hk w).add (hs a q f w)).mono (by omega)
  ·exact (hs p q B w).mono (by omega)
 have t4:Mt w g' o' bo rb j j (fun p q=>if p=k then P k q+P a q else P p q):=A.congr fun p q _ w=>by
  by_cases e:p=k
  ·rw [iP ⟨e,w⟩,iP e]
  ·rw [iN (fun x=>e x.1),iN e]
 clear A r
 refine ⟨fun L' hv=>∃ (b:Nat) (g2 o2:aE),b<=j/\L'=[I (b:Int)]/\g.le g2/\Mt hv g2 o2 bo rb j j (fun p q=>if p<b/\q=k then (if p=k then P k k+P a k else P p k)+(if p=k then P k a+P a a else P p a) else if p=k then P k q+P a q else P p q),fun L' _=>j-(iAt L' 0).toNat,⟨0,g',o',by omega,rfl,lg,t4.congr fun p q _ _=>by rw [iN (show ¬ (p<0/\q=k) by omega)]⟩,?_⟩
 clear t4
 rintro y3 hv ⟨b,g2,o2,hb,am,af,O⟩
 obtain rfl:=sI1 am
 have z:=O.sep
 refine B8 (fun aw=>?_) (fun az=>?_)
 ·have C:b<j:=by omega
  obtain ⟨c1,ah,E⟩:=O.head C
  obtain ⟨u,Q,u0,u1,u2,u3⟩:=O.elem C hk
  obtain ⟨v,S,v0,v1,v2,v3⟩:=O.elem C f
  rw [iN (show ¬ (b<b/\k=k) by omega)] at Q
  rw [iN (show ¬ (b<b/\a=k) by omega)] at S
  refine ⟨_,rfl,by omega,by omega,_,_,_,z.cell E,_,rfl,by omega,by omega,_,_,_,z.cell E,_,rfl,by omega,by omega,_,_,_,_,_,_,_,_,z.cell u0,z.cell u1,z.cell u2,z.cell u3,_,rfl,by omega,by omega,_,_,_,z.cell E,_,rfl,by omega,by omega,_,_,_,_,_,_,_,_,z.cell v0,z.cell v1,z.cell v2,z.cell v3,?_⟩
  refine z.call (No (m:=2*m+1) Q S (H b k C hk) (H b a C f) (by omega) ?_)
  intro w6 g6 l6 i6 h6 s6
  refine ⟨_,_,_,_,_,_,_,_,rfl,z.le_le s6 l6,_,rfl,by omega,by omega,?_⟩
  refine (O.next s6 l6).store C hk i6 ?_
  intro h7 o7 t7 _
  rw [ew C]
  refine ⟨⟨b+1,g6,o7,by omega,rfl,B0 af l6,t7.congr fun p q _ _=>?_⟩,by simp only [U9];omega⟩
  unfold A04
  dsimp only
  by_cases e:p=b/\q=k
  ·rw [iP e,iP (show p<b+1/\q=k by omega),e.1]
  ·rw [iN e]
   by_cases Z:p<b/\q=k
   ·rw [iP Z,iP (show p<b+1/\q=k by omega)]
   ·rw [iN Z,iN (show ¬ (p<b+1/\q=k) by omega)]
 have ao:b=j:=by omega
 subst ao
 refine hK hv g2 o2 rb _ _ _ af (O.congr (M':=fun p q=>if q=k then (if p=k then P k k+P a k else P p k)+(if p=k then P k a+P a a else P p a) else if p=k then P k q+P a q else P p q) fun p q B _=>?_) (pd.merge hk f (aC _) (by omega) (by omega)) (fun p q B T w aa=>?_) (fun p q B w=>?_) (fun e=>?_)
 ·by_cases e:q=k
  ·rw [iP ⟨B,e⟩,iP e]
  ·rw [iN (fun x=>e x.2),iN e]
 ·try dsimp only
  unfold Hf
  have e1:=hP k k (aC _) hk (aC _) hk
  have Z:=hP a k (by omega) f (aC _) hk
  have e3:=hP k a (aC _) hk (by omega) f
  have e4:=hP a a (by omega) f (by omega) f
  by_cases c1:q=k
  ·by_cases c2:p=k
   ·rw [iP c1,iP c2,iP c2,iP c2,iP c1,iP c2,e1,Z,e3,e4,c1,c2]
   ·rw [iP c1,iN c2,iN c2,iN c2,iP c1,iN c2,hP p k B T (aC _) hk,hP p a B T (by omega) f,c1];grind
  ·by_cases c2:p=k
   ·rw [iN c1,iP c2,iP c2,iN c1,hP k q (aC _) hk w aa,hP a q (by omega) f w aa,c2];grind
   ·rw [iN c1,iN c2,iN c2,iN c1,hP p q B T w aa];grind
 ·try dsimp only
  split
  ·exact ((H p k B hk).add (H p a B f)).mono (by omega)
  ·exact (H p q B w).mono (by omega)
 ·exfalso
  unfold Hf at e
  rw [iP rfl,iP rfl,iP rfl,L k (aC _) hk,L a (by omega) f,pd.symm k a hk f] at e
  exact G (by grind)
end
def gz(m:Nat):Nat->Nat
 | 0=>m
 | k+1=>16*gz m k+13
def C1k(m:Nat):∀ n k,k<=n->gz m k<=gz m n:=by
 intro n
 induction n with
 | zero=>intro k h;rw [show k=0 by omega];exact aC _
 | succ n ih=>
  intro k h
  by_cases c:k=n+1
  ·rw [c];exact aC _
  ·have:=ih k (by omega)
   rw [show gz m (n+1)=16*gz m n+13 from rfl];omega
def Yn{d d':Nat->Rat}: ∀ n,(∀ m,m<n->d m=d' m)->Uo d n=Uo d' n:=by
 intro n
 induction n with
 | zero=>exact fun _=>rfl
 | succ n ih=>intro h;rw [Uo,Uo,ih fun m a=>h m (by omega),h n (by omega)]
def gE(P:Nat->Nat->Rat)(k i j:Nat):Nat->Nat->Rat:=fun a b=>if k<a/\k<=b/\(a<i\/(a=i/\b<j)) then P a b-P a k/P k k*P k b else P a b
section
variable {h:aE} {A:Option aG} {n m cap:Nat} {E:Nat->Rat} {K:VP}
def A6c(rs:RowsV h A n n (mtx E n))(sy:A5d n (mtx E n))(hn1:1<=n)(hn:n<=64)(hs:∀ i,i<n*n->Sz m (E i))(hm1:1<=m)(hm:gz m n<=400000000)
 (hK:∀ d F,Diag n (mtx E n) d F->∀ h',h.le h'->K (.tuple #[I (Bg d n:Int),I (Uo d n:Int),I (Ec d n:Int)]) h'):aM prog A1e #[.slice A n cap] h K:=by
 refine B5v _ _ _ ?_
 unfold C0g
 have ew:∀ {j:Nat},j<n->B7 ((j:Int)+1)=((j+1:Nat):Int):=fun {j} hj=>by rw [C0]<;>omega
 refine Qf rs (by omega) hn1 (by omega) hn1 ?_
 intro H g1 o1 bo ao c0 l1 t1
 refine ⟨_,_,_,rfl,?_⟩
 refine ⟨fun L hp=>∃ (k:Nat) (g o:aE) (rb:Nat->Nat) (P R F:Nat->Nat->Rat) (d:Nat->Rat),k<=n/\L=[I (Bg d k:Int),I (Uo d k:Int),I (Ec d k:Int),I (k:Int)]/\h.le g/\Mt hp g o bo rb n n P/\PD n k (mtx E n) d F R/\(∀ i j,k<=i->i<n->k<=j->j<n->P i j=R i j)/\∀ i j,i<n->j<n->Sz (gz m k) (P i j),fun L _=>n-(iAt L 3).toNat,⟨0,g1,o1,ao,_,_,_,fun _=>0,by omega,rfl,l1,t1,PD.start _ sy,fun _ _ _ _ _ _=>rfl,fun i j hi hj=>hs _ (O2 hi hj)⟩,?_⟩
 clear t1
 rintro z1 z2 z3 z4 hp ⟨k,g,o,rb,P,R,F,d,hk,eL,lg,t,pd,hP,hz⟩
 simp only [aK,aJ,true_and,and_true] at eL
 obtain ⟨rfl,rfl,rfl,rfl⟩:=eL
 have a3:=C52 d k
 refine B8 (fun a8=>?_) (fun ba=>?_)
 rotate_left
 ·have:k=n:=by omega
  subst this
  have D:=pd.done (aC k) fun i j hi hj=>pd.zero i j hi hj (.inl hi)
  have af:=hK _ _ D hp (B0 lg t.sep.le)
  rw [Js (d':=d) k fun m hm=>iP hm,Jt (d':=d) k fun m hm=>iP hm,Yn (d':=d) k fun m hm=>iP hm] at af
  exact af
 have f:k<n:=by omega
 have a6:16*gz m k+13<=gz m n:=C1k m n (k+1) f
 refine A6e t pd hP f hn hz (by omega) ?_
 intro h2 g2 o2 C P2 R2 F2 l2 t2 am G l X
 generalize hM:4*gz m k+3=M at *
 have ak:=B0 lg l2
 have s2:=t2.sep
 obtain ⟨ck,bf,aw⟩:=t2.head f
 obtain ⟨x,ix,x0,x1,x2,x3⟩:=t2.elem f f
 have N:=G k k (aC _) f (aC _) f
 rw [N] at ix
 have d1:Bg (fun m=>if m=k then R2 k k else d m) k=Bg d k:=Js k fun m hm=>iN (by omega)
 have d2:Ec (fun m=>if m=k then R2 k k else d m) k=Ec d k:=Jt k fun m hm=>iN (by omega)
 have d3:Uo (fun m=>if m=k then R2 k k else d m) k=Uo d k:=Yn k fun m hm=>iN (by omega)
 have Z:Bg (fun m=>if m=k then R2 k k else d m) (k+1)=Bg d k+if 0<R2 k k then 1 else 0:=by rw [Bg,d1,iP rfl]
 have O:Ec (fun m=>if m=k then R2 k k else d m) (k+1)=Ec d k+if R2 k k<0 then 1 else 0:=by rw [Ec,d2,iP rfl]
 have f3:Uo (fun m=>if m=k then R2 k k else d m) (k+1)=Uo d k+if R2 k k=0 then 1 else 0:=by rw [Uo,d3,iP rfl]
 have ay:B7 ((Bg d k:Int)+1)=((Bg d k+1:Nat):Int):=by rw [C0]<;>omega
 have an:B7 ((Ec d k:Int)+1)=((Ec d k+1:Nat):Int):=by rw [C0]<;>omega
 have ar:B7 ((Uo d k:Int)+1)=((Uo d k+1:Nat):Int):=by rw [C0]<;>omega
 have aa:∀ {q:Rat},q.num.sign=0↔q=0:=fun {q}=>by rw [aY];exact Rat.num_eq_zero
 have ad:(R2 k k).num.sign=1↔0<R2 k k:=by
  have H:=Yh (q:= -(R2 k k))
  rw [Rat.neg_num,Int.sign_neg] at H
  have h3:(R2 k k).num.sign<=1:=by
   rcases Int.sign_trichotomy (R2 k k).num with e|e|e<;>omega
  constructor
  ·intro x;have:=H.1 (by omega);grind
  ·intro x;have:=H.2 (by grind);omega
 refine ⟨rfl,fun L hx=>hx=h2/\R2 k k≠0/\L=[I (Bg (fun m=>if m=k then R2 k k else d m) (k+1):Int),I (Uo (fun m=>if m=k then R2 k k else d m) (k+1):Int),I (Ec (fun m=>if m=k then R2 k k else d m) (k+1):Int)],?_,?_⟩
 ·refine ⟨_,rfl,by omega,by omega,_,_,_,s2.cell aw,_,rfl,by omega,by omega,_,_,_,_,_,_,_,_,s2.cell x0,s2.cell x1,s2.cell x2,s2.cell x3,?_⟩
  refine Q7 (NQ.mono s2.le ix) ⟨_,rfl,E5 (fun he=>?_) (fun av=>?_)⟩
  ·have e0:=aa.1 he
   rw [ar,ew f]
   refine ⟨⟨k+1,g2,o2,C,P2,R2,F2,fun m=>if m=k then 0 else d m,f,?_,ak,t2,am.skip (X e0) f,fun i j a b c e=>G i j (by omega) b (by omega) e,fun i j hi hj=>(l i j hi hj).mono (show _<=16*gz m k+13 by omega)⟩,?_⟩
   ·rw [e0] at Z O f3
    rw [iN (by decide +kernel)] at Z O
    rw [iP rfl] at f3
    rw [Z,O,f3];rfl
   ·show n-((k+1:Nat):Int).toNat<n-((k:Nat):Int).toNat
    omega
  ·have z:R2 k k≠0:=fun e=>av (aa.2 e)
   rw [iN z] at f3
   refine E5 (fun H=>?_) (fun H=>?_)
   ·have a1:=ad.1 H
    rw [iP a1] at Z
    rw [iN (by grind)] at O
    exact ⟨rfl,z,by rw [ay,Z,O,f3];rfl⟩
   ·have T: ¬ 0<R2 k k:=fun x=>H (ad.2 x)
    rw [iN T] at Z
    rw [iP (by grind)] at O
    exact ⟨rfl,z,by rw [an,Z,O,f3];rfl⟩
 rintro q1 q2 q3 hx ⟨rfl,z,eJ⟩
 simp only [aK,aJ,true_and,and_true] at eJ
 obtain ⟨rfl,rfl,rfl⟩:=eJ
 clear x0 x1 x2 x3 ix x
 rw [ew f]
 have a7:P2 k k≠0:=by rw [N];exact z
 have a0:4*M+1=16*gz m k+13:=by omega
 have zE:∀ i j a b,a<n->b<n->Sz (4*M+1) (gE P2 k i j a b):=fun i j a b ha Q=>by
  unfold gE
  split
  ·exact ((l a b ha Q).sub (((l a k ha f).div (l k k f f) (by omega)).mul (l k b f Q))).mono (by omega)
  ·exact (l a b ha Q).mono (by omega)
 refine ⟨fun L hq=>∃ (i:Nat) (g' o':aE),k<i/\i<=n/\L=[I (i:Int)]/\h.le g'/\Mt hq g' o' bo C n n (gE P2 k i 0),fun L _=>n-(iAt L 0).toNat,⟨k+1,g2,o2,by omega,by omega,rfl,ak,t2.congr fun a b _ _=>by unfold gE;rw [iN (by omega)]⟩,?_⟩
 clear t2
 rintro y1 hq ⟨i,g3,o3,bd,be,a2,ae,J⟩
 obtain rfl:=sI1 a2
 have y:=J.sep
 refine B8 (fun a4=>?_) (fun a5=>?_)
 ·have s:i<n:=by omega
  obtain ⟨c1,a9,ah⟩:=J.head s
  obtain ⟨c2,bc,ai⟩:=J.head f
  obtain ⟨u,iu,u0,u1,u2,u3⟩:=J.elem s f
  obtain ⟨v,iv,v0,v1,v2,v3⟩:=J.elem f f
  have eu:gE P2 k i 0 i k=P2 i k:=by unfold gE;rw [iN (by omega)]
  have ev:gE P2 k i 0 k k=P2 k k:=by unfold gE;rw [iN (by omega)]
  rw [eu] at iu
  rw [ev] at iv
  refine ⟨_,rfl,by omega,by omega,_,_,_,y.cell ah,_,rfl,by omega,by omega,_,_,_,_,_,_,_,_,y.cell u0,y.cell u1,y.cell u2,y.cell u3,_,rfl,by omega,by omega,_,_,_,y.cell ai,_,rfl,by omega,by omega,_,_,_,_,_,_,_,_,y.cell v0,y.cell v1,y.cell v2,y.cell v3,?_⟩
  have zf:Sz (2*M) (P2 i k/P2 k k):=((l i k s f).div (l k k f f) (by omega)).mono (by omega)
  refine y.call (Ue (m:=M) iu iv (l i k s f) (l k k f f) (by omega) ?_)
  intro w4 g4 l4 i4 h4 s4
  refine ⟨_,_,_,_,_,_,_,_,rfl,y.le_le s4 l4,?_⟩
  refine ⟨fun L hr=>∃ (j:Nat) (g' o':aE),k<=j/\j<=n/\L=[I (j:Int)]/\g4.le g'/\Mt hr g' o' bo C n n (gE P2 k i j),fun L _=>n-(iAt L 0).toNat,⟨k,g4,o3,aC _,by omega,rfl,B5 _,(J.next s4 l4).congr fun a b _ _=>by
   unfold gE
   by_cases c:k<a/\k<=b/\(a<i\/(a=i/\b<0))
   ·rw [iP c,iP (by omega)]
   ·rw [iN c,iN (by omega)]⟩,?_⟩
  clear iu u0 u1 u2 u3 iv v0 v1 v2 v3 ah ai
  rintro y2 hr ⟨j,g5,o5,ax,ap,W,S,B⟩
  obtain rfl:=sI1 W
  have w:=B.sep
  refine B8 (fun aj=>?_) (fun al=>?_)
  ·have r:j<n:=by omega
   obtain ⟨c3,bb,ac⟩:=B.head s
   obtain ⟨c4,aq,V⟩:=B.head f
   obtain ⟨p,ip,p0,p1,p2,p3⟩:=B.elem s r
   obtain ⟨q,iq,q0,q1,q2,q3⟩:=B.elem f r
   have ep:gE P2 k i j i j=P2 i j:=by unfold gE;rw [iN (by omega)]
   have eq:gE P2 k i j k j=P2 k j:=by unfold gE;rw [iN (by omega)]
   rw [ep] at ip
   rw [eq] at iq
   refine ⟨_,rfl,by omega,by omega,_,_,_,w.cell ac,_,rfl,by omega,by omega,_,_,_,w.cell ac,_,rfl,by omega,by omega,_,_,_,_,_,_,_,_,w.cell p0,w.cell p1,w.cell p2,w.cell p3,_,rfl,by omega,by omega,_,_,_,w.cell V,_,rfl,by omega,by omega,_,_,_,_,_,_,_,_,w.cell q0,w.cell q1,w.cell q2,w.cell q3,?_⟩
   refine w.call (Ia (m:=2*M) (NQ.mono S i4) iq zf ((l k j f r).mono (by omega)) (by omega) ?_)
   intro w6 g6 l6 i6 h6 s6
   refine ⟨_,_,_,_,_,_,_,_,rfl,w.le_le s6 l6,?_⟩
   refine s6.call (Hy (m:=3*M) (NQ.mono l6 ip) i6 ((l i j s r).mono (by omega)) ((zf.mul (l k j f r)).mono (by omega)) (by omega) ?_)
   intro w7 g7 l7 i7 h7 s7
   refine ⟨_,_,_,_,_,_,_,_,rfl,s6.le_le s7 l7,_,rfl,by omega,by omega,?_⟩
   refine ((B.next s6 l6).next s7 l7).store s r i7 ?_
   intro h8 o8 t8 _
   rw [ew r]
   refine ⟨⟨j+1,g7,o8,by omega,by omega,rfl,B0 S (B0 l6 l7),t8.congr fun a b _ _=>?_⟩,by simp only [U9];omega⟩
   unfold A04 gE
   by_cases c:a=i/\b=j
   ·rw [iP c,iP (by omega),c.1,c.2]
   ·rw [iN c]
    by_cases c2:k<a/\k<=b/\(a<i\/(a=i/\b<j))
    ·rw [iP c2,iP (by omega)]
    ·rw [iN c2,iN (by omega)]
  ·have au:j=n:=by omega
   subst au
   rw [ew s]
   refine ⟨⟨i+1,g5,o5,by omega,by omega,rfl,B0 ae (B0 l4 S),B.congr fun a b _ Q=>?_⟩,by simp only [U9];omega⟩
   unfold gE
   by_cases c2:k<a/\k<=b/\(a<i\/(a=i/\b<j))
   ·rw [iP c2,iP (by omega)]
   ·rw [iN c2,iN (by omega)]
 have az:i=n:=by omega
 subst az
 refine ⟨fun L hr=>∃ (j:Nat) (o':aE),k<j/\j<=i/\L=[I (j:Int)]/\Mt hr g3 o' bo C i i (fun a b=>if a=k/\k<b/\b<j then 0 else gE P2 k i 0 a b),fun L _=>i-(iAt L 0).toNat,⟨k+1,o3,by omega,by omega,rfl,J.congr fun a b _ _=>by rw [iN (by omega)]⟩,?_⟩
 clear J y
 rintro y3 hr ⟨j,o5,ax,ap,W,B⟩
 obtain rfl:=sI1 W
 have w:=B.sep
 refine B8 (fun aj=>?_) (fun al=>?_)
 ·have r:j<i:=by omega
  obtain ⟨c4,aq,V⟩:=B.head f
  refine ⟨_,rfl,by omega,by omega,_,_,_,w.cell V,_,rfl,by omega,by omega,?_⟩
  refine B.store f r (x:=As) NQ.zero ?_
  intro h8 o8 t8 _
  rw [ew r]
  refine ⟨⟨j+1,o8,by omega,by omega,rfl,t8.congr fun a b _ _=>?_⟩,by simp only [U9];omega⟩
  unfold A04
  dsimp only
  by_cases c:a=k/\b=j
  ·rw [iP c,iP (by omega)]
  ·rw [iN c]
   by_cases c2:a=k/\k<b/\b<j
   ·rw [iP c2,iP (by omega)]
   ·rw [iN c2,iN (by omega)]
 ·refine ⟨⟨k+1,g3,o5,C,_,_,_,_,f,rfl,ae,B,am.adv f z,fun a b ha ag Q ab=>?_,fun a b ha Q=>?_⟩,?_⟩
  ·rw [iN (by omega)]
   unfold gE
   rw [iP (by omega),G a b (by omega) ag (by omega) ab,G a k (by omega) ag (aC _) f,G k b (aC _) f (by omega) ab,N]
   grind
  ·show Sz (16*gz m k+13) _
   split
   ·exact Sz.zero (by omega)
   ·rw [<- a0];exact zE i 0 a b ha Q
  ·show i-((k+1:Nat):Int).toNat<i-((k:Nat):Int).toNat
   omega
def A0u{r c:Int}{ls:Nat->List UInt8}(rv':aN SSr h A n ls)(hn:n<=1000000)(hl:LL n ls)(hs:∀ i,i<n->Sz m (rv (ls i)))(hm1:1<=m)(hb:∀ q,MOk r c n ls q q->gz m q<=400000000)
 (hK1:∀ q,SqOk r c n ls q->∀ d F,Diag q (mtx (rvs ls) q) d F->∀ h',h.le h'->K (.tuple #[I (Bg d q:Int),I (Uo d q:Int),I (Ec d q:Int),I 0]) h')
 (hK0:∀ e,SqE r c n ls e->∀ h',h.le h'->K (.tuple #[I 0,I 0,I 0,I e]) h'):aM prog Jy #[Hb r c A n cap] h K:=by
 refine A7b _ _ _ _ _ ?_
 unfold A94
 refine Ie rv' hn hl ?_ (fun e j k f=>⟨_,_,_,_,rfl,I4 (fun _=>hK0 e j k f) (fun t=>by rcases j with ⟨_,x⟩|⟨_,_,x⟩<;>omega)⟩)
 intro q sq u cp k f _ p
 have b:=hb q sq.1
 have:=sq.1.r1;have:=sq.1.r2
 have a:=sq.1.len
 refine ⟨_,_,_,_,rfl,I4 (fun g=>absurd rfl g) (fun _=>?_)⟩
 refine A6c (m:=m) p sq.2.symm (by omega) (by omega) (fun i l=>hs i (by rw [a];exact l)) hm1 b ?_
 intro d F D s o
 exact ⟨_,_,_,rfl,hK1 q sq d F D s (B0 f o)⟩
end
structure FOut where
 r:Int
 n:Nat
 f:Nat->List UInt8
 dn:Nat
 g:Nat->List UInt8
 ok:Bool
 e:Int
def noF(e:Int):FOut:=⟨0,0,fun _=>[],0,fun _=>[],false,e⟩
def FacO(r c:Int)(n:Nat)(ls:Nat->List UInt8)(o:FOut):Prop:=
 (∃ e,SqE r c n ls e/\o=noF e)\/∃ q,SqOk r c n ls q/\(((∀ k,k<q->Pn (mtx (rvs ls) q) q k)/\o=⟨(q:Int),q*q,fun t=>K9 (A2h (mtx (rvs ls) q) q q t),q,fun t=>K9 (A2i (mtx (rvs ls) q) q t),true,0⟩)\/((¬ ∀ k,k<q->Pn (mtx (rvs ls) q) q k)/\o=noF 0))
def InO(r c:Int)(n:Nat)(ls:Nat->List UInt8)(p z m:Nat)(e:Int):Prop:=
 (SqE r c n ls e/\p=0/\z=0/\m=0)\/∃ q,SqOk r c n ls q/\e=0/\∃ d F,Diag q (mtx (rvs ls) q) d F/\p=Bg d q/\z=Uo d q/\m=Ec d q
section
variable {r c:Int} {n:Nat} {ls:Nat->List UInt8}
def SqE.eq{e e':Int}(x:SqE r c n ls e)(y:SqE r c n ls e'):e=e':=by
 rcases x with ⟨x1,rfl⟩|⟨x1,x2,rfl⟩<;>rcases y with ⟨y1,rfl⟩|⟨y1,y2,rfl⟩
 ·rfl
 ·exact absurd y1 x1
 ·exact absurd x1 y1
 ·rfl
def SqOk.eq{q q':Nat}(x:SqOk r c n ls q)(y:SqOk r c n ls q'):q=q':=by have:=x.1.er;have:=y.1.er;omega
def FacO.eq{o p:FOut}(x:FacO r c n ls o)(y:FacO r c n ls p):o=p:=by
 rcases x with ⟨e,x1,rfl⟩|⟨q,x1,x2⟩<;>rcases y with ⟨e',y1,rfl⟩|⟨q',y1,y2⟩
 ·rw [x1.eq y1]
 ·exact (x1.not y1).elim
 ·exact (y1.not x1).elim
 ·obtain rfl:=x1.eq y1
  rcases x2 with ⟨a,rfl⟩|⟨a,rfl⟩<;>rcases y2 with ⟨b,rfl⟩|⟨b,rfl⟩
  ·rfl
  ·exact absurd a b
  ·exact absurd b a
  ·rfl
def InO.eq{p z m p' z' m':Nat}{e e':Int}(x:InO r c n ls p z m e)(y:InO r c n ls p' z' m' e'):p=p'/\z=z'/\m=m'/\e=e':=by
 rcases x with ⟨x1,rfl,rfl,rfl⟩|⟨q,x1,rfl,d,F,D,rfl,rfl,rfl⟩<;>rcases y with ⟨y1,rfl,rfl,rfl⟩|⟨q',y1,rfl,d',F',D',rfl,rfl,rfl⟩
 ·exact ⟨rfl,rfl,rfl,x1.eq y1⟩
 ·exact (x1.not y1).elim
 ·exact (y1.not x1).elim
 ·obtain rfl:=x1.eq y1
  have:=D.same D'
  exact ⟨this.1,this.2.1,this.2.2,rfl⟩
end
section
variable {h:aE} {K:VP} {A A2 B B2:Option aG} {n cap cap2 cap3 cap4 m Q:Nat} {r c:Int} {ls:Nat->List UInt8}
def B0d(gl:Gl h)(rv':aN SSr h A n ls)(hn:n<=1000000)(hl:LL n ls)(hs:∀ i,i<n->Sz m (rv (ls i)))(hb:∀ q,MOk r c n ls q q->3^q*bnd q m+bnd q m<=Q)(hQ:Q<=20000000)
 (hK:∀ o,FacO r c n ls o->∀ A' B' c1 c2 h',h.le h'->aN SSr h' A' o.n o.f->aN SSr h' B' o.dn o.g->K (.tuple #[.agg #[I o.r,I o.r,.slice A' o.n c1,.slice B' o.dn c2],.bool o.ok,I o.e]) h'):aM prog Ez #[Hb r c A n cap] h K:=by
 refine It gl rv' hn hl hs hb hQ (fun q sq ok p k h' a b=>?_) (fun q sq ok h' a=>hK (noF 0) (.inr ⟨q,sq,.inr ⟨ok,rfl⟩⟩) none none 0 0 h' a RowV.nil RowV.nil) (fun e j h' a=>hK (noF e) (.inl ⟨e,j,rfl⟩) none none 0 0 h' a RowV.nil RowV.nil)
 obtain ⟨rfl,rfl,_⟩:=id sq.1
 exact hK ⟨_,_,_,_,_,_,_⟩ (.inr ⟨q,sq,.inl ⟨ok,rfl⟩⟩) _ _ _ _ h' a b.l b.d
def B04(rv':aN SSr h A n ls)(hn:n<=1000000)(hl:LL n ls)(hs:∀ i,i<n->Sz m (rv (ls i)))(hb:∀ q,MOk r c n ls q q->3^q*bnd q m+bnd q m<=Q)(hQ:Q<=20000000)
 (hK:∀ o,FacO r c n ls o->∀ A' B' c1 c2 h',h.le h'->aN SSr h' A' o.n o.f->aN SSr h' B' o.dn o.g->K (.tuple #[.agg #[I o.r,I o.r,.slice A' o.n c1,.slice B' o.dn c2],.bool o.ok,I o.e]) h'):aM prog Vh #[Hb r c A n cap] h K:=by
 refine B14 _ _ _ _ _ ?_
 unfold B5y
 refine Ie rv' hn hl ?_ (fun e C D p=>⟨_,_,_,_,rfl,I4 (fun _=>hK (noF e) (.inl ⟨e,C,rfl⟩) none none 0 0 D p RowV.nil RowV.nil) (fun W=>by rcases C with ⟨_,x⟩|⟨_,_,x⟩<;>omega)⟩)
 intro q sq X cp D p _ R
 have b:=hb q sq.1
 have s:=sq.1.r1
 have w:=sq.1.r2
 have L:=sq.1.len
 have d:1<=Q:=by unfold bnd at b;omega
 have E:∀ i,i<q*q->Sz m (rvs ls i):=fun i l=>hs i (by omega)
 refine ⟨_,_,_,_,rfl,I4 (fun B=>absurd rfl B) (fun _=>?_)⟩
 refine Ux (Q:=Q) R s w (fun k u ok=>ldF E b sq.2.symm u ok) d (by omega) ?_ (fun z J y=>⟨_,_,_,_,_,_,_,rfl,A2g (hK (noF 0) (.inr ⟨q,sq,.inr ⟨z,rfl⟩⟩) none none 0 0 J (B0 p y) RowV.nil RowV.nil)⟩)
 intro ok b2 A2 c2 J y _ S O
 refine ⟨_,_,_,_,_,_,_,rfl,Br.nt ?_⟩
 have F:=fun k (u:k<=q)=>ldF E b sq.2.symm u fun m hm=>ok m (by omega)
 refine Qe (m:=2*Q) S (by omega) s (by omega) s (fun i j l N=>B36 (F j (by omega)) N d l) (by omega) ?_
 intro A3 c3 h3 H _ M
 refine ⟨_,_,_,_,_,rfl,?_⟩
 refine Ye (m:=Q) (O.mono V8 H) (by omega) (fun i l=>(F i (by omega)).zA i i (aC _) l l) (by omega) ?_
 intro Z V a
 refine ⟨_,_,_,rfl,hK ⟨(q:Int),q*q,fun t=>K9 (A2h (mtx (rvs ls) q) q q t),q,fun t=>K9 (A2i (mtx (rvs ls) q) q t),true,0⟩ (.inr ⟨q,sq,.inl ⟨ok,rfl⟩⟩) _ _ _ _ V (B0 p (B0 y (B0 H a.le))) ((M.mono O3 a.le).congr fun t G=>?_) ((a.vis O3).congr fun t G=>?_)⟩
 ·show K9 (ldL (mtx (rvs ls) q) (t/q) (t%q))=K9 (A2h (mtx (rvs ls) q) q q t)
  unfold A2h
  rw [iP (Nat.mod_lt t (by omega))]
 ·show K9 (ldD (mtx (rvs ls) q) t)=K9 (A2i (mtx (rvs ls) q) q t)
  have T:t<q:=G
  unfold A2i
  rw [iP T]
def B00{o:FOut}(ra:aN SSr h A o.n o.f)(rb:aN SSr h B o.dn o.g)(ra2:aN SSr h A2 o.n o.f)(rb2:aN SSr h B2 o.dn o.g)(hn:o.n<=1000000000)(hdn:o.dn<=1000000000)(hK:K (.bool true) h):aM prog A6l #[.agg #[I o.r,I o.r,.slice A o.n cap,.slice B o.dn cap2],.agg #[I o.r,I o.r,.slice A2 o.n cap3,.slice B2 o.dn cap4]] h K:=by
 refine B8q _ _ _ _ _ _ _ _ _ _ _ _ _ _ _ _ ?_
 unfold C4q
 refine Km ra ra2 hn (fun _ _ _ _=>⟨_,rfl,Kt ?_⟩) (fun a=>absurd ⟨rfl,rfl,rfl,fun _ _=>rfl⟩ a)
 exact Cb rb rb2 hdn (fun _ _=>⟨_,rfl,hK⟩) (fun a=>absurd ⟨rfl,fun _ _=>rfl⟩ a)
def FacO.le{o:FOut}(x:FacO r c n ls o):o.n<=4096/\o.dn<=64:=by
 rcases x with ⟨e,_,rfl⟩|⟨q,sq,⟨_,rfl⟩|⟨_,rfl⟩⟩
 ·exact ⟨aI _,aI _⟩
 ·have:=sq.1.r2
  exact ⟨aR this this,this⟩
 ·exact ⟨aI _,aI _⟩
def B45(gl:Gl h)(rv':aN SSr h A n ls)(hn:n<=1000000)(hl:LL n ls)(hs:∀ i,i<n->Sz m (rv (ls i)))(hb:∀ q,MOk r c n ls q q->sgM (bnd q m) (bnd q m) q<=100000000)
 (hK:∀ p z k e,InO r c n ls p z k e->∀ h',h.le h'->K (.tuple #[I (p:Int),I (z:Int),I (k:Int),I e]) h'):aM prog Kc #[Hb r c A n cap] h K:=
 A1p gl rv' hn hl hs hb (fun q sq d F D h' l=>hK _ _ _ _ (.inr ⟨q,sq,rfl,d,F,D,rfl,rfl,rfl⟩) h' l) (fun e a h' l=>hK 0 0 0 e (.inl ⟨a,rfl,rfl,rfl⟩) h' l)
def B3b(rv':aN SSr h A n ls)(hn:n<=1000000)(hl:LL n ls)(hs:∀ i,i<n->Sz m (rv (ls i)))(hm1:1<=m)(hb:∀ q,MOk r c n ls q q->gz m q<=400000000)
 (hK:∀ p z k e,InO r c n ls p z k e->∀ h',h.le h'->K (.tuple #[I (p:Int),I (z:Int),I (k:Int),I e]) h'):aM prog Jy #[Hb r c A n cap] h K:=
 A0u rv' hn hl hs hm1 hb (fun q sq d F D h' l=>hK _ _ _ _ (.inr ⟨q,sq,rfl,d,F,D,rfl,rfl,rfl⟩) h' l) (fun e a h' l=>hK 0 0 0 e (.inl ⟨a,rfl,rfl,rfl⟩) h' l)
end
section
variable {h:aE} {K:VP} {A B:Option aG} {n vn cap cap2:Nat} {r c:Int} {ls vs:Nat->List UInt8}
end
def bB1(m k:Nat):Nat:=3^k*bnd (k+k) m
def bB2(m k:Nat):Nat:=1+k*(2*bB1 m k+1)
def bB3(m k:Nat):Nat:=1+k*(2*bB2 m k+1)
def bB4(m k:Nat):Nat:=2*bB3 m k+2
def C17{k:Nat}(h1:1<=k)(h:k<4):SchB k 294 (bB1 294 k) (bB2 294 k) (bB3 294 k) (bB4 294 k):=by
 have key:∀ k,k<4->1<=k->294<=bB1 294 k/\bB1 294 k<=bB2 294 k/\bB2 294 k<=bB3 294 k/\bB4 294 k<=10000000:=by
  unfold bB4 bB3 bB2 bB1 bnd
  decide
 obtain ⟨a,b,c,d⟩:=key k h h1
 exact ⟨by omega,aC _,aC _,aC _,⟨a,b,c⟩,aC _,d⟩
section
variable {h:aE} {K:VP} {lA cA:Option aG} {ln lc cn cc:Nat} {ls cs:Nat->List UInt8}
end
def SchO.eq{r c z:Int}{n:Nat}{ls:Nat->List UInt8}{o p:MOut}(x:SchO r c n ls z o)(y:SchO r c n ls z p):o=p:=by
 rcases x with ⟨e,x1,rfl⟩|⟨q,x1,x2⟩<;>rcases y with ⟨e',y1,rfl⟩|⟨q',y1,y2⟩
 ·rw [x1.eq y1]
 ·exact (x1.not y1).elim
 ·exact (y1.not x1).elim
 ·obtain rfl:=x1.eq y1
  rcases x2 with ⟨a,rfl⟩|⟨k,l,ez,hk,hl,hq,x3⟩<;>rcases y2 with ⟨b,rfl⟩|⟨k',l',ez',hk',hl',hq',y3⟩
  ·rfl
  ·exact absurd ⟨by omega,by omega⟩ a
  ·exact absurd ⟨by omega,by omega⟩ b
  ·obtain rfl:k=k':=by omega
   obtain rfl:l=l':=by omega
   rcases x3 with ⟨a,rfl⟩|⟨a,rfl⟩<;>rcases y3 with ⟨b,rfl⟩|⟨b,rfl⟩
   ·rfl
   ·exact absurd b a
   ·exact absurd a b
   ·rfl
def SchO.le{r c z:Int}{n:Nat}{ls:Nat->List UInt8}{o:MOut}(x:SchO r c n ls z o):o.n<=4096:=by
 rcases x with ⟨e,_,rfl⟩|⟨q,sq,⟨_,rfl⟩|⟨k,l,_,_,_,a,⟨_,rfl⟩|⟨_,rfl⟩⟩⟩
 ·exact aI _
 ·exact aI _
 ·exact aI _
 ·have:=sq.1.r2
  exact aR (show l<=64 by omega) (show l<=64 by omega)
def C5w{q:Nat}(h:q<=4):gz 294 q<=400000000:=by
 have key:∀ q,q<5->gz 294 q<=400000000:=by decide
 exact key q (by omega)
def C7p{k:Nat}(h:k<4):7^k*294<=100000000:=by
 have key:∀ k,k<4->7^k*294<=100000000:=by decide
 exact key k h
def C2r{b:Bool}{X Y:Prop}(x:X):Br (b==b) X Y:=by rw [beq_self_eq_true];exact x
section
variable {h:aE} {A B lA cA:Option aG} {n vn cap cap2 ln lc cn cc:Nat} {r c:Int} {ls cs vs:Nat->List UInt8}
def law_ldlFactor{n z:Int}(gl:Gl h)(rl:aN SSr h lA ln ls)(rc:aN SSr h cA cn cs):aM prog Rx #[.slice lA ln lc,I n,.slice cA cn cc,I z] h (C6f h):=by
 refine A2a _ _ _ _ _ _ _ _ ?_
 unfold Zt
 have aw:∀ M,h.le M->aM prog Oe #[] M (fun r hp=>∃ t,r= .bool t/\C6f h (.bool t) hp):=fun M l=>A6w (gl.mono l) fun ab T=>⟨_,rfl,rfl,B0 l T⟩
 refine A6b rl rc (fun aa ac hl hc=>⟨_,rfl,Br.no ?_⟩) ⟨_,rfl,Kt (aw h (B5 _))⟩
 refine Ur rl rc hl hc ?_
 intro q D c A1 c1 h1 H O B
 refine ⟨_,_,_,_,_,rfl,?_⟩
 have ad:q*q<=4*4:=aR c c
 have ms:∀ i j,i<q->j<q->Sz 294 (B92 ls ln cs cn q i j):=fun i j _ _=>B1y hl hc c i j
 have C:∀ i,i<q*q->Sz 294 (rv (Db (B92 ls ln cs cn q) q i)):=Td D ms
 have A:∀ i,i<q*q->(Db (B92 ls ln cs cn q) q i).length<=100000000:=fun i N=>Nat.le_trans (A40 D ms i N) (by omega)
 generalize Db (B92 ls ln cs cn q) q=S at *
 have E:∀ {f:Nat->List UInt8} {q a b:Nat},MOk (q:Int) (q:Int) (q*q) f a b->a=q/\b=q:=fun mk=>by have:=mk.er;have:=mk.ec;omega
 have hb:∀ a,MOk (q:Int) (q:Int) (q*q) S a a->3^a*bnd a 294+bnd a 294<=121000:=fun a mk=>by rw [(E mk).1];exact C0y c
 have hB:∀ a k,MOk (q:Int) (q:Int) (q*q) S a a->1<=k->k<a->∃ B1 B2 B3 B4,SchB k 294 B1 B2 B3 B4:=fun a k mk h1 h2=>⟨_,_,_,_,C17 h1 (by have:=E mk;omega)⟩
 refine B0d (Q:=121000) (gl.mono H) B (by omega) A C hb (by omega) ?_
 intro o ho A2 B2 c2 d2 h2 l2 f2 g2
 refine ⟨_,_,_,_,_,_,_,_,_,_,rfl,?_⟩
 refine B04 (Q:=121000) (B.mono O3 l2) (by omega) A C hb (by omega) ?_
 intro o' J A3 B3 c3 d3 h3 W f3 g3
 obtain rfl:=ho.eq J
 refine ⟨_,_,_,_,_,_,_,_,_,_,rfl,?_⟩
 have g:=B0 l2 W
 refine B45 (m:=294) (gl.mono (B0 H g)) (B.mono O3 g) (by omega) A C (fun a mk=>by rw [(E mk).1];exact C3f c (.inl rfl)) ?_
 intro p y w e N h4 l4
 refine ⟨_,_,_,_,rfl,?_⟩
 have F:=B0 g l4
 refine B3b (m:=294) (B.mono O3 F) (by omega) A C (by omega) (fun a mk=>by rw [(E mk).1];exact C5w c) ?_
 intro p' y' w' e' X h5 l5
 obtain ⟨rfl,rfl,rfl,rfl⟩:=N.eq X
 refine ⟨_,_,_,_,rfl,?_⟩
 have u:=B0 F l5
 refine A6o (m:=294) (gl.mono (B0 H u)) (B.mono O3 u) O (by omega) A C hB ?_
 intro s hs A6 c6 h6 l6 r6
 refine ⟨_,_,_,_,_,_,rfl,?_⟩
 have G:=B0 u l6
 refine A6d (m:=294) (B.mono O3 G) (by omega) A C (fun a k mk h2=>C7p (by have:=E mk;omega)) hB ?_
 intro s' Z A7 c7 h7 L r7
 obtain rfl:=hs.eq Z
 refine ⟨_,_,_,_,_,_,rfl,?_⟩
 have R:=B0 G L
 have d:h3.le h7:=B0 l4 (B0 l5 (B0 l6 L))
 have on:=ho.le
 have sn:=hs.le
 refine B00 (f2.mono O3 (B0 W d)) (g2.mono O3 (B0 W d)) (f3.mono O3 d) (g3.mono O3 d) (by omega) (by omega) ⟨_,rfl,Kt (C2r ?_)⟩
 refine E5 (fun _=>?_) (fun e=>absurd rfl e)
 refine E5 (fun _=>?_) (fun e=>absurd rfl e)
 refine E5 (fun _=>?_) (fun e=>absurd rfl e)
 refine E5 (fun _=>?_) (fun e=>absurd rfl e)
 refine E5 (fun _=>?_) (fun e=>absurd rfl e)
 refine Km (r6.mono O3 L) r7 (by omega) (fun _ _ _ _=>⟨_,rfl,Kt ?_⟩) (fun V=>absurd ⟨rfl,rfl,rfl,fun _ _=>rfl⟩ V)
 exact E5 (fun _=>aw h7 (B0 H R)) (fun e=>absurd rfl e)
end
end Go.Proofs.YtmbfcbbkbefgfaaGreatDoor
namespace Go.Proofs.YtmbfcbbkbefgfaaGreatDoor
set_option maxRecDepth 20000
open Go Go.RowKit
def C40(s:ByteArray):bs s.data.toList=s:=by
 cases s;simp [bs]
def open_strV{H:Type}{enc:TypeId × Value->H}{P:Program}{W:World}{base:Nat}{sp:Nat->Bool}{held:Bool}{t e:TypeId}{fuel:Nat}{A:Option aG}{len cap:Nat}{x:DataW H × List MemPlace}(ht:P.underlying t=some (.slice e))(he:P.underlying e=some .string)(hc:P.cellsOf e=1)
 (hf:DataW.trod enc P W base sp held fuel t [.slice A len cap]=some x):∃ ls:Nat->List UInt8,aN SSr (memOf W) A len ls/\len<=maxLen:=by
 rcases Deep.open_strs ht he hc hf with ⟨b,_⟩|⟨a,l,c,m,Sx,b,_,o,n,g,_,d⟩
 ·simp at b
  obtain ⟨rfl,rfl,rfl⟩:=b
  exact ⟨fun _=>[],RowV.nil,aI _⟩
 ·simp at b
  obtain ⟨rfl,rfl,rfl⟩:=b
  have k:len<=m:=by rw [g];split<;>omega
  have sl:SlV (memOf W) (some a) (((List.range len).map fun i=>(Sx i).data.toList).map fun l=>Value.string (bs l)):=by
   refine .inr ⟨a,rfl,fun i v f=>?_⟩
   rw [List.getElem?_map,List.getElem?_map] at f
   by_cases j:i<len
   ·rw [List.getElem?_range j] at f
    simp only [Option.map_some,Option.some.injEq,C40] at f
    rw [<- f]
    exact Qa (d i (by omega)).1
   ·rw [List.getElem?_eq_none (by simpa using j)] at f;cases f
  have:=Hz sl
  rw [List.length_map,List.length_range] at this
  exact ⟨_,this,by omega⟩
