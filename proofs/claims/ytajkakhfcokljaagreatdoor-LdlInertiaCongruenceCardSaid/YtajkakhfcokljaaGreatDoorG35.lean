/-
  Texts of this proof, merged by a program of ours.
-/
import Derived.Test.YtajkakhfcokljaaGreatDoorG33
import Derived.Test.YtajkakhfcokljaaGreatDoorG34
import Derived.Test.YtajkakhfcokljaaGreatDoorG22
import Derived.Test.YtajkakhfcokljaaGreatDoorG30
import Derived.Deep.Strs
open Go.Proofs.Tryz
open Int renaming gcd->C5i,lcm->C5j
open List renaming getElem?_eq_getElem->C5q
open Nat renaming le_refl->C5h,le_trans->C5n,lt_succ_self->C5o
open Rat renaming mul_comm->C5k,divInt_eq_div->C5l,divInt->C5m,intCast_mul->C5p
namespace Go.Proofs.YtajkakhfcokljaaGreatDoor
set_option linter.all false
set_option maxRecDepth 20000
open Go
theorem Sd(x:Rat):x*(x.den:Rat)=(x.num:Rat):=by
 have h:=(Rat.num_divInt_den x).symm
 rw [C5l] at h
 have h2:(((x.den:Nat):Int):Rat)=(x.den:Rat):=rfl
 have h3:(((x.den:Nat):Int):Rat)≠0:=I9 (by have:=x.den_nz;omega)
 rw [h2] at h h3
 generalize (x.den:Rat)=d at *
 generalize (x.num:Rat)=n at *
 rw [h]
 grind
theorem B0k{x y:Rat}(hx:0<x)(hy:0<y){s:Rat}(hs:s=C5m (C5j x.num y.num) (C5i (x.den:Int) (y.den:Int))):0<s/\s=((s/x).num:Rat)*x/\s=((s/y).num:Rat)*y:=by
 have np:∀ z:Rat,0<z->0<z.num:=fun z hz=>by
  have h1:(0:Rat)<(z.den:Rat):=by exact_mod_cast z.den_pos
  have h2:=Rat.mul_pos hz h1
  rw [Sd] at h2
  exact_mod_cast h2
 have hxn:=np x hx
 have hyn:=np y hy
 have hxd:=x.den_pos
 have hyd:=y.den_pos
 have hG:0<C5i (x.den:Int) (y.den:Int):=Nat.gcd_pos_of_pos_left _ (by omega)
 have hL:0<C5j x.num y.num:=Nat.lcm_pos (by omega) (by omega)
 have hs':s*((C5i (x.den:Int) (y.den:Int):Nat):Int)=((C5j x.num y.num:Nat):Int):=by
  rw [hs,C5l]
  have:(((C5i (x.den:Int) (y.den:Int):Nat):Int):Rat)≠0:=I9 (by omega)
  grind
 have key:∀ z:Rat,0<z->z.num∣((C5j x.num y.num:Nat):Int)->((C5i (x.den:Int) (y.den:Int):Nat):Int)∣(z.den:Int)->s=((s/z).num:Rat)*z:=by
  intro z hz ⟨a,ha⟩ ⟨b,hb⟩
  have hzn:z*(z.den:Rat)=(z.num:Rat):=Sd z
  have hGr:(((C5i (x.den:Int) (y.den:Int):Nat):Int):Rat)≠0:=I9 (by omega)
  have hbr:(z.den:Rat)=((((C5i (x.den:Int) (y.den:Int):Nat):Int):Rat))*(b:Rat):=by
   rw [<- C5p,<- hb];rfl
  have har:((((C5j x.num y.num:Nat):Int)):Rat)=(z.num:Rat)*(a:Rat):=by rw [<- C5p,<- ha]
  have e:s=((a*b:Int):Rat)*z:=by
   rw [C5p]
   rw [har] at hs'
   generalize ((((C5i (x.den:Int) (y.den:Int):Nat):Int):Rat))=G at *
   rw [hbr] at hzn
   have:s*G=((a:Rat)*b*z)*G:=by rw [hs',<- hzn];grind
   grind
  have e2:s/z=((a*b:Int):Rat):=by
   have:z≠0:=by grind
   rw [e];grind
  rw [e2,Rat.num_intCast,<- e]
 have hsp:0<s:=by
  have h1:(0:Rat)<((((C5i (x.den:Int) (y.den:Int):Nat):Int)):Rat):=by exact_mod_cast (by omega:(0:Int)<((C5i (x.den:Int) (y.den:Int):Nat):Int))
  have h2:(0:Rat)<((((C5j x.num y.num:Nat):Int)):Rat):=by exact_mod_cast (by omega:(0:Int)<((C5j x.num y.num:Nat):Int))
  rw [<- hs'] at h2
  refine Classical.byContradiction fun hno=>?_
  have h3:s<=0:=by grind
  have h4:=Rat.mul_nonneg (show 0 <= -s by grind) (show (0:Rat)<=_ from (by grind:(0:Rat)<=((((C5i (x.den:Int) (y.den:Int):Nat):Int)):Rat)))
  grind
 exact ⟨hsp,key x hx (Int.dvd_lcm_left ..) (Int.gcd_dvd_left ..),key y hy (Int.dvd_lcm_right ..) (Int.gcd_dvd_right ..)⟩
theorem B9n{m:Nat}{x y:Int}(hx:ZB m x)(hy:ZB m y):ZB (m+m) ((C5j x y:Nat):Int):=by
 refine (hx.mul hy).le ?_
 rw [Int.natAbs_natCast,Int.natAbs_mul]
 exact Nat.div_le_self _ _
theorem Xq(i a:Nat):xch i i a=a:=by
 unfold xch
 by_cases e:a=i
 ·rw [if_pos e,e]
 ·rw [if_neg e,if_neg e]
section
variable {h g o:Heap} {be:Nat} {T:Tb} {M:Nat->Nat->Int} {S:Nat->Rat} {n k m sc:Nat} {w:IV} {z:Int} {L D:Value} {K:VP}
theorem Ip{w:QV}{q:Rat}(i:RQ h w q)(hK:K (.agg #[.bool w.s,.slice w.A w.n w.c]) h):FCall prog Wm #[w.v] h K:=by
 refine B9t _ _ _ _ _ _ _ _ ?_
 unfold C4s
 exact hK
theorem A3r(t:Tab h g o T M S)(gl:Gl g){i l:Nat}(hi:i<T.rows)(hl:l<T.rows)(hil:i≠l)(pi:0<S i)(pl:0<S l)(zi:Sz sc (S i))(zl:Sz sc (S l))(hM:∀ a b,a<T.rows->b<T.cols->ZB m (M a b))(hs1:1<=sc)(hm:m+3*sc+1<=6400000000)
 (hK:∀ h' g' o' (x y:Int) (q:Rat),g.le g'->0<q->q=x*S i->q=y*S l->Sz (sc+sc) q->ZB (3*sc) x->ZB (3*sc) y->Tab h' g' o' T (fun a b=>if a=i then M i b*x+M l b*y else M a b) (fun a=>if a=i then q else S a)->(∀ b,b≠T.bE->b≠T.bS->o' b=o b)->K (.tuple #[]) h'):FCall prog A6a #[.pointer (some ⟨T.bt,0,none⟩),I (i:Int),I (l:Int)] h K:=by
 refine B3k _ _ _ ?_
 unfold B7z
 obtain ⟨wx,ix,a0,a1,a2,a3⟩:=t.sat hi
 obtain ⟨wy,iy,b0,b1,b2,b3⟩:=t.sat hl
 have sp:=t.sep
 refine ⟨_,rfl,_,_,_,t.c2,_,rfl,by omega,by omega,_,_,_,_,_,_,_,_,a0,a1,a2,a3,_,rfl,_,_,_,t.c2,_,rfl,by omega,by omega,_,_,_,_,_,_,_,_,b0,b1,b2,b3,?_⟩
 refine Ip (K7 _ _ _ _ sp.le ix) ⟨_,_,_,_,rfl,B4 _,?_⟩
 refine Ip (K7 _ _ _ _ sp.le iy) ⟨_,_,_,_,rfl,B4 _,?_⟩
 refine sp.call (A0n (m:=sc) gl.tz ix.num iy.num zi.num zl.num (by omega) ?_)
 intro A2 n2 c2 g2 l2 i2 h2 s2
 refine ⟨_,_,_,_,rfl,sp.le_le s2 l2,?_⟩
 refine s2.call (Dt (K7 _ _ _ _ l2 ix) ?_)
 intro x3 A3 n3 c3 g3 l3 i3 h3 s3
 refine ⟨_,_,_,_,rfl,s2.le_le s3 l3,?_⟩
 have l03:=B0 l2 l3
 refine s3.call (Dt (K7 _ _ _ _ l03 iy) ?_)
 intro x4 A4 n4 c4 g4 l4 i4 h4 s4
 refine ⟨_,_,_,_,rfl,s3.le_le s4 l4,?_⟩
 have l04:=B0 l03 l4
 refine s4.call (Dl (m:=sc) (gl.mono l04).tz (i3.mono l4) i4 zi.den zl.den (by omega) ?_)
 intro A5 n5 c5 g5 l5 i5 h5 s5
 refine ⟨_,_,_,_,rfl,s4.le_le s5 l5,?_⟩
 have l05:=B0 l04 l5
 have hden:((S i).den:Int)≠0:=by have:=(S i).den_nz;omega
 have hden2:((S l).den:Int)≠0:=by have:=(S l).den_nz;omega
 have hg0:(C5i ((S i).den:Int) ((S l).den:Int):Int)≠0:=by
  have:0<C5i ((S i).den:Int) ((S l).den:Int):=Int.gcd_pos_of_ne_zero_left _ hden
  omega
 have zlc:=B9n zi.num zl.num
 have zg:ZB (sc+sc) (C5i ((S i).den:Int) ((S l).den:Int):Int):=(ZB.gcd hden2 zl.den).mono (by omega)
 refine s5.call (T7 (m:=sc+sc) (gl.mono l05).tz (i2.mono (B0 l3 (B0 l4 l5))) i5 zlc zg (by omega) ?_)
 intro w6 g6 l6 i6 h6 s6
 refine ⟨_,_,_,_,_,_,_,_,rfl,s5.le_le s6 l6,?_⟩
 have l06:=B0 l05 l6
 have zq:Sz (sc+sc) (C5m (C5j (S i).num (S l).num) (C5i ((S i).den:Int) ((S l).den:Int))):=Ai hg0 zlc zg
 obtain ⟨hq,ex,ey⟩:=B0k pi pl (s:=C5m (C5j (S i).num (S l).num) (C5i ((S i).den:Int) ((S l).den:Int))) rfl
 generalize C5m (C5j (S i).num (S l).num) (C5i ((S i).den:Int) ((S l).den:Int))=q at *
 refine s6.call (Ds (m:=sc+sc) (gl.mono l06).tz i6 (K7 _ _ _ _ l06 ix) zq (zi.mono (by omega)) (by omega) (by omega) ?_)
 intro w7 g7 l7 i7 h7 s7
 refine ⟨_,_,_,_,_,_,_,_,rfl,s6.le_le s7 l7,?_⟩
 refine Ip (K7 _ _ _ _ s7.le i7) ⟨_,_,_,_,rfl,B4 _,?_⟩
 have l07:=B0 l06 l7
 refine s7.call (Ds (m:=sc+sc) (gl.mono l07).tz (K7 _ _ _ _ l7 i6) (K7 _ _ _ _ l07 iy) zq (zl.mono (by omega)) (by omega) (by omega) ?_)
 intro w8 g8 l8 i8 h8 s8
 refine ⟨_,_,_,_,_,_,_,_,rfl,s7.le_le s8 l8,?_⟩
 refine Ip (K7 _ _ _ _ s8.le i8) ⟨_,_,_,_,rfl,B4 _,?_⟩
 have l08:=B0 l07 l8
 have zx:ZB (3*sc) (q/S i).num:=(zq.div zi hs1).num.mono (by omega)
 have zy:ZB (3*sc) (q/S l).num:=(zq.div zl hs1).num.mono (by omega)
 have ixn:=i7.num.mono l8
 have iyn:=i8.num
 have iq:=K7 _ _ _ _ (B0 l7 l8) i6
 generalize (q/S i).num=x at *
 generalize (q/S l).num=y at *
 have t8:=t.next s8 l08
 clear i7 i8 i6 i5 i4 i3 i2
 refine O2 t8 hi ⟨_,_,_,rfl,O2 t8 hl ⟨_,_,_,rfl,?_⟩⟩
 refine ⟨fun L hp=>∃ (c:Nat) (g' o':Heap),c<=T.cols/\L=[I (c:Int)]/\g8.le g'/\Tab hp g' o' T (fun a b=>if a=i/\b<c then M i b*x+M l b*y else M a b) S/\∀ b,b≠T.bE->o' b=o b,fun L _=>T.cols-(iAt L 0).toNat,⟨0,g8,o,by omega,rfl,B4 _,t8.congr (fun a b _ _=>by rw [if_neg (by omega)]) (fun _ _=>rfl),fun _ _=>rfl⟩,?_⟩
 rintro z1 hp ⟨c,g9,o9,hc,eL,l9,t9,ko⟩
 obtain rfl:=sI1 eL
 have hsm:=t.small
 refine B6 (fun hlt=>?_) (fun hge=>?_)
 ·have hcn:c<T.cols:=by omega
  obtain ⟨u,iu,u0,u1⟩:=t9.at hl hcn
  obtain ⟨v,iv,v0,v1⟩:=t9.at hi hcn
  rw [if_neg (by omega)] at iu iv
  refine ⟨_,rfl,by omega,by omega,_,_,_,_,u0,u1,_,rfl,by omega,by omega,_,_,_,_,v0,v1,?_⟩
  refine t9.sep.call (Z2 (m:=m+3*sc) iv (ixn.mono l9) ((hM i c hi hcn).mono (by omega)) (zx.mono (by omega)) (by omega) ?_)
  intro x10 A10 n10 c10 g10 l10 i10 h10 s10
  refine ⟨_,_,_,_,rfl,t9.sep.le_le s10 l10,?_⟩
  refine s10.call (Z2 (m:=m+3*sc) (iu.mono l10) (iyn.mono (B0 l9 l10)) ((hM l c hl hcn).mono (by omega)) (zy.mono (by omega)) (by omega) ?_)
  intro x11 A11 n11 c11 g11 l11 i11 h11 s11
  refine ⟨_,_,_,_,rfl,s10.le_le s11 l11,?_⟩
  refine s11.call (A0p (m:=m+3*sc) (i10.mono l11) i11 ((hM i c hi hcn).mul zx) ((hM l c hl hcn).mul zy) (by omega) ?_)
  intro x12 A12 n12 c12 g12 l12 i12 h12 s12
  have t12:=((t9.next s10 l10).next s11 l11).next s12 l12
  refine ⟨_,_,_,_,rfl,s11.le_le s12 l12,_,rfl,by omega,by omega,?_⟩
  refine t12.store hi hcn (w:=⟨x12,A12,n12,c12⟩) i12 ?_
  intro h13 o13 t13 ko13
  rw [wiS c (by omega)]
  refine ⟨⟨c+1,g12,o13,by omega,rfl,B0 l9 (B0 l10 (B0 l11 l12)),t13.congr (fun a b _ _=>?_) (fun _ _=>rfl),fun b hb=>by rw [ko13 b hb];exact ko b hb⟩,by simp only [Ea];omega⟩
  unfold C0l
  try dsimp only
  by_cases e:a=i/\b=c
  ·rw [if_pos e,if_pos (by omega),e.2]
  ·rw [if_neg e]
   by_cases e2:a=i/\b<c
   ·rw [if_pos e2,if_pos (by omega)]
   ·rw [if_neg e2,if_neg (by omega)]
 ·have ec:c=T.cols:=by omega
  refine ⟨_,rfl,_,_,_,t9.c2,_,rfl,by omega,by omega,?_⟩
  refine t9.sstore hi (w:=w6) (K7 _ _ _ _ l9 iq) ?_
  intro h10 o10 t10 ko10
  refine hK h10 g9 o10 x y q (B0 l08 l9) hq ex ey zq zx zy (t10.congr (fun a b _ hb=>?_) (fun _ _=>rfl)) (fun b hb1 hb2=>by rw [ko10 b hb2];exact ko b hb1)
  by_cases e:a=i
  ·rw [if_pos ⟨e,by omega⟩,if_pos e]
  ·rw [if_neg (fun x=>e x.1),if_neg e]
theorem El.tab(X:El h g o be T M S n k w z L D){h' g' o':Heap}{M':Nat->Nat->Int}{S':Nat->Rat}(t:Tab h' g' o' T M' S')(lg:g.le g')(ko:∀ b,¬ onT T b->o' b=o b):El h' g' o' be T M' S' n k w z L D:=by
 obtain ⟨e,he⟩:=X.hd
 exact ⟨t,X.rows,X.cols,⟨e,by rw [ko _ X.off];exact he⟩,X.off,Jg _ _ _ _ lg X.last⟩
theorem Nd(X:El h g o be T M S n k w z L D){i l:Nat}(hi:i<n)(hl:l<n)(hn:n<=10000)
 (hK:∀ h' o',El h' g o' be T (fun a b=>M (xch i l a) (xch i l b)) (fun a=>S (xch i l a)) n k w z L D->(∀ b,¬ onT T b->o' b=o b)->K (.tuple #[]) h'):FCall prog Fs #[.pointer (some ⟨be,0,none⟩),I (i:Int),I (l:Int)] h K:=by
 refine A37 _ _ _ ?_
 unfold A38
 have er:=X.rows
 have ec:=X.cols
 refine E5 (fun e=>?_) (fun e=>?_)
 ·obtain rfl:i=l:=by omega
  exact hK h o (X.tab (X.t.congr (fun a b _ _=>by rw [Xq,Xq]) (fun a _=>by rw [Xq])) (B4 _) fun _ _=>rfl) (fun _ _=>rfl)
 refine ⟨_,rfl,_,X.c2,?_⟩
 refine A14 X.t (by omega) (by omega) (by omega) ?_
 intro h1 o1 t1 ko1
 have X1:=X.tab t1 (B4 _) fun b hb=>ko1 b (fun e=>hb (.inr (.inl e))) (fun e=>hb (.inr (.inr e)))
 refine ⟨rfl,_,rfl,_,X1.c0,?_⟩
 refine ⟨fun L' hp=>∃ (r:Nat) (o2:Heap),r<=n/\L'=[I (r:Int)]/\El hp g o2 be T (fun a b=>if a<r then M (xch i l a) (xch i l b) else M (xch i l a) b) (fun a=>S (xch i l a)) n k w z L D/\∀ b,¬ onT T b->o2 b=o b,fun L' _=>n-(iAt L' 0).toNat,⟨0,o1,by omega,rfl,X1.tab (t1.congr (fun a b _ _=>by rw [if_neg (by omega)]) (fun _ _=>rfl)) (B4 _) (fun _ _=>rfl),fun b hb=>ko1 b (fun e=>hb (.inr (.inl e))) (fun e=>hb (.inr (.inr e)))⟩,?_⟩
 clear X1 t1 ko1
 rintro y hp ⟨r,o2,hr,eL,X2,ko2⟩
 obtain rfl:=sI1 eL
 refine B6 (fun hlt=>?_) (fun hge=>?_)
 ·have hrn:r<n:=by omega
  obtain ⟨u,iu,u0,u1⟩:=X2.t.at (i:=r) (j:=l) (by omega) (by omega)
  obtain ⟨v,iv,v0,v1⟩:=X2.t.at (i:=r) (j:=i) (by omega) (by omega)
  rw [if_neg (Nat.lt_irrefl r)] at iu iv
  refine ⟨_,rfl,_,X2.c2,O2 X2.t (by omega) ⟨_,_,_,rfl,_,rfl,by omega,by omega,_,_,_,_,u0,u1,_,rfl,by omega,by omega,_,_,_,_,v0,v1,_,rfl,by omega,by omega,?_⟩⟩
  refine X2.t.store (i:=r) (j:=i) (by omega) (by omega) (w:=u) iu ?_
  intro h3 o3 t3 ko3
  refine ⟨_,rfl,by omega,by omega,?_⟩
  refine t3.store (i:=r) (j:=l) (by omega) (by omega) (w:=v) iv ?_
  intro h4 o4 t4 ko4
  have ko5:∀ b,¬ onT T b->o4 b=o2 b:=fun b hb=>by rw [ko4 b (fun e=>hb (.inr (.inl e))),ko3 b (fun e=>hb (.inr (.inl e)))]
  rw [wiS r (by omega)]
  refine ⟨⟨r+1,o4,by omega,rfl,X2.tab (t4.congr (fun a b _ _=>?_) (fun _ _=>rfl)) (B4 _) ko5,fun b hb=>by rw [ko5 b hb];exact ko2 b hb⟩,by simp only [Ea];omega⟩
  unfold C0l
  try dsimp only
  by_cases c1:a=r
  ·subst c1
   by_cases c2:b=l
   ·rw [if_pos ⟨rfl,c2⟩,if_pos (C5o a),c2]
    have:xch i l l=i:=by unfold xch;rw [if_neg (by omega),if_pos rfl]
    rw [this]
   ·rw [if_neg (fun x=>c2 x.2)]
    by_cases c3:b=i
    ·rw [if_pos ⟨rfl,c3⟩,if_pos (C5o a),c3,Cq]
    ·rw [if_neg (fun x=>c3 x.2),if_neg (Nat.lt_irrefl a),if_pos (C5o a)]
     have:xch i l b=b:=by unfold xch;rw [if_neg c3,if_neg c2]
     rw [this]
  ·rw [if_neg (fun x=>c1 x.1),if_neg (fun x=>c1 x.1)]
   by_cases c2:a<r
   ·rw [if_pos c2,if_pos (by omega)]
   ·rw [if_neg c2,if_neg (by omega)]
 ·exact hK hp o2 (X2.tab (X2.t.congr (fun a b ha _=>by rw [if_pos (by omega)]) (fun _ _=>rfl)) (B4 _) fun _ _=>rfl) ko2
theorem A1j{R A0 F:Nat->Nat->Rat}{d:Nat->Rat}(X:El h g o be T M S n k w z L D)(gl:Gl g)(te:TE n k R M S z)(pd:PD n k A0 d F R)(hk:k<=n)(hn:n<=10000)(hM:∀ a b,a<n->b<n->ZB m (M a b))(hS:∀ a,a<n->Sz sc (S a))(hs1:1<=sc)(hb:m+3*sc+2<=6400000000)
 (hK1:∀ h' g' o' M' S' R' F',g.le g'->El h' g' o' be T M' S' n k w z L D->TE n k R' M' S' z->k<n->R' k k≠0->PD n k A0 d F' R'->(∀ a b,a<n->b<n->ZB (m+3*sc+2) (M' a b))->(∀ a,a<n->Sz (sc+sc) (S' a))->K (.bool true) h')
 (hK0:(∀ i j,i<n->j<n->R i j=0)->K (.bool false) h):FCall prog Oz #[.pointer (some ⟨be,0,none⟩)] h K:=by
 refine A57 _ ?_
 unfold A6x
 have er:=X.rows
 have ec:=X.cols
 refine ⟨_,rfl,_,X.c1,?_⟩
 refine ⟨fun L' hp=>∃ i:Nat,k<=i/\i<=n/\L'=[I (i:Int)]/\hp=h/\∀ j,k<=j->j<i->R j j=0,fun L' _=>n-(iAt L' 0).toNat,⟨k,C5h _,hk,rfl,rfl,fun j _ _=>by omega⟩,?_⟩
 rintro y hp ⟨i,hi1,hi2,eL,rfl,hz⟩
 obtain rfl:=sI1 eL
 refine ⟨_,rfl,_,X.c0,B6 (fun hlt=>?_) (fun hge=>?_)⟩
 ·have hin:i<n:=by omega
  obtain ⟨u,iu,u0,u1⟩:=X.t.at (i:=i) (j:=i) (by omega) (by omega)
  refine ⟨_,rfl,_,X.c2,O2 X.t (by omega) ⟨_,_,_,rfl,_,rfl,by omega,by omega,_,_,_,_,u0,u1,?_⟩⟩
  refine F4 (iu.mono X.t.sep.le) ⟨_,rfl,Br.not (B6 (fun e=>?_) (fun e=>?_))⟩
  ·rw [wiS i (by omega)]
   refine ⟨⟨i+1,by omega,by omega,rfl,rfl,fun j a b=>?_⟩,by simp only [Ea];omega⟩
   by_cases c:j=i
   ·rw [c];exact (te.zero hi1 hin hin).1 e
   ·exact hz j a (by omega)
  ·refine ⟨_,rfl,_,X.c1,Nd X (by omega) hin hn ?_⟩
   intro h1 o1 X1 ko1
   have hkn:k<n:=by omega
   refine ⟨rfl,hK1 h1 g o1 _ _ _ _ (B4 _) X1 (te.swap hi1 hin) hkn ?_ (pd.swap hkn hin (C5h _) hi1) (fun a b ha hb=>(hM _ _ (Z5 hkn hin ha) (Z5 hkn hin hb)).mono (by omega)) (fun a ha=>(hS _ (Z5 hkn hin ha)).mono (by omega))⟩
   show R (xch k i k) (xch k i k)≠0
   rw [Cq]
   exact fun x=>e ((te.zero hi1 hin hin).2 x)
 have ein:i=n:=by omega
 subst ein
 have diag:∀ j,k<=j->j<i->R j j=0:=hz
 refine ⟨_,rfl,_,X.c1,?_⟩
 refine ⟨fun L' hx=>∃ a:Nat,k<=a/\a<=i/\L'=[I (a:Int)]/\hx=hp/\∀ b c,k<=b->b<a->b<c->c<i->R b c=0,fun L' _=>i-(iAt L' 0).toNat,⟨k,C5h _,hk,rfl,rfl,fun b c _ _=>by omega⟩,?_⟩
 rintro y1 hx ⟨a,ha1,ha2,eL1,rfl,hza⟩
 obtain rfl:=sI1 eL1
 refine ⟨_,rfl,_,X.c0,B6 (fun hlt1=>?_) (fun hge1=>?_)⟩
 rotate_left
 ·have eai:a=i:=by omega
  subst eai
  refine hK0 fun b c hb hc=>?_
  by_cases c1:b<k
  ·exact pd.zero b c hb hc (.inl c1)
  ·by_cases c2:c<k
   ·exact pd.zero b c hb hc (.inr c2)
   ·rcases Nat.lt_trichotomy b c with c3|c3|c3
    ·exact hza b c (by omega) hb c3 hc
    ·rw [c3];exact diag c (by omega) hc
    ·rw [pd.symm b c hb hc];exact hza c b (by omega) hc c3 hb
 have hai:a<i:=by omega
 have ew:∀ {j:Nat},j<i->B5 ((j:Int)+1)=((j+1:Nat):Int):=fun {j} hj=>by rw [B7]<;>omega
 rw [ew hai]
 refine ⟨fun L' hy=>∃ b:Nat,a<b/\b<=i/\L'=[I (b:Int)]/\hy=hx/\∀ c,a<c->c<b->R a c=0,fun L' _=>i-(iAt L' 0).toNat,⟨a+1,by omega,by omega,rfl,rfl,fun c _ _=>by omega⟩,?_⟩
 rintro y2 hy ⟨b,hb1,hb2,eL2,rfl,hzb⟩
 obtain rfl:=sI1 eL2
 refine ⟨_,rfl,_,X.c0,B6 (fun hlt2=>?_) (fun hge2=>?_)⟩
 rotate_left
 ·have ebi:b=i:=by omega
  subst ebi
  refine ⟨⟨a+1,by omega,by omega,rfl,rfl,fun b' c h1 h2 h3 h4=>?_⟩,by simp only [Ea];omega⟩
  by_cases e:b'=a
  ·rw [e];exact hzb c (by omega) h4
  ·exact hza b' c h1 (by omega) h3 h4
 have hbi:b<i:=by omega
 rw [ew hbi]
 obtain ⟨u,iu,u0,u1⟩:=X.t.at (i:=a) (j:=b) (by omega) (by omega)
 refine ⟨_,rfl,_,X.c2,O2 X.t (by omega) ⟨_,_,_,rfl,_,rfl,by omega,by omega,_,_,_,_,u0,u1,?_⟩⟩
 refine F4 (iu.mono X.t.sep.le) ⟨_,rfl,B6 (fun e=>?_) (fun e=>?_)⟩
 ·refine ⟨⟨b+1,by omega,by omega,rfl,rfl,fun c h1 h2=>?_⟩,by simp only [Ea];omega⟩
  by_cases e2:c=b
  ·rw [e2];exact (te.zero ha1 hai hbi).1 e
  ·exact hzb c h1 (by omega)
 have hne:R a b≠0:=fun x=>e ((te.zero ha1 hai hbi).2 x)
 refine ⟨_,rfl,_,X.c2,?_⟩
 refine A3r (m:=m) (sc:=sc) X.t gl (i:=a) (l:=b) (by omega) (by omega) (by omega) (te.scale a ha1 hai) (te.scale b (by omega) hbi) (hS a hai) (hS b hbi) (fun c1 c2 h1 h2=>hM c1 c2 (by omega) (by omega)) hs1 (by omega) ?_
 intro h1 g1 o1 x y q l1 hq ex ey zq zx zy t1 ko1
 have X1:=X.tab t1 l1 fun c hc=>ko1 c (fun e=>hc (.inr (.inl e))) (fun e=>hc (.inr (.inr e)))
 have te1:=te.addRow ha1 hai (show k<=b by omega) hbi hq ex ey
 have te2:=te1.addCol ha1 hai (show k<=b by omega) hbi
 have pd2:=pd.merge hai hbi ha1 (by omega) (by omega)
 have hM1:∀ c1 c2,c1<i->c2<i->ZB (m+3*sc+1) (if c1=a then M a c2*x+M b c2*y else M c1 c2):=fun c1 c2 h1 h2=>by
  split
  ·exact ((hM a c2 hai h2).mul zx).add ((hM b c2 hbi h2).mul zy)
  ·exact (hM c1 c2 h1 h2).mono (by omega)
 have hS1:∀ c,c<i->Sz (sc+sc) (if c=a then q else S c):=fun c hc=>by
  split
  ·exact zq
  ·exact (hS c hc).mono (by omega)
 generalize hM1e:(fun c1 c2=>if c1=a then M a c2*x+M b c2*y else M c1 c2)=M1 at *
 generalize hS1e:(fun c=>if c=a then q else S c)=S1 at *
 have te3:TE i k (Jl a b R) (fun c1 c2=>if c2=a then M1 c1 a+M1 c1 b else M1 c1 c2) S1 z:=by
  rw [<- hM1e];exact te2
 have hM1': ∀ c1 c2,c1<i->c2<i->ZB (m+3*sc+1) (M1 c1 c2):=fun c1 c2 h1 h2=>by rw [<- hM1e];exact hM1 c1 c2 h1 h2
 have hS1': ∀ c,c<i->Sz (sc+sc) (S1 c):=fun c hc=>by rw [<- hS1e];exact hS1 c hc
 refine ⟨rfl,_,rfl,_,X1.c0,?_⟩
 refine ⟨fun L' hv=>∃ (r:Nat) (g2 o2:Heap),r<=i/\L'=[I (r:Int)]/\g1.le g2/\El hv g2 o2 be T (fun c1 c2=>if c1<r/\c2=a then M1 c1 a+M1 c1 b else M1 c1 c2) S1 i k w z L D,fun L' _=>i-(iAt L' 0).toNat,⟨0,g1,o1,by omega,rfl,B4 _,X1.tab (t1.congr (fun c1 c2 _ _=>by rw [if_neg (by omega)]) (fun _ _=>rfl)) (B4 _) fun _ _=>rfl⟩,?_⟩
 rintro y3 hv ⟨r,g2,o2,hr,eL3,l2,X2⟩
 obtain rfl:=sI1 eL3
 refine B6 (fun hlt3=>?_) (fun hge3=>?_)
 ·have hri:r<i:=by omega
  obtain ⟨p,ip,p0,p1⟩:=X2.t.at (i:=r) (j:=a) (by omega) (by omega)
  obtain ⟨v,iv,v0,v1⟩:=X2.t.at (i:=r) (j:=b) (by omega) (by omega)
  rw [if_neg (by omega)] at ip iv
  refine ⟨_,rfl,_,X2.c2,O2 X2.t (by omega) ⟨_,_,_,rfl,_,rfl,by omega,by omega,_,_,_,_,p0,p1,_,rfl,by omega,by omega,_,_,_,_,v0,v1,?_⟩⟩
  refine X2.t.sep.call (A0p (m:=m+3*sc+1) ip iv (hM1' r a hri hai) (hM1' r b hri hbi) (by omega) ?_)
  intro x3 A3 n3 c3 g3 l3 i3 h3 s3
  refine ⟨_,_,_,_,rfl,X2.t.sep.le_le s3 l3,_,rfl,by omega,by omega,?_⟩
  refine (X2.t.next s3 l3).store (i:=r) (j:=a) (by omega) (by omega) (w:=⟨x3,A3,n3,c3⟩) i3 ?_
  intro h4 o4 t4 ko4
  rw [ew hri]
  refine ⟨⟨r+1,g3,o4,by omega,rfl,B0 l2 l3,(X2.next s3 l3).tab (t4.congr (fun c1 c2 _ _=>?_) (fun _ _=>rfl)) (B4 _) fun c hc=>ko4 c (fun e=>hc (.inr (.inl e)))⟩,by simp only [Ea];omega⟩
  unfold C0l
  try dsimp only
  by_cases e1:c1=r/\c2=a
  ·rw [if_pos e1,if_pos (by omega),e1.1]
  ·rw [if_neg e1]
   by_cases e2:c1<r/\c2=a
   ·rw [if_pos e2,if_pos (by omega)]
   ·rw [if_neg e2,if_neg (by omega)]
 ·have eri:r=i:=by omega
  subst eri
  have X3:El hv g2 o2 be T (fun c1 c2=>if c2=a then M1 c1 a+M1 c1 b else M1 c1 c2) S1 r k w z L D:=X2.tab (X2.t.congr (fun c1 c2 h1 _=>by
   by_cases e1:c2=a
   ·rw [if_pos ⟨by omega,e1⟩,if_pos e1]
   ·rw [if_neg (fun x=>e1 x.2),if_neg e1]) (fun _ _=>rfl)) (B4 _) fun _ _=>rfl
  have hkn:k<r:=by omega
  refine ⟨_,rfl,_,X3.c1,Nd X3 hkn hai hn ?_⟩
  intro h5 o5 X5 ko5
  have zM2:∀ c1 c2,c1<r->c2<r->ZB (m+3*sc+2) (if c2=a then M1 c1 a+M1 c1 b else M1 c1 c2):=fun c1 c2 h1 h2=>by
   split
   ·exact (hM1' c1 a h1 hai).add (hM1' c1 b h1 hbi)
   ·exact (hM1' c1 c2 h1 h2).mono (by omega)
  refine ⟨rfl,hK1 h5 g2 o5 _ _ _ _ (B0 l1 l2) X5 (te3.swap ha1 hai) hkn ?_ (pd2.swap hkn hai (C5h _) ha1) (fun c1 c2 h1 h2=>zM2 _ _ (Z5 hkn hai h1) (Z5 hkn hai h2)) (fun c hc=>hS1' _ (Z5 hkn hai hc))⟩
  show Jl a b R (xch k a k) (xch k a k)≠0
  rw [Cq]
  unfold Jl
  rw [if_pos rfl,if_pos rfl,if_pos rfl,diag a ha1 hai,diag b (by omega) hbi,pd.symm b a hbi hai]
  intro x
  exact hne (by grind)
end
def sgS(s:Nat):Nat->Nat
 | 0=>s
 | k+1=>sgS s k+sgS s k
def sgM(m s:Nat):Nat->Nat
 | 0=>m
 | k+1=>2*(sgM m s k+3*sgS s k+2)+1
theorem Yb(m s:Nat):∀ n k,k<=n->sgM m s k<=sgM m s n:=by
 intro n
 induction n with
 | zero=>intro k h;rw [show k=0 by omega];exact C5h _
 | succ n ih=>
  intro k h
  by_cases c:k=n+1
  ·rw [c];exact C5h _
  ·have:=ih k (by omega)
   rw [show sgM m s (n+1)=2*(sgM m s n+3*sgS s n+2)+1 from rfl]
   omega
theorem C0y(s:Nat):∀ k,sgS s k<=sgM s s k:=by
 intro k
 induction k with
 | zero=>exact C5h _
 | succ k ih=>
  rw [show sgM s s (k+1)=2*(sgM s s k+3*sgS s k+2)+1 from rfl,show sgS s (k+1)=sgS s k+sgS s k from rfl]
  omega
theorem B8e{s:Nat}(h:1<=s):∀ k,1<=sgS s k:=by
 intro k
 induction k with
 | zero=>exact h
 | succ k ih=>rw [show sgS s (k+1)=sgS s k+sgS s k from rfl];omega
theorem Wg{d d':Nat->Rat}: ∀ n,(∀ m,m<n->d m=d' m)->Fe d n=Fe d' n:=by
 intro n
 induction n with
 | zero=>exact fun _=>rfl
 | succ n ih=>intro h;rw [Fe,Fe,ih fun m hm=>h m (by omega),h n (by omega)]
theorem Wj{d d':Nat->Rat}: ∀ n,(∀ m,m<n->d m=d' m)->Jw d n=Jw d' n:=by
 intro n
 induction n with
 | zero=>exact fun _=>rfl
 | succ n ih=>intro h;rw [Jw,Jw,ih fun m hm=>h m (by omega),h n (by omega)]
theorem B4o(d:Nat->Rat)(k:Nat):∀ j,Fe (fun m=>if m<k then d m else 0) (k+j)=Fe d k:=by
 intro j
 induction j with
 | zero=>exact Wg k fun m hm=>if_pos hm
 | succ j ih=>
  rw [<- Nat.add_assoc,Fe,ih,if_neg (show ¬ k+j<k by omega),if_neg (by decide +kernel),Nat.add_zero]
theorem B4q(d:Nat->Rat)(k:Nat):∀ j,Jw (fun m=>if m<k then d m else 0) (k+j)=Jw d k:=by
 intro j
 induction j with
 | zero=>exact Wj k fun m hm=>if_pos hm
 | succ j ih=>
  rw [<- Nat.add_assoc,Jw,ih,if_neg (show ¬ k+j<k by omega),if_neg (by decide +kernel),Nat.add_zero]
def InI(h:Heap)(be:Nat)(T:Tb)(E:Nat->Rat)(q B k:Nat)(d:Nat->Rat)(hp:Heap):Prop:=
 ∃ (g o:Heap) (M:Nat->Nat->Int) (S:Nat->Rat) (R F:Nat->Nat->Rat) (w:IV) (z:Int),h.le g/\El hp g o be T M S q k w z (.slice none 0 0) (.slice none 0 0)/\TE q k R M S z/\PD q k (mtx E q) d F R/\(∀ a b,a<q->b<q->ZB (sgM B B k) (M a b))/\ZB (sgM B B k) z/\∀ a,a<q->Sz (sgS B k) (S a)
section
variable {h:Heap} {K:VP} {A:Option Addr} {n cap m:Nat} {r c:Int} {ls:Nat->List UInt8} {E:Nat->Rat}
theorem A1o(gl:Gl h)(rq:RowV RQr h A (n*n) E)(hcap:n*n<=cap)(hn1:1<=n)(hn:n<=64)(hs:∀ i,i<n*n->Sz m (E i))(hb:bnd n m<=100000000)(sy:A3h n (mtx E n))
 (hK:∀ h' be T,InI h be T E n (bnd n m) 0 (fun _=>0) h'->K (.pointer (some ⟨be,0,none⟩)) h'):FCall prog R6 #[.slice A (n*n) cap,I (n:Int)] h K:=by
 have hnn:n*n<=64*64:=Nat.mul_le_mul hn hn
 have hbe:bnd n m=1+n*m+m:=rfl
 refine Db _ _ _ _ ?_
 unfold Co
 refine Ff (m:=m) gl rq hcap hn1 (by omega) hn1 (by omega) hs (by omega) ?_
 intro h1 g1 o1 T lg1 t1 er ec
 refine ⟨_,rfl,?_⟩
 refine t1.sep.call (Ca (by decide) (by decide) ?_)
 intro s2 A2 n2 c2 g2 l2 i2 h2 sp2
 have t2:=t1.next sp2 l2
 refine ⟨_,_,_,_,rfl,Tv ?_⟩
 intro be hbe2
 have fr:∀ {hh gg oo:Heap} {k x b},Sep hh gg oo->oo k=some x->hh b=none->k≠b:=by
  rintro hh gg oo k x b s e hb rfl
  rw [s.own k x e] at hb;cases hb
 have off1:¬ onT T be:=by
  obtain ⟨⟨y1,z1⟩,⟨y2,z2⟩,⟨y3,z3⟩⟩:=t2.own
  rintro (rfl|rfl|rfl)
  ·exact fr t2.sep z1 hbe2 rfl
  ·exact fr t2.sep z2 hbe2 rfl
  ·exact fr t2.sep z3 hbe2 rfl
 have s3:=t2.sep.new hbe2 (.cells (Value.agg #[I (n:Int),I (0:Int),.pointer (some ⟨T.bt,0,none⟩),.bool s2,.slice A2 n2 c2,.slice none 0 0,.slice none 0 0]).cells Ew)
 have X3:El _ g2 _ be T (Vz E n) (Re E n) n 0 ⟨s2,A2,n2,c2⟩ 1 (.slice none 0 0) (.slice none 0 0):=⟨t2.keep s3 (B4 _) (fun k x e _=>by rw [B9 _ _ (fr t2.sep e hbe2)];exact e),er,ec,⟨Ew,C3 _ _ _⟩,off1,i2⟩
 have sr:∀ i,i<n->∀ j,j<n->Sz m (E (i*n+j)):=fun i hi j hj=>hs _ (O6 hi hj)
 exact ⟨_,rfl,hK _ be T ⟨g2,_,_,_,_,_,_,_,B0 lg1 l2,X3,TE.start (fun i j _ hj=>A9g E n i hj) (fun i _=>Lc E n i),PD.start _ sy,fun a b ha hb=>A9f (sr a ha) hb,ZB.one (show 1<=bnd n m by omega),fun a ha=>Xw (sr a ha)⟩⟩
theorem Ng(gl:Gl h)(rv':RowV SSr h A n ls)(hn:n<=1000000)(hl:∀ i,i<n->(ls i).length<=100000000)(hs:∀ i,i<n->Sz m (rv (ls i)))(hb:∀ q,MOk r c n ls q q->sgM (bnd q m) (bnd q m) q<=100000000)
 (hK1:∀ q,B5p r c n ls q->∀ d F,Diag q (mtx (rvs ls) q) d F->∀ h',h.le h'->K (.tuple #[I (Fe d q:Int),I (B8k d q:Int),I (Jw d q:Int),I 0]) h')
 (hK0:∀ e,SqE r c n ls e->∀ h',h.le h'->K (.tuple #[I 0,I 0,I 0,I e]) h'):FCall prog Iz #[A1s r c A n cap] h K:=by
 refine A5a _ _ _ _ _ ?_
 unfold A70
 refine Wo gl rv' hn hl ?_ (fun e he h1 l1=>⟨_,_,_,_,rfl,N7 (fun _=>hK0 e he h1 l1) (fun e0=>by rcases he with ⟨_,x⟩|⟨_,_,x⟩<;>omega)⟩)
 intro q sq b h1 own
 obtain ⟨mk,st⟩:=id sq
 have hbq:=hb q mk
 have:=mk.r1;have:=mk.r2
 obtain ⟨rfl,rfl,_,_,_,_,rfl,hnum⟩:=id mk
 refine ⟨_,_,_,_,rfl,N7 (fun hne=>absurd rfl hne) (fun _=>?_)⟩
 have hb1:1<=bnd q m:=by unfold bnd;omega
 have hb0:bnd q m<=100000000:=C5n (Yb (bnd q m) (bnd q m) q 0 (by omega)) hbq
 refine A1o (m:=m) (gl.mono own.le) (own.vis K7) (C5h _) (by omega) (by omega) hs hb0 st.symm ?_
 intro h2 be T I0
 generalize bnd q m=B at *
 refine ⟨_,rfl,fun L hp=>∃ (k:Nat) (d:Nat->Rat),k<=q/\L=[I (Fe d k:Int),I (Jw d k:Int)]/\Fe d k+Jw d k=k/\InI h1 be T (rvs ls) q B k d hp,fun L _=>q-((iAt L 0).toNat+(iAt L 1).toNat),⟨0,_,by omega,rfl,rfl,I0⟩,?_⟩
 clear I0
 rintro pos neg hp ⟨k,d,hk,eL,hpn,g,o,M,S,R,F,w,z,lg,X,te,pd,hM,hz,hS⟩
 simp only [List.cons.injEq,Value.int.injEq,true_and,and_true] at eL
 obtain ⟨rfl,rfl⟩:=eL
 have l0:=B0 own.le lg
 have hmk:sgM B B k<=sgM B B q:=Yb B B q k hk
 have hsk:=C0y B k
 have hs1:=B8e hb1 k
 refine A1j (m:=sgM B B k) (sc:=sgS B k) X (gl.mono l0) te pd hk (by omega) hM hS hs1 (by omega) ?_ ?_
 ·intro h3 g3 o3 M3 S3 R3 F3 l3 X3 te3 hkq hne pd3 hM3 hS3
  have hmk1:2*(sgM B B k+3*sgS B k+2)+1<=sgM B B q:=Yb B B q (k+1) hkq
  refine ⟨_,rfl,?_⟩
  show Br true _ _
  refine ⟨_,rfl,_,X3.c1,_,rfl,_,X3.c1,?_⟩
  have l03:=B0 l0 l3
  have hsc:=te3.scale k (C5h _) hkq
  refine B20 (m:=sgM B B k+3*sgS B k+2) X3 (gl.mono l03) hkq hkq (hM3 k k hkq hkq) (hz.mono (by omega)) ((hS3 k hkq).mono (by omega)) (Ai te3.ne (hM3 k k hkq hkq) (hz.mono (by omega))) (by omega) (by omega) ?_
  intro w4 h4 g4 l4 s4 lh4 i4
  have ev:C5m (M3 k k) z/S3 k=R3 k k:=by
   rw [C5l,te3.val k k (C5h _) hkq hkq,C3m (I9 te3.ne) (by grind)]
  rw [ev] at i4
  refine ⟨_,_,_,_,_,_,_,_,rfl,lh4,?_⟩
  refine Sb (K7 _ _ _ _ s4.le i4) ⟨_,rfl,B4 _,?_⟩
  have X4:=X3.next s4 l4
  have adv:∀ {K':VP},(∀ h',InI h1 be T (rvs ls) q B (k+1) (fun m=>if m=k then R3 k k else d m) h'->K' (.tuple #[]) h')->FCall prog Bu #[.pointer (some ⟨be,0,none⟩)] h4 K':=by
   intro K' kk
   refine Qi (m:=sgM B B k+3*sgS B k+2) X4 hkq (by omega) te3.ne (fun a b _ ha hb=>hM3 a b ha hb) (hz.mono (by omega)) (by omega) (by omega) ?_
   intro h5 g5 o5 w5 l5 X5 _
   have te5:TE q (k+1) (fun i j=>R3 i j-R3 i k*(R3 k j/R3 k k)) (fun a b=>if k<a then (M3 k k*M3 a b-M3 a k*M3 k b).tdiv z else M3 a b) S3 (M3 k k):=(te3.adv hkq hne).congr (fun _ _ _ _ _=>rfl) (fun i j hi _ _=>by rw [if_pos (show k<i by omega)]) (fun _ _ _=>rfl)
   refine kk h5 ⟨g5,o5,_,S3,_,_,w5,_,B0 lg (B0 l3 (B0 l4 l5)),X5,te5,pd3.adv hkq hne,fun a b ha hb=>?_,(hM3 k k hkq hkq).mono (show _<=2*(sgM B B k+3*sgS B k+2)+1 by omega),fun a ha=>hS3 a ha⟩
   show ZB (2*(sgM B B k+3*sgS B k+2)+1) _
   split
   ·exact (((hM3 k k hkq hkq).mul (hM3 a b ha hb)).sub ((hM3 a k ha hkq).mul (hM3 k b hkq hb))).tdivS.mono (by omega)
   ·exact (hM3 a b ha hb).mono (by omega)
  have e1:Fe (fun m=>if m=k then R3 k k else d m) k=Fe d k:=Wg k fun m hm=>if_neg (by omega)
  have e2:Jw (fun m=>if m=k then R3 k k else d m) k=Jw d k:=Wj k fun m hm=>if_neg (by omega)
  have f1:Fe (fun m=>if m=k then R3 k k else d m) (k+1)=Fe d k+if 0<R3 k k then 1 else 0:=by rw [Fe,e1,if_pos rfl]
  have f2:Jw (fun m=>if m=k then R3 k k else d m) (k+1)=Jw d k+if R3 k k<0 then 1 else 0:=by rw [Jw,e2,if_pos rfl]
  have sgn:0<(R3 k k).num.sign↔0<R3 k k:=by
   have h1:=A9q (q:= -(R3 k k))
   rw [Rat.neg_num,Int.sign_neg] at h1
   constructor
   ·intro x;have:=h1.1 (by omega);grind
   ·intro x;have:=h1.2 (by grind);omega
  have ewp:B5 ((Fe d k:Int)+1)=((Fe d k+1:Nat):Int):=by rw [B7]<;>omega
  have ewn:B5 ((Jw d k:Int)+1)=((Jw d k+1:Nat):Int):=by rw [B7]<;>omega
  refine B6 (fun hp'=>?_) (fun hn'=>?_)
  ·have pos:=sgn.1 hp'
   rw [if_pos pos] at f1
   rw [if_neg (by grind)] at f2
   refine adv fun h5 i5=>⟨rfl,⟨k+1,_,hkq,by rw [ewp,f1,f2];rfl,by omega,i5⟩,?_⟩
   rw [ewp]
   show q-(((Fe d k+1:Nat):Int).toNat+((Jw d k:Nat):Int).toNat)<q-(((Fe d k:Nat):Int).toNat+((Jw d k:Nat):Int).toNat)
   omega
  ·have npos': ¬ 0<R3 k k:=fun x=>hn' (sgn.2 x)
   rw [if_neg npos'] at f1
   rw [if_pos (by grind)] at f2
   refine adv fun h5 i5=>⟨rfl,⟨k+1,_,hkq,by rw [ewn,f1,f2];rfl,by omega,i5⟩,?_⟩
   rw [ewn]
   show q-(((Fe d k:Nat):Int).toNat+((Jw d k+1:Nat):Int).toNat)<q-(((Fe d k:Nat):Int).toNat+((Jw d k:Nat):Int).toNat)
   omega
 ·intro hz0
  refine ⟨_,rfl,?_⟩
  show Br false _ _
  have D:=pd.done hk hz0
  have c1:=B4o d k (q-k)
  have c2:=B4q d k (q-k)
  rw [show k+(q-k)=q by omega] at c1 c2
  have c3:=C3j (fun m=>if m<k then d m else 0) q
  have res:=hK1 q sq _ _ D hp (B0 l0 X.t.sep.le)
  rw [c1,c2,show B8k (fun m=>if m<k then d m else 0) q=q-Fe d k-Jw d k by omega] at res
  rw [show B5 ((q:Int)-(Fe d k:Int))=((q-Fe d k:Nat):Int) by rw [B7]<;>omega,show B5 (((q-Fe d k:Nat):Int)-(Jw d k:Int))=((q-Fe d k-Jw d k:Nat):Int) by rw [B7]<;>omega]
  exact res
end
end Go.Proofs.YtajkakhfcokljaaGreatDoor
namespace Go.Proofs.YtajkakhfcokljaaGreatDoor
set_option maxRecDepth 20000
theorem A9p{n:Nat}(p:Nat->Rat)(q:Rat):sm n (fun t=>p t*q)=(sm n p)*q:=by
 rw [C5k,<- Bb]
 exact C6 fun t _=>C5k _ _
theorem Zr{n k:Nat}(u:Nat->Nat->Rat)(f x:Nat->Rat):(sm n fun j=>(sm k fun t=>u j t*f t)*x j)=sm k fun t=>f t*sm n fun j=>u j t*x j:=by
 have e:(sm n fun j=>(sm k fun t=>u j t*f t)*x j)=sm n fun j=>sm k fun t=>f t*(u j t*x j):=C6 fun j _=>by
  rw [<- A9p]
  exact C6 fun t _=>by grind
 rw [e,Rz]
 exact C6 fun t _=>Bb n _ _
theorem Diag.cong{n:Nat}{A u v:Nat->Nat->Rat}{d:Nat->Rat}{F:Nat->Nat->Rat}(D:Diag n A d F)(hv:∀ i j,i<n->j<n->sm n (fun t=>u i t*v t j)=if i=j then 1 else 0):
 Diag n (fun i j=>sm n fun s=>(sm n fun t=>u i t*A t s)*u j s) d (fun m j=>sm n fun t=>u j t*F m t):=by
 have evc:∀ m x,ev n (fun j=>sm n fun t=>u j t*F m t) x=ev n (F m) (fun t=>sm n fun j=>u j t*x j):=fun m x=>Zr u (F m) x
 refine ⟨fun x=>?_,fun x hx j hj=>?_⟩
 ·have h:=D.val (fun t=>sm n fun j=>u j t*x j)
  have e:qf n (fun i j=>sm n fun s=>(sm n fun t=>u i t*A t s)*u j s) x=qf n A (fun t=>sm n fun j=>u j t*x j):=by
   unfold qf
   have r:∀ i,(sm n fun j=>(sm n fun s=>(sm n fun t=>u i t*A t s)*u j s)*x j)=sm n fun t=>u i t*sm n fun s=>A t s*sm n fun j=>u j s*x j:=fun i=>by
    have e1:(sm n fun j=>(sm n fun s=>(sm n fun t=>u i t*A t s)*u j s)*x j)=sm n fun j=>(sm n fun s=>u j s*(sm n fun t=>u i t*A t s))*x j:=C6 fun j _=>by
     congr 1
     exact C6 fun s _=>C5k _ _
    rw [e1,Zr]
    have e2:(sm n fun s=>(sm n fun t=>u i t*A t s)*sm n fun j=>u j s*x j)=sm n fun s=>sm n fun t=>u i t*(A t s*sm n fun j=>u j s*x j):=C6 fun s _=>by
     rw [<- A9p]
     exact C6 fun t _=>by grind
    rw [e2,Rz]
    exact C6 fun t _=>Bb n _ _
   rw [C6 fun i _=>by rw [r i]]
   have e3:(sm n fun i=>x i*sm n fun t=>u i t*sm n fun s=>A t s*sm n fun j=>u j s*x j)=sm n fun i=>(sm n fun t=>u i t*sm n fun s=>A t s*sm n fun j=>u j s*x j)*x i:=C6 fun i _=>C5k _ _
   rw [e3,Zr]
   exact C6 fun t _=>C5k _ _
  rw [e,h]
  exact C6 fun m _=>by rw [evc]
 ·have y0:=D.inj (fun t=>sm n fun j=>u j t*x j) fun m hm=>by rw [<- evc];exact hx m hm
  have e:x j=sm n fun i=>(sm n fun t=>u i t*v t j)*x i:=by
   rw [Gy hj fun i hi c=>by rw [hv i j hi hj,if_neg c,Rat.zero_mul],hv j j hj hj,if_pos rfl,Rat.one_mul]
  rw [e,Zr]
  exact Fa fun t ht=>by rw [y0 t ht,Rat.mul_zero]
theorem Diag.congr{n:Nat}{A B:Nat->Nat->Rat}{d:Nat->Rat}{F:Nat->Nat->Rat}(D:Diag n A d F)(h:∀ i j,i<n->j<n->A i j=B i j):Diag n B d F:=
 ⟨fun x=>by rw [<- D.val x];exact A5o (fun i j hi hj=>(h i j hi hj).symm) (fun _ _=>rfl),D.inj⟩
theorem B1p{n:Nat}{A u:Nat->Nat->Rat}(hs:A3h n A)(i j:Nat):sm n (fun s=>(sm n fun t=>u i t*A t s)*u j s)=sm n (fun s=>(sm n fun t=>u j t*A t s)*u i s):=by
 have e:∀ a b,sm n (fun s=>(sm n fun t=>u a t*A t s)*u b s)=sm n fun s=>sm n fun t=>u a t*A t s*u b s:=fun a b=>C6 fun s _=>(A9p _ _).symm
 rw [e,e,Rz]
 exact C6 fun t ht=>C6 fun s hs'=>by rw [hs t s ht hs'];grind
theorem B6e{q m:Nat}(hq:q<=4)(hm:m=294\/m=18861):sgM (bnd q m) (bnd q m) q<=100000000:=by
 have key:∀ q,q<5->sgM (bnd q 294) (bnd q 294) q<=100000000/\sgM (bnd q 18861) (bnd q 18861) q<=100000000:=by
  unfold bnd
  decide
 rcases hm with rfl|rfl
 ·exact (key q (by omega)).1
 ·exact (key q (by omega)).2
theorem SqE.not{r c:Int}{n q:Nat}{ls:Nat->List UInt8}{e:Int}(sq:B5p r c n ls q)(x:SqE r c n ls e):False:=by
 rcases x with ⟨x,_⟩|⟨_,x,_⟩
 ·exact x ⟨_,_,sq.1⟩
 ·exact x ⟨_,sq⟩
def InU(h1:Heap)(q:Nat)(L:List Value)(hp:Heap):Prop:=
 ∃ (k:Nat) (g o:Heap) (xs:List (List UInt8)) (A':Option Addr) (c':Nat),k<=q*q/\L=[I (k:Int),I (q:Int),I (q:Int),.slice A' k c']/\h1.le g/\Sep hp g o/\OwnSl o J8 A' c' xs/\xs.length=k/\∀ x∈xs,IsNum x/\x.length<=6
theorem C1n{q:Nat}(h:q<=4):70*(3^q*bnd q 24)+100<=40000000:=by
 have key:∀ q,q<5->70*(3^q*bnd q 24)+100<=40000000:=by
  unfold bnd
  decide
 exact key q (by omega)
theorem A1g(la:Nat->List UInt8)(w:Nat)(lb:Nat->List UInt8)(cols k:Nat):Hb la w lb cols k=K8 (rv (Hb la w lb cols k)):=by
 show K8 _=K8 (rv (K8 _))
 rw [Lj]
theorem A9t(f:Nat->List UInt8)(q i j:Nat):rv (f (i*q+j))=mtx (rvs f) q i j:=rfl
section
variable {h:Heap} {lA cA tA:Option Addr} {ln lc cn cc tn tc:Nat} {ls cs ts:Nat->List UInt8}
theorem law_ldlInertiaCongruence{n:Int}(gl:Gl h)(rl:RowV SSr h lA ln ls)(rc:RowV SSr h cA cn cs)(rt:RowV SSr h tA tn ts):FCall prog U5 #[.slice lA ln lc,I n,.slice cA cn cc,.slice tA tn tc] h (C43 h):=by
 refine Ep _ _ _ _ _ _ _ _ _ _ ?_
 unfold Aj
 have aw:∀ h',h.le h'->FCall prog Cu #[] h' (fun r hp=>∃ t,r= .bool t/\C43 h (.bool t) hp):=fun h' l=>A4u (gl.mono l) fun h'' l''=>⟨_,rfl,rfl,B0 l l''⟩
 have aw0:=aw h (B4 _)
 refine A4d rl rc (fun hln hcn hl hc=>⟨_,rfl,Br.no ?_⟩) ⟨_,rfl,Ny aw0⟩
 refine B6 (fun _=>aw0) (fun htn=>?_)
 refine Ka rt (by omega) (fun ht=>⟨_,rfl,Br.no ?_⟩) (fun _=>⟨_,rfl,Ny aw0⟩)
 refine So rl rc hl hc ?_
 intro q hq1 hq4 A1 c1 h1 l1 _ r1
 refine ⟨_,_,_,_,_,rfl,?_⟩
 have hqq:q*q<=4*4:=Nat.mul_le_mul hq4 hq4
 rw [wiM q q (by omega)]
 refine ⟨InU h1 q,fun L _=>q*q-(iAt L 0).toNat,⟨0,h1,Dw,[],none,0,by omega,rfl,B4 _,Sep.refl h1,OwnSl.nil,rfl,fun x hx=>by cases hx⟩,?_⟩
 rintro i u0 u1 bA bn bc hp ⟨k,g,o,xs,A',c',hk,eL,lg,s,ow,hxl,hx⟩
 simp only [List.cons.injEq,Value.int.injEq,Value.slice.injEq,true_and,and_true] at eL
 obtain ⟨rfl,rfl,rfl,rfl,rfl,rfl⟩:=eL
 have lhp:=B0 l1 (B0 lg s.le)
 refine B6 (fun hlt=>?_) (fun hge=>?_)
 ·have hkq:bn<q*q:=by omega
  have step:∀ y,IsNum y/\y.length<=6->wpH prog (Instr.buildSlice Q0 1 #[(0,.string (bs y))]) (fun v hp8=>∃ (B:Option Addr) (m d:Nat),v= .slice B m d/\wpH prog (Builtin.append_ #[Q0,Q0] Q0 #[.slice bA bn bc,.slice B m d]) (fun v1 hp9=>∃ (A':Option Addr) (n' c':Nat),v1= .slice A' n' c'/\InU h1 q [I (B5 ((bn:Int)+1)),I (q:Int),I (q:Int),.slice A' n' c'] hp9/\q*q-(iAt [I (B5 ((bn:Int)+1)),I (q:Int),I (q:Int),.slice A' n' c'] 0).toNat<q*q-(iAt [I (bn:Int),I (q:Int),I (q:Int),.slice bA bn bc] 0).toNat) hp8) hp:=by
   intro y hy
   refine T0 (ty:=Q0) (n:=bn) Y5 s ow hxl.symm (y:=y) rfl (by decide) (by omega) (by omega) ?_
   intro A3 c3 h3 g3 o3 l3 s3 ow3 _
   rw [hxl,wiS bn (by omega)]
   refine ⟨⟨bn+1,g3,o3,_,A3,c3,by omega,rfl,B0 lg l3,s3,ow3,by rw [List.length_append,hxl];rfl,fun x hx2=>?_⟩,by simp only [Ea];omega⟩
   rcases List.mem_append.1 hx2 with c|c
   ·exact hx x c
   ·rw [List.mem_singleton.1 c];exact hy
  have st0:=step [48] ⟨⟨0,Kx.symm⟩,by decide⟩
  refine B6 (fun hlt2=>?_) (fun _=>st0)
  obtain ⟨u,eu,hcu⟩:=(rt.mono Z9 lhp).sat (show bn<tn by omega)
  refine ⟨u,eu,by omega,by omega,_,hcu,?_⟩
  have hlen:=ht bn (by omega)
  refine Vx (gl.mono lhp) (by omega) (fun hnum=>⟨_,rfl,Ny ?_⟩) (fun _=>⟨_,rfl,Br.no st0⟩)
  exact ⟨u,eu,by omega,by omega,_,hcu,step (ts bn) ⟨hnum,by omega⟩⟩
 ·obtain rfl:bn=q*q:=by omega
  obtain ⟨f,hf,rf⟩:∃ f:Nat->List UInt8,(∀ i,i<q*q->IsNum (f i)/\(f i).length<=6)/\RowV SSr hp bA (q*q) f:=by
   have e:∀ i (hi:i<xs.length),xs.getD i []=xs[i]:=fun i hi=>by rw [List.getD_eq_getElem?_getD,C5q hi];rfl
   refine ⟨fun i=>xs.getD i [],fun i hi=>?_,xs,ow.slF s.ole,hxl,fun i hi=>⟨xs[i],C5q (by omega),(e i (by omega)).symm⟩⟩
   show IsNum (xs.getD i [])/\(xs.getD i []).length<=6
   rw [e i (by omega)]
   exact hx _ (List.getElem_mem _)
  have l1p:=B0 lg s.le
  clear s ow hx
  have mk:MOk (q:Int) (q:Int) (q*q) f q q:=⟨rfl,rfl,hq1,by omega,hq1,by omega,rfl,fun i hi=>(hf i hi).1⟩
  have fl:∀ i,i<q*q->(f i).length<=100000000:=fun i hi=>by have:=(hf i hi).2;omega
  have fs:∀ i,i<q*q->Sz 24 (rv (f i)):=fun i hi=>A7b (k:=6) (hf i hi).2 (by omega)
  have ms:∀ i j,i<q->j<q->Sz 294 (A79 ls ln cs cn q i j):=fun i j _ _=>A9k hl hc hq4 i j
  have gs:∀ i,i<q*q->Sz 294 (rv (Mc (A79 ls ln cs cn q) q i)):=B4y hq1 ms
  have gn:∀ i,i<q*q->(Mc (A79 ls ln cs cn q) q i).length<=100000000:=fun i hi=>C5n (B0x hq1 ms i hi) (by omega)
  have sq:=C0t ls ln cs cn (q:=q) hq1 (by omega)
  generalize Mc (A79 ls ln cs cn q) q=S at *
  have uq:∀ {f:Nat->List UInt8} {a b},MOk (q:Int) (q:Int) (q*q) f a b->a=q/\b=q:=fun mk=>by have:=mk.er;have:=mk.ec;omega
  refine B0l (m:=24) (gl.mono lhp) rf (by omega) fl fs (fun a b mk=>by rw [(uq mk).2];exact C1n hq4) ?_ (fun _ hne=>absurd rfl hne) (fun hno=>absurd ⟨_,_,mk⟩ hno)
  intro q' mk' h2 l2
  obtain rfl:q=q':=(uq mk').1.symm
  refine ⟨_,_,rfl,N7 (fun e=>absurd rfl e) (fun _=>?_)⟩
  rw [eq0]
  have l02:=B0 lhp l2
  refine B6 (fun _=>aw h2 l02) (fun hd=>?_)
  have inv:=(B8u (rvs f) q).2 hd
  refine Sl (gl.mono l02) (rf.mono Z9 l2) (by omega) fl ?_ (fun hno=>absurd ⟨_,_,mk⟩ hno)
  intro rows cols mk3 h3 A3 c3 own3
  obtain rfl:q=rows:=(uq mk3).1.symm
  obtain rfl:q=cols:=(uq mk3).2.symm
  refine ⟨_,_,_,_,_,_,rfl,?_⟩
  have l23:=B0 l2 own3.le
  have l03:=B0 lhp l23
  have rv3:RowV SSr h3 A3 (q*q) (Xu f q q):=own3.vis
  refine Wk (m:=294) (d:=4) (gl.mono l03) (rf.mono Z9 l23) (r1.mono Z9 (B0 l1p l23)) (by omega) (by omega) fl gn (fun i hi=>(fs i hi).mono (by omega)) gs (by omega) (fun a b mk=>by have:=uq mk;omega) (by omega) ?_
  intro o4 ho4 A4 c4 h4 l4 r4
  rcases MulO.ok mk sq.1 ho4 with ⟨_,_,rfl⟩|⟨hne,_⟩
  rotate_left
  ·exact absurd rfl hne
  refine ⟨_,_,_,_,_,_,rfl,?_⟩
  have l04:=B0 l03 l4
  have mk4:=mk.prod sq.1
  have z4:∀ i,i<q*q->Sz 2357 (rv (Hb f q S q i)):=fun i hi=>(Yi (m:=294) mk sq.1 (fun i hi=>(fs i hi).mono (by omega)) gs i hi).mono (by omega)
  have n4:∀ i,i<q*q->(Hb f q S q i).length<=100000000:=fun i hi=>C5n (A1i (m:=294) mk sq.1 (fun i hi=>(fs i hi).mono (by omega)) gs i hi) (by omega)
  have mkt:=mk.turn
  have zt:∀ i,i<q*q->Sz 2357 (rv (Xu f q q i)):=fun i hi=>(fs _ (O6 (Nat.mod_lt i (by omega)) (Nat.div_lt_of_lt_mul hi))).mono (by omega)
  have nt:∀ i,i<q*q->(Xu f q q i).length<=100000000:=fun i hi=>fl _ (O6 (Nat.mod_lt i (by omega)) (Nat.div_lt_of_lt_mul hi))
  refine Wk (m:=2357) (d:=4) (gl.mono l04) r4 (rv3.mono Z9 l4) (show q*q<=1000000 by omega) (by omega) n4 nt z4 zt (by omega) (fun a b mk=>by have:=uq mk;omega) (by omega) ?_
  intro o5 ho5 A5 c5 h5 l5 r5
  rcases MulO.ok mk4 mkt ho5 with ⟨_,_,rfl⟩|⟨hne,_⟩
  rotate_left
  ·exact absurd rfl hne
  refine ⟨_,_,_,_,_,_,rfl,?_⟩
  have l05:=B0 l04 l5
  have l15:=B0 l1p (B0 l23 (B0 l4 l5))
  have mk5:=mk4.prod mkt
  have z5:∀ i,i<q*q->Sz 18861 (rv (Hb (Hb f q S q) q (Xu f q q) q i)):=fun i hi=>(Yi (m:=2357) mk4 mkt z4 zt i hi).mono (by omega)
  have n5:∀ i,i<q*q->(Hb (Hb f q S q) q (Xu f q q) q i).length<=100000000:=fun i hi=>C5n (A1i (m:=2357) mk4 mkt z4 zt i hi) (by omega)
  have ent:∀ i j,j<q->mtx (rvs (Hb (Hb f q S q) q (Xu f q q) q)) q i j=sm q fun s=>(sm q fun t=>mtx (rvs f) q i t*mtx (rvs S) q t s)*mtx (rvs f) q j s:=fun i j hj=>by
   rw [A1h _ _ _ hj]
   exact C6 fun s hs=>by rw [A1h _ _ _ hs,A99 _ hj]
  have sq5:B5p (q:Int) (q:Int) (q*q) (Hb (Hb f q S q) q (Xu f q q) q) q:=⟨mk5,fun i j hi hj=>by
   rw [A1g,A1g (k:=j*q+i),A9t,A9t,ent i j (by omega),B1p sq.2.symm,<- ent j i hi]⟩
  refine Ng (m:=294) (gl.mono l05) (r1.mono Z9 l15) (by omega) gn gs (fun a mk=>by rw [(uq mk).1];exact B6e hq4 (.inl rfl)) ?_ (fun e he=>(he.not sq).elim)
  intro q1 sq1 d1 F1 D1 h6 l6
  obtain rfl:q=q1:=(uq sq1.1).1.symm
  refine ⟨_,_,_,_,rfl,?_⟩
  refine Ng (m:=18861) (gl.mono (B0 l05 l6)) (r5.mono Z9 l6) (show q*q<=1000000 by omega) n5 z5 (fun a mk=>by rw [(uq mk).1];exact B6e hq4 (.inr rfl)) ?_ (fun e he=>(he.not sq5).elim)
  intro q2 sq2 d2 F2 D2 h7 l7
  obtain rfl:q=q2:=(uq sq2.1).1.symm
  refine ⟨_,_,_,_,rfl,?_⟩
  have E:=((D1.cong fun i j hi hj=>B8t inv hi hj).congr fun i j _ hj=>(ent i j hj).symm).same D2
  refine E5 (fun _=>?_) (fun e=>absurd rfl e)
  refine E5 (fun _=>?_) (fun e=>absurd rfl e)
  refine E5 (fun _=>?_) (fun e=>absurd rfl e)
  refine E5 (fun _=>?_) (fun e=>absurd rfl e)
  refine E5 (fun _=>?_) (fun e=>absurd rfl e)
  refine E5 (fun _=>?_) (fun e=>absurd (by rw [E.1]) e)
  refine E5 (fun _=>?_) (fun e=>absurd (by rw [E.2.1]) e)
  exact E5 (fun _=>aw h7 (B0 l05 (B0 l6 l7))) (fun e=>absurd (by rw [E.2.2]) e)
end
end Go.Proofs.YtajkakhfcokljaaGreatDoor
namespace Go.Proofs.YtajkakhfcokljaaGreatDoor
set_option maxRecDepth 20000
open Go Go.RowKit
theorem C1s(s:ByteArray):bs s.data.toList=s:=by
 cases s;simp [bs]
theorem open_strV{H:Type}{enc:TypeId × Value->H}{P:Program}{W:World}{base:Nat}{sp:Nat->Bool}{held:Bool}{t e:TypeId}{fuel:Nat}{A:Option Addr}{len cap:Nat}{x:DataW H × List MemPlace}(ht:P.underlying t=some (.slice e))(he:P.underlying e=some .string)(hc:P.cellsOf e=1)
 (hf:DataW.trod enc P W base sp held fuel t [.slice A len cap]=some x):∃ ls:Nat->List UInt8,RowV SSr (memOf W) A len ls/\len<=maxLen:=by
 rcases Deep.open_strs ht he hc hf with ⟨hcs,_⟩|⟨a,l,c,m,Sx,hcs,_,hl,hm,hmm,_,hcell⟩
 ·simp at hcs
  obtain ⟨rfl,rfl,rfl⟩:=hcs
  exact ⟨fun _=>[],RowV.nil,Nat.zero_le _⟩
 ·simp at hcs
  obtain ⟨rfl,rfl,rfl⟩:=hcs
  have hlm:len<=m:=by rw [hmm];split<;>omega
  have sl:SlV (memOf W) (some a) (((List.range len).map fun i=>(Sx i).data.toList).map fun l=>Value.string (bs l)):=by
   refine .inr ⟨a,rfl,fun i v hv=>?_⟩
   rw [List.getElem?_map,List.getElem?_map] at hv
   by_cases hi:i<len
   ·rw [List.getElem?_range hi] at hv
    simp only [Option.map_some,Option.some.injEq,C1s] at hv
    rw [<- hv]
    exact On (hcell i (by omega)).1
   ·rw [List.getElem?_eq_none (by simpa using hi)] at hv;cases hv
  have:=Ha sl
  rw [List.length_map,List.length_range] at this
  exact ⟨_,this,by omega⟩
end Go.Proofs.YtajkakhfcokljaaGreatDoor
