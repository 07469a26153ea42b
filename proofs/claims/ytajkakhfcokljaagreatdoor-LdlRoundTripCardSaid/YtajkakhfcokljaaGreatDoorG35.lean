/-
  Texts of this proof, merged by a program of ours.
-/
import Derived.Test.YtajkakhfcokljaaGreatDoorG33
import Derived.Test.YtajkakhfcokljaaGreatDoorG32
import Derived.Test.YtajkakhfcokljaaGreatDoorG34
import Derived.Test.YtajkakhfcokljaaGreatDoorG22
import Derived.Test.YtajkakhfcokljaaGreatDoorG30
import Derived.Deep.Strs
open Go.Proofs.Tryz
open Int renaming gcd->C5r,lcm->C5s
open Nat renaming le_refl->C5q,le_trans->C5v,lt_succ_self->C5w
open Rat renaming divInt_eq_div->C5t,divInt->C5u,intCast_mul->C5x
namespace Go.Proofs.YtajkakhfcokljaaGreatDoor
set_option linter.all false
set_option maxRecDepth 20000
open Go
theorem Sl(x:Rat):x*(x.den:Rat)=(x.num:Rat):=by
 have h:=(Rat.num_divInt_den x).symm
 rw [C5t] at h
 have h2:(((x.den:Nat):Int):Rat)=(x.den:Rat):=rfl
 have h3:(((x.den:Nat):Int):Rat)≠0:=J5 (by have:=x.den_nz;omega)
 rw [h2] at h h3
 generalize (x.den:Rat)=d at *
 generalize (x.num:Rat)=n at *
 rw [h]
 grind
theorem B0o{x y:Rat}(hx:0<x)(hy:0<y){s:Rat}(hs:s=C5u (C5s x.num y.num) (C5r (x.den:Int) (y.den:Int))):0<s/\s=((s/x).num:Rat)*x/\s=((s/y).num:Rat)*y:=by
 have np:∀ z:Rat,0<z->0<z.num:=fun z hz=>by
  have h1:(0:Rat)<(z.den:Rat):=by exact_mod_cast z.den_pos
  have h2:=Rat.mul_pos hz h1
  rw [Sl] at h2
  exact_mod_cast h2
 have hxn:=np x hx
 have hyn:=np y hy
 have hxd:=x.den_pos
 have hyd:=y.den_pos
 have hG:0<C5r (x.den:Int) (y.den:Int):=Nat.gcd_pos_of_pos_left _ (by omega)
 have hL:0<C5s x.num y.num:=Nat.lcm_pos (by omega) (by omega)
 have hs':s*((C5r (x.den:Int) (y.den:Int):Nat):Int)=((C5s x.num y.num:Nat):Int):=by
  rw [hs,C5t]
  have:(((C5r (x.den:Int) (y.den:Int):Nat):Int):Rat)≠0:=J5 (by omega)
  grind
 have key:∀ z:Rat,0<z->z.num∣((C5s x.num y.num:Nat):Int)->((C5r (x.den:Int) (y.den:Int):Nat):Int)∣(z.den:Int)->s=((s/z).num:Rat)*z:=by
  intro z hz ⟨a,ha⟩ ⟨b,hb⟩
  have hzn:z*(z.den:Rat)=(z.num:Rat):=Sl z
  have hGr:(((C5r (x.den:Int) (y.den:Int):Nat):Int):Rat)≠0:=J5 (by omega)
  have hbr:(z.den:Rat)=((((C5r (x.den:Int) (y.den:Int):Nat):Int):Rat))*(b:Rat):=by
   rw [<- C5x,<- hb];rfl
  have har:((((C5s x.num y.num:Nat):Int)):Rat)=(z.num:Rat)*(a:Rat):=by rw [<- C5x,<- ha]
  have e:s=((a*b:Int):Rat)*z:=by
   rw [C5x]
   rw [har] at hs'
   generalize ((((C5r (x.den:Int) (y.den:Int):Nat):Int):Rat))=G at *
   rw [hbr] at hzn
   have:s*G=((a:Rat)*b*z)*G:=by rw [hs',<- hzn];grind
   grind
  have e2:s/z=((a*b:Int):Rat):=by
   have:z≠0:=by grind
   rw [e];grind
  rw [e2,Rat.num_intCast,<- e]
 have hsp:0<s:=by
  have h1:(0:Rat)<((((C5r (x.den:Int) (y.den:Int):Nat):Int)):Rat):=by exact_mod_cast (by omega:(0:Int)<((C5r (x.den:Int) (y.den:Int):Nat):Int))
  have h2:(0:Rat)<((((C5s x.num y.num:Nat):Int)):Rat):=by exact_mod_cast (by omega:(0:Int)<((C5s x.num y.num:Nat):Int))
  rw [<- hs'] at h2
  refine Classical.byContradiction fun hno=>?_
  have h3:s<=0:=by grind
  have h4:=Rat.mul_nonneg (show 0 <= -s by grind) (show (0:Rat)<=_ from (by grind:(0:Rat)<=((((C5r (x.den:Int) (y.den:Int):Nat):Int)):Rat)))
  grind
 exact ⟨hsp,key x hx (Int.dvd_lcm_left ..) (Int.gcd_dvd_left ..),key y hy (Int.dvd_lcm_right ..) (Int.gcd_dvd_right ..)⟩
theorem B9v{m:Nat}{x y:Int}(hx:ZB m x)(hy:ZB m y):ZB (m+m) ((C5s x y:Nat):Int):=by
 refine (hx.mul hy).le ?_
 rw [Int.natAbs_natCast,Int.natAbs_mul]
 exact Nat.div_le_self _ _
theorem Yg(i a:Nat):xch i i a=a:=by
 unfold xch
 by_cases e:a=i
 ·rw [if_pos e,e]
 ·rw [if_neg e,if_neg e]
section
variable {h g o:Heap} {be:Nat} {T:Tb} {M:Nat->Nat->Int} {S:Nat->Rat} {n k m sc:Nat} {w:IV} {z:Int} {L D:Value} {K:VP}
theorem Ja{w:QV}{q:Rat}(i:RQ h w q)(hK:K (.agg #[.bool w.s,.slice w.A w.n w.c]) h):FCall prog Xb #[w.v] h K:=by
 refine C01 _ _ _ _ _ _ _ _ ?_
 unfold C51
 exact hK
theorem A3z(t:Tab h g o T M S)(gl:Gl g){i l:Nat}(hi:i<T.rows)(hl:l<T.rows)(hil:i≠l)(pi:0<S i)(pl:0<S l)(zi:Sz sc (S i))(zl:Sz sc (S l))(hM:∀ a b,a<T.rows->b<T.cols->ZB m (M a b))(hs1:1<=sc)(hm:m+3*sc+1<=6400000000)
 (hK:∀ h' g' o' (x y:Int) (q:Rat),g.le g'->0<q->q=x*S i->q=y*S l->Sz (sc+sc) q->ZB (3*sc) x->ZB (3*sc) y->Tab h' g' o' T (fun a b=>if a=i then M i b*x+M l b*y else M a b) (fun a=>if a=i then q else S a)->(∀ b,b≠T.bE->b≠T.bS->o' b=o b)->K (.tuple #[]) h'):FCall prog A6g #[.pointer (some ⟨T.bt,0,none⟩),I (i:Int),I (l:Int)] h K:=by
 refine B3t _ _ _ ?_
 unfold B87
 obtain ⟨wx,ix,a0,a1,a2,a3⟩:=t.sat hi
 obtain ⟨wy,iy,b0,b1,b2,b3⟩:=t.sat hl
 have sp:=t.sep
 refine ⟨_,rfl,_,_,_,t.c2,_,rfl,by omega,by omega,_,_,_,_,_,_,_,_,a0,a1,a2,a3,_,rfl,_,_,_,t.c2,_,rfl,by omega,by omega,_,_,_,_,_,_,_,_,b0,b1,b2,b3,?_⟩
 refine Ja (I7 _ _ _ _ sp.le ix) ⟨_,_,_,_,rfl,B4 _,?_⟩
 refine Ja (I7 _ _ _ _ sp.le iy) ⟨_,_,_,_,rfl,B4 _,?_⟩
 refine sp.call (A17 (m:=sc) gl.tz ix.num iy.num zi.num zl.num (by omega) ?_)
 intro A2 n2 c2 g2 l2 i2 h2 s2
 refine ⟨_,_,_,_,rfl,sp.le_le s2 l2,?_⟩
 refine s2.call (Dz (I7 _ _ _ _ l2 ix) ?_)
 intro x3 A3 n3 c3 g3 l3 i3 h3 s3
 refine ⟨_,_,_,_,rfl,s2.le_le s3 l3,?_⟩
 have l03:=B0 l2 l3
 refine s3.call (Dz (I7 _ _ _ _ l03 iy) ?_)
 intro x4 A4 n4 c4 g4 l4 i4 h4 s4
 refine ⟨_,_,_,_,rfl,s3.le_le s4 l4,?_⟩
 have l04:=B0 l03 l4
 refine s4.call (Z9 (m:=sc) (gl.mono l04).tz (i3.mono l4) i4 zi.den zl.den (by omega) ?_)
 intro A5 n5 c5 g5 l5 i5 h5 s5
 refine ⟨_,_,_,_,rfl,s4.le_le s5 l5,?_⟩
 have l05:=B0 l04 l5
 have hden:((S i).den:Int)≠0:=by have:=(S i).den_nz;omega
 have hden2:((S l).den:Int)≠0:=by have:=(S l).den_nz;omega
 have hg0:(C5r ((S i).den:Int) ((S l).den:Int):Int)≠0:=by
  have:0<C5r ((S i).den:Int) ((S l).den:Int):=Int.gcd_pos_of_ne_zero_left _ hden
  omega
 have zlc:=B9v zi.num zl.num
 have zg:ZB (sc+sc) (C5r ((S i).den:Int) ((S l).den:Int):Int):=(ZB.gcd hden2 zl.den).mono (by omega)
 refine s5.call (T9 (m:=sc+sc) (gl.mono l05).tz (i2.mono (B0 l3 (B0 l4 l5))) i5 zlc zg (by omega) ?_)
 intro w6 g6 l6 i6 h6 s6
 refine ⟨_,_,_,_,_,_,_,_,rfl,s5.le_le s6 l6,?_⟩
 have l06:=B0 l05 l6
 have zq:Sz (sc+sc) (C5u (C5s (S i).num (S l).num) (C5r ((S i).den:Int) ((S l).den:Int))):=Al hg0 zlc zg
 obtain ⟨hq,ex,ey⟩:=B0o pi pl (s:=C5u (C5s (S i).num (S l).num) (C5r ((S i).den:Int) ((S l).den:Int))) rfl
 generalize C5u (C5s (S i).num (S l).num) (C5r ((S i).den:Int) ((S l).den:Int))=q at *
 refine s6.call (Dy (m:=sc+sc) (gl.mono l06).tz i6 (I7 _ _ _ _ l06 ix) zq (zi.mono (by omega)) (by omega) (by omega) ?_)
 intro w7 g7 l7 i7 h7 s7
 refine ⟨_,_,_,_,_,_,_,_,rfl,s6.le_le s7 l7,?_⟩
 refine Ja (I7 _ _ _ _ s7.le i7) ⟨_,_,_,_,rfl,B4 _,?_⟩
 have l07:=B0 l06 l7
 refine s7.call (Dy (m:=sc+sc) (gl.mono l07).tz (I7 _ _ _ _ l7 i6) (I7 _ _ _ _ l07 iy) zq (zl.mono (by omega)) (by omega) (by omega) ?_)
 intro w8 g8 l8 i8 h8 s8
 refine ⟨_,_,_,_,_,_,_,_,rfl,s7.le_le s8 l8,?_⟩
 refine Ja (I7 _ _ _ _ s8.le i8) ⟨_,_,_,_,rfl,B4 _,?_⟩
 have l08:=B0 l07 l8
 have zx:ZB (3*sc) (q/S i).num:=(zq.div zi hs1).num.mono (by omega)
 have zy:ZB (3*sc) (q/S l).num:=(zq.div zl hs1).num.mono (by omega)
 have ixn:=i7.num.mono l8
 have iyn:=i8.num
 have iq:=I7 _ _ _ _ (B0 l7 l8) i6
 generalize (q/S i).num=x at *
 generalize (q/S l).num=y at *
 have t8:=t.next s8 l08
 clear i7 i8 i6 i5 i4 i3 i2
 refine Q9 t8 hi ⟨_,_,_,rfl,Q9 t8 hl ⟨_,_,_,rfl,?_⟩⟩
 refine ⟨fun L hp=>∃ (c:Nat) (g' o':Heap),c<=T.cols/\L=[I (c:Int)]/\g8.le g'/\Tab hp g' o' T (fun a b=>if a=i/\b<c then M i b*x+M l b*y else M a b) S/\∀ b,b≠T.bE->o' b=o b,fun L _=>T.cols-(iAt L 0).toNat,⟨0,g8,o,by omega,rfl,B4 _,t8.congr (fun a b _ _=>by rw [if_neg (by omega)]) (fun _ _=>rfl),fun _ _=>rfl⟩,?_⟩
 rintro z1 hp ⟨c,g9,o9,hc,eL,l9,t9,ko⟩
 obtain rfl:=sI1 eL
 have hsm:=t.small
 refine B6 (fun hlt=>?_) (fun hge=>?_)
 ·have hcn:c<T.cols:=by omega
  obtain ⟨u,iu,u0,u1⟩:=t9.at hl hcn
  obtain ⟨v,iv,v0,v1⟩:=t9.at hi hcn
  rw [if_neg (by omega)] at iu iv
  refine ⟨_,rfl,by omega,by omega,_,_,_,_,u0,u1,_,rfl,by omega,by omega,_,_,_,_,v0,v1,?_⟩
  refine t9.sep.call (L5 (m:=m+3*sc) iv (ixn.mono l9) ((hM i c hi hcn).mono (by omega)) (zx.mono (by omega)) (by omega) ?_)
  intro x10 A10 n10 c10 g10 l10 i10 h10 s10
  refine ⟨_,_,_,_,rfl,t9.sep.le_le s10 l10,?_⟩
  refine s10.call (L5 (m:=m+3*sc) (iu.mono l10) (iyn.mono (B0 l9 l10)) ((hM l c hl hcn).mono (by omega)) (zy.mono (by omega)) (by omega) ?_)
  intro x11 A11 n11 c11 g11 l11 i11 h11 s11
  refine ⟨_,_,_,_,rfl,s10.le_le s11 l11,?_⟩
  refine s11.call (Ds (m:=m+3*sc) (i10.mono l11) i11 ((hM i c hi hcn).mul zx) ((hM l c hl hcn).mul zy) (by omega) ?_)
  intro x12 A12 n12 c12 g12 l12 i12 h12 s12
  have t12:=((t9.next s10 l10).next s11 l11).next s12 l12
  refine ⟨_,_,_,_,rfl,s11.le_le s12 l12,_,rfl,by omega,by omega,?_⟩
  refine t12.store hi hcn (w:=⟨x12,A12,n12,c12⟩) i12 ?_
  intro h13 o13 t13 ko13
  rw [wiS c (by omega)]
  refine ⟨⟨c+1,g12,o13,by omega,rfl,B0 l9 (B0 l10 (B0 l11 l12)),t13.congr (fun a b _ _=>?_) (fun _ _=>rfl),fun b hb=>by rw [ko13 b hb];exact ko b hb⟩,by simp only [Dm];omega⟩
  unfold C0q
  try dsimp only
  by_cases e:a=i/\b=c
  ·rw [if_pos e,if_pos (by omega),e.2]
  ·rw [if_neg e]
   by_cases e2:a=i/\b<c
   ·rw [if_pos e2,if_pos (by omega)]
   ·rw [if_neg e2,if_neg (by omega)]
 ·have ec:c=T.cols:=by omega
  refine ⟨_,rfl,_,_,_,t9.c2,_,rfl,by omega,by omega,?_⟩
  refine t9.sstore hi (w:=w6) (I7 _ _ _ _ l9 iq) ?_
  intro h10 o10 t10 ko10
  refine hK h10 g9 o10 x y q (B0 l08 l9) hq ex ey zq zx zy (t10.congr (fun a b _ hb=>?_) (fun _ _=>rfl)) (fun b hb1 hb2=>by rw [ko10 b hb2];exact ko b hb1)
  by_cases e:a=i
  ·rw [if_pos ⟨e,by omega⟩,if_pos e]
  ·rw [if_neg (fun x=>e x.1),if_neg e]
theorem El.tab(X:El h g o be T M S n k w z L D){h' g' o':Heap}{M':Nat->Nat->Int}{S':Nat->Rat}(t:Tab h' g' o' T M' S')(lg:g.le g')(ko:∀ b,¬ onT T b->o' b=o b):El h' g' o' be T M' S' n k w z L D:=by
 obtain ⟨e,he⟩:=X.hd
 exact ⟨t,X.rows,X.cols,⟨e,by rw [ko _ X.off];exact he⟩,X.off,Ml _ _ _ _ lg X.last⟩
theorem Nk(X:El h g o be T M S n k w z L D){i l:Nat}(hi:i<n)(hl:l<n)(hn:n<=10000)
 (hK:∀ h' o',El h' g o' be T (fun a b=>M (xch i l a) (xch i l b)) (fun a=>S (xch i l a)) n k w z L D->(∀ b,¬ onT T b->o' b=o b)->K (.tuple #[]) h'):FCall prog Fz #[.pointer (some ⟨be,0,none⟩),I (i:Int),I (l:Int)] h K:=by
 refine A3f _ _ _ ?_
 unfold A3g
 have er:=X.rows
 have ec:=X.cols
 refine E5 (fun e=>?_) (fun e=>?_)
 ·obtain rfl:i=l:=by omega
  exact hK h o (X.tab (X.t.congr (fun a b _ _=>by rw [Yg,Yg]) (fun a _=>by rw [Yg])) (B4 _) fun _ _=>rfl) (fun _ _=>rfl)
 refine ⟨_,rfl,_,X.c2,?_⟩
 refine A9p X.t (by omega) (by omega) (by omega) ?_
 intro h1 o1 t1 ko1
 have X1:=X.tab t1 (B4 _) fun b hb=>ko1 b (fun e=>hb (.inr (.inl e))) (fun e=>hb (.inr (.inr e)))
 refine ⟨rfl,_,rfl,_,X1.c0,?_⟩
 refine ⟨fun L' hp=>∃ (r:Nat) (o2:Heap),r<=n/\L'=[I (r:Int)]/\El hp g o2 be T (fun a b=>if a<r then M (xch i l a) (xch i l b) else M (xch i l a) b) (fun a=>S (xch i l a)) n k w z L D/\∀ b,¬ onT T b->o2 b=o b,fun L' _=>n-(iAt L' 0).toNat,⟨0,o1,by omega,rfl,X1.tab (t1.congr (fun a b _ _=>by rw [if_neg (by omega)]) (fun _ _=>rfl)) (B4 _) (fun _ _=>rfl),fun b hb=>ko1 b (fun e=>hb (.inr (.inl e))) (fun e=>hb (.inr (.inr e)))⟩,?_⟩
 clear X1 t1 ko1
 rintro y hp ⟨r,o2,hr,eL,X2,ko2⟩
 obtain rfl:=sI1 eL
 refine B6 (fun hlt=>?_) (fun hge=>?_)
 ·have hrn:r<n:=by omega
  obtain ⟨u,iu,u0,u1⟩:=X2.t.at (i:=r) (j:=l) (by omega) (by omega)
  obtain ⟨v,iv,v0,v1⟩:=X2.t.at (i:=r) (j:=i) (by omega) (by omega)
  rw [if_neg (Nat.lt_irrefl r)] at iu iv
  refine ⟨_,rfl,_,X2.c2,Q9 X2.t (by omega) ⟨_,_,_,rfl,_,rfl,by omega,by omega,_,_,_,_,u0,u1,_,rfl,by omega,by omega,_,_,_,_,v0,v1,_,rfl,by omega,by omega,?_⟩⟩
  refine X2.t.store (i:=r) (j:=i) (by omega) (by omega) (w:=u) iu ?_
  intro h3 o3 t3 ko3
  refine ⟨_,rfl,by omega,by omega,?_⟩
  refine t3.store (i:=r) (j:=l) (by omega) (by omega) (w:=v) iv ?_
  intro h4 o4 t4 ko4
  have ko5:∀ b,¬ onT T b->o4 b=o2 b:=fun b hb=>by rw [ko4 b (fun e=>hb (.inr (.inl e))),ko3 b (fun e=>hb (.inr (.inl e)))]
  rw [wiS r (by omega)]
  refine ⟨⟨r+1,o4,by omega,rfl,X2.tab (t4.congr (fun a b _ _=>?_) (fun _ _=>rfl)) (B4 _) ko5,fun b hb=>by rw [ko5 b hb];exact ko2 b hb⟩,by simp only [Dm];omega⟩
  unfold C0q
  try dsimp only
  by_cases c1:a=r
  ·subst c1
   by_cases c2:b=l
   ·rw [if_pos ⟨rfl,c2⟩,if_pos (C5w a),c2]
    have:xch i l l=i:=by unfold xch;rw [if_neg (by omega),if_pos rfl]
    rw [this]
   ·rw [if_neg (fun x=>c2 x.2)]
    by_cases c3:b=i
    ·rw [if_pos ⟨rfl,c3⟩,if_pos (C5w a),c3,It]
    ·rw [if_neg (fun x=>c3 x.2),if_neg (Nat.lt_irrefl a),if_pos (C5w a)]
     have:xch i l b=b:=by unfold xch;rw [if_neg c3,if_neg c2]
     rw [this]
  ·rw [if_neg (fun x=>c1 x.1),if_neg (fun x=>c1 x.1)]
   by_cases c2:a<r
   ·rw [if_pos c2,if_pos (by omega)]
   ·rw [if_neg c2,if_neg (by omega)]
 ·exact hK hp o2 (X2.tab (X2.t.congr (fun a b ha _=>by rw [if_pos (by omega)]) (fun _ _=>rfl)) (B4 _) fun _ _=>rfl) ko2
theorem A1u{R A0 F:Nat->Nat->Rat}{d:Nat->Rat}(X:El h g o be T M S n k w z L D)(gl:Gl g)(te:TE n k R M S z)(pd:PD n k A0 d F R)(hk:k<=n)(hn:n<=10000)(hM:∀ a b,a<n->b<n->ZB m (M a b))(hS:∀ a,a<n->Sz sc (S a))(hs1:1<=sc)(hb:m+3*sc+2<=6400000000)
 (hK1:∀ h' g' o' M' S' R' F',g.le g'->El h' g' o' be T M' S' n k w z L D->TE n k R' M' S' z->k<n->R' k k≠0->PD n k A0 d F' R'->(∀ a b,a<n->b<n->ZB (m+3*sc+2) (M' a b))->(∀ a,a<n->Sz (sc+sc) (S' a))->K (.bool true) h')
 (hK0:(∀ i j,i<n->j<n->R i j=0)->K (.bool false) h):FCall prog Pf #[.pointer (some ⟨be,0,none⟩)] h K:=by
 refine A5h _ ?_
 unfold A72
 have er:=X.rows
 have ec:=X.cols
 refine ⟨_,rfl,_,X.c1,?_⟩
 refine ⟨fun L' hp=>∃ i:Nat,k<=i/\i<=n/\L'=[I (i:Int)]/\hp=h/\∀ j,k<=j->j<i->R j j=0,fun L' _=>n-(iAt L' 0).toNat,⟨k,C5q _,hk,rfl,rfl,fun j _ _=>by omega⟩,?_⟩
 rintro y hp ⟨i,hi1,hi2,eL,rfl,hz⟩
 obtain rfl:=sI1 eL
 refine ⟨_,rfl,_,X.c0,B6 (fun hlt=>?_) (fun hge=>?_)⟩
 ·have hin:i<n:=by omega
  obtain ⟨u,iu,u0,u1⟩:=X.t.at (i:=i) (j:=i) (by omega) (by omega)
  refine ⟨_,rfl,_,X.c2,Q9 X.t (by omega) ⟨_,_,_,rfl,_,rfl,by omega,by omega,_,_,_,_,u0,u1,?_⟩⟩
  refine F1 (iu.mono X.t.sep.le) ⟨_,rfl,Br.not (B6 (fun e=>?_) (fun e=>?_))⟩
  ·rw [wiS i (by omega)]
   refine ⟨⟨i+1,by omega,by omega,rfl,rfl,fun j a b=>?_⟩,by simp only [Dm];omega⟩
   by_cases c:j=i
   ·rw [c];exact (te.zero hi1 hin hin).1 e
   ·exact hz j a (by omega)
  ·refine ⟨_,rfl,_,X.c1,Nk X (by omega) hin hn ?_⟩
   intro h1 o1 X1 ko1
   have hkn:k<n:=by omega
   refine ⟨rfl,hK1 h1 g o1 _ _ _ _ (B4 _) X1 (te.swap hi1 hin) hkn ?_ (pd.swap hkn hin (C5q _) hi1) (fun a b ha hb=>(hM _ _ (Ce hkn hin ha) (Ce hkn hin hb)).mono (by omega)) (fun a ha=>(hS _ (Ce hkn hin ha)).mono (by omega))⟩
   show R (xch k i k) (xch k i k)≠0
   rw [It]
   exact fun x=>e ((te.zero hi1 hin hin).2 x)
 have ein:i=n:=by omega
 subst ein
 have diag:∀ j,k<=j->j<i->R j j=0:=hz
 refine ⟨_,rfl,_,X.c1,?_⟩
 refine ⟨fun L' hx=>∃ a:Nat,k<=a/\a<=i/\L'=[I (a:Int)]/\hx=hp/\∀ b c,k<=b->b<a->b<c->c<i->R b c=0,fun L' _=>i-(iAt L' 0).toNat,⟨k,C5q _,hk,rfl,rfl,fun b c _ _=>by omega⟩,?_⟩
 rintro y1 hx ⟨a,ha1,ha2,eL1,rfl,hza⟩
 obtain rfl:=sI1 eL1
 refine ⟨_,rfl,_,X.c0,B6 (fun hlt1=>?_) (fun hge1=>?_)⟩
 rotate_left
 ·have eai:a=i:=by omega
  subst eai
  refine hK0 fun b c hb hc=>?_
  by_cases c1:b<k
  ·exact pd.zero b c hb hc (.inl c1)
  ·by_cases c2:c<k
   ·exact pd.zero b c hb hc (.inr c2)
   ·rcases Nat.lt_trichotomy b c with c3|c3|c3
    ·exact hza b c (by omega) hb c3 hc
    ·rw [c3];exact diag c (by omega) hc
    ·rw [pd.symm b c hb hc];exact hza c b (by omega) hc c3 hb
 have hai:a<i:=by omega
 have ew:∀ {j:Nat},j<i->B5 ((j:Int)+1)=((j+1:Nat):Int):=fun {j} hj=>by rw [B7]<;>omega
 rw [ew hai]
 refine ⟨fun L' hy=>∃ b:Nat,a<b/\b<=i/\L'=[I (b:Int)]/\hy=hx/\∀ c,a<c->c<b->R a c=0,fun L' _=>i-(iAt L' 0).toNat,⟨a+1,by omega,by omega,rfl,rfl,fun c _ _=>by omega⟩,?_⟩
 rintro y2 hy ⟨b,hb1,hb2,eL2,rfl,hzb⟩
 obtain rfl:=sI1 eL2
 refine ⟨_,rfl,_,X.c0,B6 (fun hlt2=>?_) (fun hge2=>?_)⟩
 rotate_left
 ·have ebi:b=i:=by omega
  subst ebi
  refine ⟨⟨a+1,by omega,by omega,rfl,rfl,fun b' c h1 h2 h3 h4=>?_⟩,by simp only [Dm];omega⟩
  by_cases e:b'=a
  ·rw [e];exact hzb c (by omega) h4
  ·exact hza b' c h1 (by omega) h3 h4
 have hbi:b<i:=by omega
 rw [ew hbi]
 obtain ⟨u,iu,u0,u1⟩:=X.t.at (i:=a) (j:=b) (by omega) (by omega)
 refine ⟨_,rfl,_,X.c2,Q9 X.t (by omega) ⟨_,_,_,rfl,_,rfl,by omega,by omega,_,_,_,_,u0,u1,?_⟩⟩
 refine F1 (iu.mono X.t.sep.le) ⟨_,rfl,B6 (fun e=>?_) (fun e=>?_)⟩
 ·refine ⟨⟨b+1,by omega,by omega,rfl,rfl,fun c h1 h2=>?_⟩,by simp only [Dm];omega⟩
  by_cases e2:c=b
  ·rw [e2];exact (te.zero ha1 hai hbi).1 e
  ·exact hzb c h1 (by omega)
 have hne:R a b≠0:=fun x=>e ((te.zero ha1 hai hbi).2 x)
 refine ⟨_,rfl,_,X.c2,?_⟩
 refine A3z (m:=m) (sc:=sc) X.t gl (i:=a) (l:=b) (by omega) (by omega) (by omega) (te.scale a ha1 hai) (te.scale b (by omega) hbi) (hS a hai) (hS b hbi) (fun c1 c2 h1 h2=>hM c1 c2 (by omega) (by omega)) hs1 (by omega) ?_
 intro h1 g1 o1 x y q l1 hq ex ey zq zx zy t1 ko1
 have X1:=X.tab t1 l1 fun c hc=>ko1 c (fun e=>hc (.inr (.inl e))) (fun e=>hc (.inr (.inr e)))
 have te1:=te.addRow ha1 hai (show k<=b by omega) hbi hq ex ey
 have te2:=te1.addCol ha1 hai (show k<=b by omega) hbi
 have pd2:=pd.merge hai hbi ha1 (by omega) (by omega)
 have hM1:∀ c1 c2,c1<i->c2<i->ZB (m+3*sc+1) (if c1=a then M a c2*x+M b c2*y else M c1 c2):=fun c1 c2 h1 h2=>by
  split
  ·exact ((hM a c2 hai h2).mul zx).add ((hM b c2 hbi h2).mul zy)
  ·exact (hM c1 c2 h1 h2).mono (by omega)
 have hS1:∀ c,c<i->Sz (sc+sc) (if c=a then q else S c):=fun c hc=>by
  split
  ·exact zq
  ·exact (hS c hc).mono (by omega)
 generalize hM1e:(fun c1 c2=>if c1=a then M a c2*x+M b c2*y else M c1 c2)=M1 at *
 generalize hS1e:(fun c=>if c=a then q else S c)=S1 at *
 have te3:TE i k (Jz a b R) (fun c1 c2=>if c2=a then M1 c1 a+M1 c1 b else M1 c1 c2) S1 z:=by
  rw [<- hM1e];exact te2
 have hM1': ∀ c1 c2,c1<i->c2<i->ZB (m+3*sc+1) (M1 c1 c2):=fun c1 c2 h1 h2=>by rw [<- hM1e];exact hM1 c1 c2 h1 h2
 have hS1': ∀ c,c<i->Sz (sc+sc) (S1 c):=fun c hc=>by rw [<- hS1e];exact hS1 c hc
 refine ⟨rfl,_,rfl,_,X1.c0,?_⟩
 refine ⟨fun L' hv=>∃ (r:Nat) (g2 o2:Heap),r<=i/\L'=[I (r:Int)]/\g1.le g2/\El hv g2 o2 be T (fun c1 c2=>if c1<r/\c2=a then M1 c1 a+M1 c1 b else M1 c1 c2) S1 i k w z L D,fun L' _=>i-(iAt L' 0).toNat,⟨0,g1,o1,by omega,rfl,B4 _,X1.tab (t1.congr (fun c1 c2 _ _=>by rw [if_neg (by omega)]) (fun _ _=>rfl)) (B4 _) fun _ _=>rfl⟩,?_⟩
 rintro y3 hv ⟨r,g2,o2,hr,eL3,l2,X2⟩
 obtain rfl:=sI1 eL3
 refine B6 (fun hlt3=>?_) (fun hge3=>?_)
 ·have hri:r<i:=by omega
  obtain ⟨p,ip,p0,p1⟩:=X2.t.at (i:=r) (j:=a) (by omega) (by omega)
  obtain ⟨v,iv,v0,v1⟩:=X2.t.at (i:=r) (j:=b) (by omega) (by omega)
  rw [if_neg (by omega)] at ip iv
  refine ⟨_,rfl,_,X2.c2,Q9 X2.t (by omega) ⟨_,_,_,rfl,_,rfl,by omega,by omega,_,_,_,_,p0,p1,_,rfl,by omega,by omega,_,_,_,_,v0,v1,?_⟩⟩
  refine X2.t.sep.call (Ds (m:=m+3*sc+1) ip iv (hM1' r a hri hai) (hM1' r b hri hbi) (by omega) ?_)
  intro x3 A3 n3 c3 g3 l3 i3 h3 s3
  refine ⟨_,_,_,_,rfl,X2.t.sep.le_le s3 l3,_,rfl,by omega,by omega,?_⟩
  refine (X2.t.next s3 l3).store (i:=r) (j:=a) (by omega) (by omega) (w:=⟨x3,A3,n3,c3⟩) i3 ?_
  intro h4 o4 t4 ko4
  rw [ew hri]
  refine ⟨⟨r+1,g3,o4,by omega,rfl,B0 l2 l3,(X2.next s3 l3).tab (t4.congr (fun c1 c2 _ _=>?_) (fun _ _=>rfl)) (B4 _) fun c hc=>ko4 c (fun e=>hc (.inr (.inl e)))⟩,by simp only [Dm];omega⟩
  unfold C0q
  try dsimp only
  by_cases e1:c1=r/\c2=a
  ·rw [if_pos e1,if_pos (by omega),e1.1]
  ·rw [if_neg e1]
   by_cases e2:c1<r/\c2=a
   ·rw [if_pos e2,if_pos (by omega)]
   ·rw [if_neg e2,if_neg (by omega)]
 ·have eri:r=i:=by omega
  subst eri
  have X3:El hv g2 o2 be T (fun c1 c2=>if c2=a then M1 c1 a+M1 c1 b else M1 c1 c2) S1 r k w z L D:=X2.tab (X2.t.congr (fun c1 c2 h1 _=>by
   by_cases e1:c2=a
   ·rw [if_pos ⟨by omega,e1⟩,if_pos e1]
   ·rw [if_neg (fun x=>e1 x.2),if_neg e1]) (fun _ _=>rfl)) (B4 _) fun _ _=>rfl
  have hkn:k<r:=by omega
  refine ⟨_,rfl,_,X3.c1,Nk X3 hkn hai hn ?_⟩
  intro h5 o5 X5 ko5
  have zM2:∀ c1 c2,c1<r->c2<r->ZB (m+3*sc+2) (if c2=a then M1 c1 a+M1 c1 b else M1 c1 c2):=fun c1 c2 h1 h2=>by
   split
   ·exact (hM1' c1 a h1 hai).add (hM1' c1 b h1 hbi)
   ·exact (hM1' c1 c2 h1 h2).mono (by omega)
  refine ⟨rfl,hK1 h5 g2 o5 _ _ _ _ (B0 l1 l2) X5 (te3.swap ha1 hai) hkn ?_ (pd2.swap hkn hai (C5q _) ha1) (fun c1 c2 h1 h2=>zM2 _ _ (Ce hkn hai h1) (Ce hkn hai h2)) (fun c hc=>hS1' _ (Ce hkn hai hc))⟩
  show Jz a b R (xch k a k) (xch k a k)≠0
  rw [It]
  unfold Jz
  rw [if_pos rfl,if_pos rfl,if_pos rfl,diag a ha1 hai,diag b (by omega) hbi,pd.symm b a hbi hai]
  intro x
  exact hne (by grind)
end
def sgS(s:Nat):Nat->Nat
 | 0=>s
 | k+1=>sgS s k+sgS s k
def sgM(m s:Nat):Nat->Nat
 | 0=>m
 | k+1=>2*(sgM m s k+3*sgS s k+2)+1
theorem Ys(m s:Nat):∀ n k,k<=n->sgM m s k<=sgM m s n:=by
 intro n
 induction n with
 | zero=>intro k h;rw [show k=0 by omega];exact C5q _
 | succ n ih=>
  intro k h
  by_cases c:k=n+1
  ·rw [c];exact C5q _
  ·have:=ih k (by omega)
   rw [show sgM m s (n+1)=2*(sgM m s n+3*sgS s n+2)+1 from rfl]
   omega
theorem C15(s:Nat):∀ k,sgS s k<=sgM s s k:=by
 intro k
 induction k with
 | zero=>exact C5q _
 | succ k ih=>
  rw [show sgM s s (k+1)=2*(sgM s s k+3*sgS s k+2)+1 from rfl,show sgS s (k+1)=sgS s k+sgS s k from rfl]
  omega
theorem B8p{s:Nat}(h:1<=s):∀ k,1<=sgS s k:=by
 intro k
 induction k with
 | zero=>exact h
 | succ k ih=>rw [show sgS s (k+1)=sgS s k+sgS s k from rfl];omega
theorem Wx{d d':Nat->Rat}: ∀ n,(∀ m,m<n->d m=d' m)->Cv d n=Cv d' n:=by
 intro n
 induction n with
 | zero=>exact fun _=>rfl
 | succ n ih=>intro h;rw [Cv,Cv,ih fun m hm=>h m (by omega),h n (by omega)]
theorem Wz{d d':Nat->Rat}: ∀ n,(∀ m,m<n->d m=d' m)->Fa d n=Fa d' n:=by
 intro n
 induction n with
 | zero=>exact fun _=>rfl
 | succ n ih=>intro h;rw [Fa,Fa,ih fun m hm=>h m (by omega),h n (by omega)]
theorem B51(d:Nat->Rat)(k:Nat):∀ j,Cv (fun m=>if m<k then d m else 0) (k+j)=Cv d k:=by
 intro j
 induction j with
 | zero=>exact Wx k fun m hm=>if_pos hm
 | succ j ih=>
  rw [<- Nat.add_assoc,Cv,ih,if_neg (show ¬ k+j<k by omega),if_neg (by decide +kernel),Nat.add_zero]
theorem B53(d:Nat->Rat)(k:Nat):∀ j,Fa (fun m=>if m<k then d m else 0) (k+j)=Fa d k:=by
 intro j
 induction j with
 | zero=>exact Wz k fun m hm=>if_pos hm
 | succ j ih=>
  rw [<- Nat.add_assoc,Fa,ih,if_neg (show ¬ k+j<k by omega),if_neg (by decide +kernel),Nat.add_zero]
def InI(h:Heap)(be:Nat)(T:Tb)(E:Nat->Rat)(q B k:Nat)(d:Nat->Rat)(hp:Heap):Prop:=
 ∃ (g o:Heap) (M:Nat->Nat->Int) (S:Nat->Rat) (R F:Nat->Nat->Rat) (w:IV) (z:Int),h.le g/\El hp g o be T M S q k w z (.slice none 0 0) (.slice none 0 0)/\TE q k R M S z/\PD q k (mtx E q) d F R/\(∀ a b,a<q->b<q->ZB (sgM B B k) (M a b))/\ZB (sgM B B k) z/\∀ a,a<q->Sz (sgS B k) (S a)
section
variable {h:Heap} {K:VP} {A:Option Addr} {n cap m:Nat} {r c:Int} {ls:Nat->List UInt8} {E:Nat->Rat}
theorem A1z(gl:Gl h)(rq:RowV RQr h A (n*n) E)(hcap:n*n<=cap)(hn1:1<=n)(hn:n<=64)(hs:∀ i,i<n*n->Sz m (E i))(hb:bnd n m<=100000000)(sy:Ve n (mtx E n))
 (hK:∀ h' be T,InI h be T E n (bnd n m) 0 (fun _=>0) h'->K (.pointer (some ⟨be,0,none⟩)) h'):FCall prog R7 #[.slice A (n*n) cap,I (n:Int)] h K:=by
 have hnn:n*n<=64*64:=Nat.mul_le_mul hn hn
 have hbe:bnd n m=1+n*m+m:=rfl
 refine Di _ _ _ _ ?_
 unfold Cu
 refine Mh (m:=m) gl rq hcap hn1 (by omega) hn1 (by omega) hs (by omega) ?_
 intro h1 g1 o1 T lg1 t1 er ec
 refine ⟨_,rfl,?_⟩
 refine t1.sep.call (Dr (by decide) (by decide) ?_)
 intro s2 A2 n2 c2 g2 l2 i2 h2 sp2
 have t2:=t1.next sp2 l2
 refine ⟨_,_,_,_,rfl,Uj ?_⟩
 intro be hbe2
 have fr:∀ {hh gg oo:Heap} {k x b},Sep hh gg oo->oo k=some x->hh b=none->k≠b:=by
  rintro hh gg oo k x b s e hb rfl
  rw [s.own k x e] at hb;cases hb
 have off1:¬ onT T be:=by
  obtain ⟨⟨y1,z1⟩,⟨y2,z2⟩,⟨y3,z3⟩⟩:=t2.own
  rintro (rfl|rfl|rfl)
  ·exact fr t2.sep z1 hbe2 rfl
  ·exact fr t2.sep z2 hbe2 rfl
  ·exact fr t2.sep z3 hbe2 rfl
 have s3:=t2.sep.new hbe2 (.cells (Value.agg #[I (n:Int),I (0:Int),.pointer (some ⟨T.bt,0,none⟩),.bool s2,.slice A2 n2 c2,.slice none 0 0,.slice none 0 0]).cells Ff)
 have X3:El _ g2 _ be T (Yl E n) (Sd E n) n 0 ⟨s2,A2,n2,c2⟩ 1 (.slice none 0 0) (.slice none 0 0):=⟨t2.keep s3 (B4 _) (fun k x e _=>by rw [B8 _ _ (fr t2.sep e hbe2)];exact e),er,ec,⟨Ff,C3 _ _ _⟩,off1,i2⟩
 have sr:∀ i,i<n->∀ j,j<n->Sz m (E (i*n+j)):=fun i hi j hj=>hs _ (L0 hi hj)
 exact ⟨_,rfl,hK _ be T ⟨g2,_,_,_,_,_,_,_,B0 lg1 l2,X3,TE.start (fun i j _ hj=>A9i E n i hj) (fun i _=>Lq E n i),PD.start _ sy,fun a b ha hb=>A9h (sr a ha) hb,ZB.one (show 1<=bnd n m by omega),fun a ha=>Yk (sr a ha)⟩⟩
theorem A0b(gl:Gl h)(rv':RowV SSr h A n ls)(hn:n<=1000000)(hl:∀ i,i<n->(ls i).length<=100000000)(hs:∀ i,i<n->Sz m (rv (ls i)))(hb:∀ q,MOk r c n ls q q->sgM (bnd q m) (bnd q m) q<=100000000)
 (hK1:∀ q,B41 r c n ls q->∀ d F,Diag q (mtx (rvs ls) q) d F->∀ h',h.le h'->K (.tuple #[I (Cv d q:Int),I (B3x d q:Int),I (Fa d q:Int),I 0]) h')
 (hK0:∀ e,SqE r c n ls e->∀ h',h.le h'->K (.tuple #[I 0,I 0,I 0,I e]) h'):FCall prog Jl #[Qd r c A n cap] h K:=by
 refine A5l _ _ _ _ _ ?_
 unfold A76
 refine Ph gl rv' hn hl ?_ (fun e he h1 l1=>⟨_,_,_,_,rfl,G9 (fun _=>hK0 e he h1 l1) (fun e0=>by rcases he with ⟨_,x⟩|⟨_,_,x⟩<;>omega)⟩)
 intro q sq b h1 own
 obtain ⟨mk,st⟩:=id sq
 have hbq:=hb q mk
 have:=mk.r1;have:=mk.r2
 obtain ⟨rfl,rfl,_,_,_,_,rfl,hnum⟩:=id mk
 refine ⟨_,_,_,_,rfl,G9 (fun hne=>absurd rfl hne) (fun _=>?_)⟩
 have hb1:1<=bnd q m:=by unfold bnd;omega
 have hb0:bnd q m<=100000000:=C5v (Ys (bnd q m) (bnd q m) q 0 (by omega)) hbq
 refine A1z (m:=m) (gl.mono own.le) (own.vis I7) (C5q _) (by omega) (by omega) hs hb0 st.symm ?_
 intro h2 be T I0
 generalize bnd q m=B at *
 refine ⟨_,rfl,fun L hp=>∃ (k:Nat) (d:Nat->Rat),k<=q/\L=[I (Cv d k:Int),I (Fa d k:Int)]/\Cv d k+Fa d k=k/\InI h1 be T (rvs ls) q B k d hp,fun L _=>q-((iAt L 0).toNat+(iAt L 1).toNat),⟨0,_,by omega,rfl,rfl,I0⟩,?_⟩
 clear I0
 rintro pos neg hp ⟨k,d,hk,eL,hpn,g,o,M,S,R,F,w,z,lg,X,te,pd,hM,hz,hS⟩
 simp only [List.cons.injEq,Value.int.injEq,true_and,and_true] at eL
 obtain ⟨rfl,rfl⟩:=eL
 have l0:=B0 own.le lg
 have hmk:sgM B B k<=sgM B B q:=Ys B B q k hk
 have hsk:=C15 B k
 have hs1:=B8p hb1 k
 refine A1u (m:=sgM B B k) (sc:=sgS B k) X (gl.mono l0) te pd hk (by omega) hM hS hs1 (by omega) ?_ ?_
 ·intro h3 g3 o3 M3 S3 R3 F3 l3 X3 te3 hkq hne pd3 hM3 hS3
  have hmk1:2*(sgM B B k+3*sgS B k+2)+1<=sgM B B q:=Ys B B q (k+1) hkq
  refine ⟨_,rfl,?_⟩
  show Br true _ _
  refine ⟨_,rfl,_,X3.c1,_,rfl,_,X3.c1,?_⟩
  have l03:=B0 l0 l3
  have hsc:=te3.scale k (C5q _) hkq
  refine B27 (m:=sgM B B k+3*sgS B k+2) X3 (gl.mono l03) hkq hkq (hM3 k k hkq hkq) (hz.mono (by omega)) ((hS3 k hkq).mono (by omega)) (Al te3.ne (hM3 k k hkq hkq) (hz.mono (by omega))) (by omega) (by omega) ?_
  intro w4 h4 g4 l4 s4 lh4 i4
  have ev:C5u (M3 k k) z/S3 k=R3 k k:=by
   rw [C5t,te3.val k k (C5q _) hkq hkq,C3t (J5 te3.ne) (by grind)]
  rw [ev] at i4
  refine ⟨_,_,_,_,_,_,_,_,rfl,lh4,?_⟩
  refine Sj (I7 _ _ _ _ s4.le i4) ⟨_,rfl,B4 _,?_⟩
  have X4:=X3.next s4 l4
  have adv:∀ {K':VP},(∀ h',InI h1 be T (rvs ls) q B (k+1) (fun m=>if m=k then R3 k k else d m) h'->K' (.tuple #[]) h')->FCall prog By #[.pointer (some ⟨be,0,none⟩)] h4 K':=by
   intro K' kk
   refine Qn (m:=sgM B B k+3*sgS B k+2) X4 hkq (by omega) te3.ne (fun a b _ ha hb=>hM3 a b ha hb) (hz.mono (by omega)) (by omega) (by omega) ?_
   intro h5 g5 o5 w5 l5 X5 _
   have te5:TE q (k+1) (fun i j=>R3 i j-R3 i k*(R3 k j/R3 k k)) (fun a b=>if k<a then (M3 k k*M3 a b-M3 a k*M3 k b).tdiv z else M3 a b) S3 (M3 k k):=(te3.adv hkq hne).congr (fun _ _ _ _ _=>rfl) (fun i j hi _ _=>by rw [if_pos (show k<i by omega)]) (fun _ _ _=>rfl)
   refine kk h5 ⟨g5,o5,_,S3,_,_,w5,_,B0 lg (B0 l3 (B0 l4 l5)),X5,te5,pd3.adv hkq hne,fun a b ha hb=>?_,(hM3 k k hkq hkq).mono (show _<=2*(sgM B B k+3*sgS B k+2)+1 by omega),fun a ha=>hS3 a ha⟩
   show ZB (2*(sgM B B k+3*sgS B k+2)+1) _
   split
   ·exact (((hM3 k k hkq hkq).mul (hM3 a b ha hb)).sub ((hM3 a k ha hkq).mul (hM3 k b hkq hb))).tdivS.mono (by omega)
   ·exact (hM3 a b ha hb).mono (by omega)
  have e1:Cv (fun m=>if m=k then R3 k k else d m) k=Cv d k:=Wx k fun m hm=>if_neg (by omega)
  have e2:Fa (fun m=>if m=k then R3 k k else d m) k=Fa d k:=Wz k fun m hm=>if_neg (by omega)
  have f1:Cv (fun m=>if m=k then R3 k k else d m) (k+1)=Cv d k+if 0<R3 k k then 1 else 0:=by rw [Cv,e1,if_pos rfl]
  have f2:Fa (fun m=>if m=k then R3 k k else d m) (k+1)=Fa d k+if R3 k k<0 then 1 else 0:=by rw [Fa,e2,if_pos rfl]
  have sgn:0<(R3 k k).num.sign↔0<R3 k k:=by
   have h1:=Si (q:= -(R3 k k))
   rw [Rat.neg_num,Int.sign_neg] at h1
   constructor
   ·intro x;have:=h1.1 (by omega);grind
   ·intro x;have:=h1.2 (by grind);omega
  have ewp:B5 ((Cv d k:Int)+1)=((Cv d k+1:Nat):Int):=by rw [B7]<;>omega
  have ewn:B5 ((Fa d k:Int)+1)=((Fa d k+1:Nat):Int):=by rw [B7]<;>omega
  refine B6 (fun hp'=>?_) (fun hn'=>?_)
  ·have pos:=sgn.1 hp'
   rw [if_pos pos] at f1
   rw [if_neg (by grind)] at f2
   refine adv fun h5 i5=>⟨rfl,⟨k+1,_,hkq,by rw [ewp,f1,f2];rfl,by omega,i5⟩,?_⟩
   rw [ewp]
   show q-(((Cv d k+1:Nat):Int).toNat+((Fa d k:Nat):Int).toNat)<q-(((Cv d k:Nat):Int).toNat+((Fa d k:Nat):Int).toNat)
   omega
  ·have npos': ¬ 0<R3 k k:=fun x=>hn' (sgn.2 x)
   rw [if_neg npos'] at f1
   rw [if_pos (by grind)] at f2
   refine adv fun h5 i5=>⟨rfl,⟨k+1,_,hkq,by rw [ewn,f1,f2];rfl,by omega,i5⟩,?_⟩
   rw [ewn]
   show q-(((Cv d k:Nat):Int).toNat+((Fa d k+1:Nat):Int).toNat)<q-(((Cv d k:Nat):Int).toNat+((Fa d k:Nat):Int).toNat)
   omega
 ·intro hz0
  refine ⟨_,rfl,?_⟩
  show Br false _ _
  have D:=pd.done hk hz0
  have c1:=B51 d k (q-k)
  have c2:=B53 d k (q-k)
  rw [show k+(q-k)=q by omega] at c1 c2
  have c3:=C1b (fun m=>if m<k then d m else 0) q
  have res:=hK1 q sq _ _ D hp (B0 l0 X.t.sep.le)
  rw [c1,c2,show B3x (fun m=>if m<k then d m else 0) q=q-Cv d k-Fa d k by omega] at res
  rw [show B5 ((q:Int)-(Cv d k:Int))=((q-Cv d k:Nat):Int) by rw [B7]<;>omega,show B5 (((q-Cv d k:Nat):Int)-(Fa d k:Int))=((q-Cv d k-Fa d k:Nat):Int) by rw [B7]<;>omega]
  exact res
end
end Go.Proofs.YtajkakhfcokljaaGreatDoor
namespace Go.Proofs.YtajkakhfcokljaaGreatDoor
set_option maxRecDepth 20000
theorem B0i{d:Nat->Rat}: ∀ n,(∀ m,m<n->0<=d m)->Fa d n=0:=by
 intro n
 induction n with
 | zero=>exact fun _=>rfl
 | succ n ih=>
  intro h
  rw [Fa,ih fun m hm=>h m (by omega),if_neg]
  have:=h n (by omega)
  grind
theorem C16{q m:Nat}(hq:q<=4)(hm:m=294\/m=18861):sgM (bnd q m) (bnd q m) q<=100000000:=by
 have key:∀ q,q<5->sgM (bnd q 294) (bnd q 294) q<=100000000/\sgM (bnd q 18861) (bnd q 18861) q<=100000000:=by
  unfold bnd
  decide
 rcases hm with rfl|rfl
 ·exact (key q (by omega)).1
 ·exact (key q (by omega)).2
theorem SqE.not{r c:Int}{n q:Nat}{ls:Nat->List UInt8}{e:Int}(sq:B41 r c n ls q)(x:SqE r c n ls e):False:=by
 rcases x with ⟨x,_⟩|⟨_,x,_⟩
 ·exact x ⟨_,_,sq.1⟩
 ·exact x ⟨_,sq⟩
section
variable {h:Heap} {lA cA tA:Option Addr} {ln lc cn cc tn tc:Nat} {ls cs ts:Nat->List UInt8}
end
def C5f(r c:Int)(n:Nat)(ls:Nat->List UInt8)(r2 c2:Int)(n2:Nat)(ls2:Nat->List UInt8)(dn:Nat)(ds:Nat->List UInt8):Prop:=
 ∃ q,ExpK r2 c2 n2 ls2 dn ds q/\r=q/\c=q/\n=q*q/\(∀ t,t<q*q->Ef (C0n q (mtx (rvs ls2) q) (rvs ds)) q t=ls t)/\∀ i,i<dn->0<=rv (ds i)
theorem C14{q:Rat}(h:0<=q):q.num.sign=if 0<q then 1 else 0:=by
 by_cases c:0<q
 ·rw [if_pos c]
  have h1:=(Si (q:= -q)).2 (by grind)
  rw [Rat.neg_num,Int.sign_neg] at h1
  rcases Int.lt_trichotomy q.num 0 with x|x|x
  ·rw [Int.sign_eq_neg_one_of_neg x] at h1;omega
  ·rw [x] at h1;exact absurd h1 (by decide)
  ·exact Int.sign_eq_one_of_pos x
 ·rw [if_neg c,show q=0 by grind]
  rfl
theorem Zc(A:Nat->Nat->Rat){q a t:Nat}(ht:t<q):mtx (Ow A q q) q a t=ldL A a t:=by
 obtain ⟨d1,d2⟩:=Ai (n:=q) (i:=a) ht
 show Ow A q q (a*q+t)=_
 unfold Ow
 rw [d1,d2,if_pos ht]
theorem C1g{A:Nat->Nat->Rat}{q:Nat}(hs:Ve q A)(ok:∀ k,k<q->Js A q k){i j:Nat}(hi:i<q)(hj:j<q):C0n q (mtx (Ow A q q) q) (Rv A q) i j=A i j:=by
 have e:=B6u hs q (C5q q) ok i j hi hj
 rw [Fm hs q (C5q q) ok i j hi hj (.inl hi),Rat.add_zero] at e
 rw [e]
 refine C9 fun t ht=>?_
 rw [Zc _ ht,Zc _ ht]
 unfold Rv
 rw [if_pos ht]
section
variable {h:Heap} {K:VP} {A B A2 lA cA:Option Addr} {n n2 dn cap cap2 cap3 m d ln lc cn cc:Nat} {r c r2 c2:Int} {ls ls2 ds cs:Nat->List UInt8}
theorem A4j(x:RowV SSr h A n ls)(y:RowV SSr h B n2 ls2)(hn:n<=1000000000)(hK1:n=n2->(∀ i,i<n->ls i=ls2 i)->K (.bool true) h)(hK0:¬ (n=n2/\∀ i,i<n->ls i=ls2 i)->K (.bool false) h):FCall prog Zz #[.slice A n cap,.slice B n2 cap2] h K:=by
 refine B3f _ _ _ _ _ _ ?_
 unfold B7x
 refine G9 (fun e=>hK0 fun hx=>e (by omega)) (fun e=>?_)
 obtain rfl:n=n2:=by omega
 refine ⟨fun L hp=>∃ i:Nat,i<=n/\L=[I (i:Int)]/\hp=h/\∀ j,j<i->ls j=ls2 j,fun L _=>n-(iAt L 0).toNat,⟨0,by omega,rfl,rfl,fun j hj=>by omega⟩,?_⟩
 rintro z hp ⟨i,hi,eL,rfl,hh⟩
 obtain rfl:=sI1 eL
 refine B6 (fun hlt=>?_) (fun hge=>hK1 rfl fun j hj=>hh j (by omega))
 have hin:i<n:=by omega
 obtain ⟨u,eu,hu⟩:=x.sat hin
 obtain ⟨v,ev,hv⟩:=y.sat hin
 refine ⟨u,eu,by omega,by omega,_,hu,v,ev,by omega,by omega,_,hv,?_⟩
 rw [Jy]
 refine Br.not (B6 (fun e=>?_) (fun e=>hK0 fun hx=>e (hx.2 i hin)))
 rw [wiS i (by omega)]
 refine ⟨⟨i+1,by omega,rfl,rfl,fun j hj=>?_⟩,by simp only [Dm];omega⟩
 by_cases c:j=i
 ·rw [c];exact e
 ·exact hh j (by omega)
theorem A4w(gl:Gl h)(rm:RowV SSr h A n ls)(rl:RowV SSr h A2 n2 ls2)(rd:RowV SSr h B dn ds)(hn2:n2<=1000000)(hdn:dn<=1000000)(hl2:∀ i,i<n2->(ls2 i).length<=100000000)(hld:∀ i,i<dn->(ds i).length<=100000000)(hs:∀ i,i<n2->Sz m (rv (ls2 i)))(hs2:∀ i,i<dn->Sz m (rv (ds i)))(hm1:1<=m)(hd:∀ q,MOk r2 c2 n2 ls2 q q->q<=d)(hm:2*(1+d*(4*m+1)+4*m)+14<=40000000)
 (hK1:C5f r c n ls r2 c2 n2 ls2 dn ds->∀ h',h.le h'->K (.bool true) h') (hK0:¬ C5f r c n ls r2 c2 n2 ls2 dn ds->∀ h',h.le h'->K (.bool false) h'):FCall prog A04 #[Qd r c A n cap,.agg #[I r2,I c2,.slice A2 n2 cap2,.slice B dn cap3]] h K:=by
 refine B3q _ _ _ _ _ _ _ _ _ _ _ _ _ ?_
 unfold B84
 refine Qm (m:=m) (d:=d) gl rl rd hn2 hdn hl2 hld hs hs2 hm1 hd hm ?_
 intro o ho A5 c5 h5 l5 r5
 have hon:=ho.n_le
 refine ⟨_,_,_,_,_,_,rfl,?_⟩
 rcases ho with ⟨x,rfl⟩|⟨_,x,rfl⟩|⟨q,x,rfl⟩
 ·exact G9 (fun _=>hK0 (fun ⟨q,y,_⟩=>x ⟨⟨_,_,y.mok⟩,y.num⟩) h5 l5) (fun e=>absurd e (by decide))
 ·exact G9 (fun _=>hK0 (fun ⟨q,y,_⟩=>x ⟨q,y⟩) h5 l5) (fun e=>absurd e (by decide))
 have no:¬ (r=q/\c=q/\n=q*q/\(∀ t,t<q*q->Ef (C0n q (mtx (rvs ls2) q) (rvs ds)) q t=ls t)/\∀ i,i<dn->0<=rv (ds i))->K (.bool false) h5:=fun hx=>hK0 (fun ⟨q',y,z⟩=>by obtain rfl:=x.uniq y;exact hx z) h5 l5
 refine G9 (fun e=>absurd rfl e) (fun _=>?_)
 refine G9 (fun e=>no fun z=>e z.1.symm) (fun er=>?_)
 refine G9 (fun e=>no fun z=>e z.2.1.symm) (fun ec=>?_)
 refine A4j r5 (rm.mono P7 l5) (by omega) (fun en ht=>⟨_,rfl,Br.nt ?_⟩) (fun hno=>⟨_,rfl,A3j (no fun z=>hno ⟨z.2.2.1.symm,z.2.2.2.1⟩)⟩)
 refine ⟨fun L hp=>∃ i:Nat,i<=dn/\L=[I (i:Int)]/\hp=h5/\∀ j,j<i->0<=rv (ds j),fun L _=>dn-(iAt L 0).toNat,⟨0,by omega,rfl,rfl,fun j hj=>by omega⟩,?_⟩
 rintro z hp ⟨i,hi,eL,rfl,hh⟩
 obtain rfl:=sI1 eL
 refine B6 (fun hlt=>?_) (fun hge=>hK1 ⟨q,x,er.symm,ec.symm,en.symm,ht,fun j hj=>hh j (by omega)⟩ hp l5)
 have hin:i<dn:=by omega
 obtain ⟨u,eu,hu⟩:=(rd.mono P7 l5).sat hin
 refine ⟨u,eu,by omega,by omega,_,hu,Oj (gl.mono l5) (hld i hin) ⟨_,rfl,B6 (fun e=>no fun z=>?_) (fun e=>?_)⟩⟩
 ·have h1:=z.2.2.2.2 i hin
  have h2:=Si.1 e
  grind
 rw [wiS i (by omega)]
 refine ⟨⟨i+1,by omega,rfl,rfl,fun j hj=>?_⟩,by simp only [Dm];omega⟩
 by_cases c:j=i
 ·rw [c]
  have h2:¬ rv (ds i)<0:=fun x=>e (Si.2 x)
  grind
 ·exact hh j (by omega)
theorem law_ldlRoundTrip{n:Int}(gl:Gl h)(rl:RowV SSr h lA ln ls)(rc:RowV SSr h cA cn cs):FCall prog Hx #[.slice lA ln lc,I n,.slice cA cn cc] h (C4c h):=by
 refine Rh _ _ _ _ _ _ _ ?_
 unfold Ob
 have aw:∀ h',h.le h'->FCall prog Jh #[] h' (fun r hp=>∃ t,r= .bool t/\C4c h (.bool t) hp):=fun h' l=>A53 (gl.mono l) fun h'' l''=>⟨_,rfl,rfl,B0 l l''⟩
 refine A4k rl rc (fun hln hcn hl hc=>⟨_,rfl,Br.no ?_⟩) ⟨_,rfl,Oc (aw h (B4 _))⟩
 refine Sw rl rc hl hc ?_
 intro q hq1 hq4 A1 c1 h1 l1 _ r1
 refine ⟨_,_,_,_,_,rfl,?_⟩
 have hqq:q*q<=4*4:=Nat.mul_le_mul hq4 hq4
 have ms:∀ i j,i<q->j<q->Sz 294 (A7e ls ln cs cn q i j):=fun i j _ _=>A9n hl hc hq4 i j
 have gs:∀ i,i<q*q->Sz 294 (rv (Ef (A7e ls ln cs cn q) q i)):=B5a hq1 ms
 have gn:∀ i,i<q*q->(Ef (A7e ls ln cs cn q) q i).length<=100000000:=fun i hi=>C5v (B15 hq1 ms i hi) (by omega)
 have sq:=C0y ls ln cs cn (q:=q) hq1 (by omega)
 generalize Ef (A7e ls ln cs cn q) q=S at *
 have uq:∀ {f:Nat->List UInt8} {q a b:Nat},MOk (q:Int) (q:Int) (q*q) f a b->a=q/\b=q:=fun mk=>by have:=mk.er;have:=mk.ec;omega
 have hb:∀ a,MOk (q:Int) (q:Int) (q*q) S a a->3^a*bnd a 294+bnd a 294<=121000:=fun a mk=>by rw [(uq mk).1];exact A9l hq4
 have hW:∀ a k,MOk (q:Int) (q:Int) (q*q) S a a->k<a->2^k*A3u a k 121000<=6000000:=fun a k mk hk=>B8i (by have:=uq mk;omega) hk
 have ew:∀ {h3:Heap} {K:VP},h1.le h3->((¬ ∀ k,k<q->Js (mtx (rvs S) q) q k)->∀ v,qf q (mtx (rvs S) q) v<0->∀ A c n h',h3.le h'->K (.tuple #[.slice A n c,.bool true,I 0]) h')->((∀ k,k<q->Js (mtx (rvs S) q) q k)->∀ h',h3.le h'->K (.tuple #[.slice none 0 0,.bool false,I 0]) h')->FCall prog Jk #[Qd q q A1 (q*q) c1] h3 K:=fun {h3 K} l k1 k0=>A09 (Q:=121000) (W:=6000000) (gl.mono (B0 l1 l)) (r1.mono P7 l) (by omega) gn gs hb hW (by omega) (fun a' sq' hno v b h' l' _ _ neg=>by obtain rfl:q=a':=(uq sq'.1).1.symm;exact k1 hno v neg _ _ _ h' l') (fun a' sq' ok h' l'=>by obtain rfl:q=a':=(uq sq'.1).1.symm;exact k0 ok h' l') (fun e he=>(he.not sq).elim)
 have ei:∀ {h3:Heap} {K:VP},h1.le h3->(∀ d F,Diag q (mtx (rvs S) q) d F->∀ h',h3.le h'->K (.tuple #[I (Cv d q:Int),I (B3x d q:Int),I (Fa d q:Int),I 0]) h')->FCall prog Jl #[Qd q q A1 (q*q) c1] h3 K:=fun {h3 K} l k1=>A0b (m:=294) (gl.mono (B0 l1 l)) (r1.mono P7 l) (by omega) gn gs (fun a mk=>by rw [(uq mk).1];exact C16 hq4 (.inl rfl)) (fun a' sq' d F D h' l'=>by obtain rfl:q=a':=(uq sq'.1).1.symm;exact k1 d F D h' l') (fun e he=>(he.not sq).elim)
 have es:∀ d,B5 (B5 ((Cv d q:Int)+(B3x d q:Int))+(Fa d q:Int))=(q:Int):=fun d=>by
  have:=C1b d q
  rw [B7 (n:=(Cv d q:Int)+(B3x d q:Int)) (by omega) (by omega),B7]<;>omega
 refine Ic (Q:=121000) (gl.mono l1) r1 (by omega) gn gs hb (by omega) ?_ ?_ (fun e he=>(he.not sq).elim)
 rotate_left
 ·
  intro a' sq' hno h3 l3
  obtain rfl:q=a':=(uq sq'.1).1.symm
  refine ⟨_,_,_,_,_,_,_,_,_,_,rfl,?_⟩
  refine ew l3 (fun _ v neg A4 c4 n4 h4 l4=>⟨_,_,_,_,_,rfl,?_⟩) (fun ok=>absurd ok hno)
  have l34:=B0 l3 l4
  refine ei l34 fun d F D h5 l5=>⟨_,_,_,_,rfl,?_⟩
  have hne:=D.nneg_pos neg
  have e0:((Fa d q:Int)==0)=false:=beq_eq_false_iff_ne.2 (by omega)
  rw [e0,es d]
  refine G9 (fun e=>absurd rfl e) (fun _=>G9 (fun e=>absurd rfl e) (fun _=>G9 (fun e=>absurd rfl e) (fun _=>Br.no (Br.no ?_))))
  exact G9 (fun e=>absurd rfl e) (fun _=>A3j (aw h5 (B0 l1 (B0 l34 l5))))
 intro a' sq' ok b1 b2 h3 l3 fv
 obtain rfl:q=a':=(uq sq'.1).1.symm
 refine ⟨_,_,_,_,_,_,_,_,_,_,rfl,?_⟩
 refine ew l3 (fun hno=>absurd ok hno) (fun _ h4 l4=>⟨_,_,_,_,_,rfl,?_⟩)
 have l34:=B0 l3 l4
 refine ei l34 fun d F D h5 l5=>⟨_,_,_,_,rfl,?_⟩
 have l35:=B0 l4 l5
 have l15:=B0 l3 l35
 have E:=D.same (B95 sq.2.symm ok)
 have dn0:∀ i,i<q->0<=ldD (mtx (rvs S) q) i:=fun i hi=>(ok i hi).1
 have e0:((Fa d q:Int)==0)=true:=beq_iff_eq.2 (by rw [E.2.2,B0i q dn0];rfl)
 rw [e0,es d]
 refine G9 (fun e=>absurd rfl e) (fun _=>G9 (fun e=>absurd rfl e) (fun _=>G9 (fun e=>absurd rfl e) (fun _=>Br.no (Br.no ?_))))
 refine G9 (fun e=>absurd rfl e) (fun _=>Br.nt ?_)
 have F:=fun k (hk:k<=q)=>ldF (m:=294) gs (A9l hq4) sq.2.symm hk fun m hm=>ok m (by omega)
 have zl:∀ t,t<q*q->Sz 242000 (Ow (mtx (rvs S) q) q q t):=fun t ht=>by
  unfold Ow
  have hm:t%q<q:=Nat.mod_lt _ (by omega)
  rw [if_pos hm]
  exact B0w (F _ (by omega)) hm (by omega) (Nat.div_lt_of_lt_mul ht)
 have zd:∀ t,t<q->Sz 242000 (Rv (mtx (rvs S) q) q t):=fun t ht=>by
  unfold Rv ldD
  rw [if_pos ht]
  exact ((F t (by omega)).zA t t (C5q _) ht ht).mono (by omega)
 obtain ⟨fl,fd⟩:=fv
 generalize hLT:(fun t=>K3 (Ow (mtx (rvs S) q) q q t))=LT at fl
 generalize hDT:(fun t=>K3 (Rv (mtx (rvs S) q) q t))=DT at fd
 have eL:rvs LT=Ow (mtx (rvs S) q) q q:=by rw [<- hLT];exact funext fun t=>Gn _
 have eD:rvs DT=Rv (mtx (rvs S) q) q:=by rw [<- hDT];exact funext fun t=>Gn _
 have zl': ∀ t,t<q*q->Sz 242000 (rv (LT t)):=fun t ht=>by have:=zl t ht;rw [<- eL] at this;exact this
 have zd': ∀ t,t<q->Sz 242000 (rv (DT t)):=fun t ht=>by have:=zd t ht;rw [<- eD] at this;exact this
 have nl:∀ t,t<q*q->(LT t).length<=100000000:=fun t ht=>by rw [<- hLT];exact C5v (Ri (zl t ht)) (by omega)
 have nd:∀ t,t<q->(DT t).length<=100000000:=fun t ht=>by rw [<- hDT];exact C5v (Ri (zd t ht)) (by omega)
 have x:ExpK (q:Int) (q:Int) (q*q) LT q DT q:=⟨⟨rfl,rfl,hq1,by omega,hq1,by omega,rfl,fun _ _=>by rw [<- hLT];exact ⟨_,rfl⟩⟩,fun _ _=>by rw [<- hDT];exact ⟨_,rfl⟩,rfl,fun i hi=>by
  rw [eL]
  exact ⟨by rw [Zc _ hi];exact Zf _ _,fun j h1 h2=>by rw [Zc _ h2];exact Tc h1⟩⟩
 have ent:∀ t,t<q*q->Ef (C0n q (mtx (rvs LT) q) (rvs DT)) q t=S t:=fun t ht=>by
  unfold Ef
  rw [eL,eD,C1g sq.2.symm ok (Nat.div_lt_of_lt_mul ht) (Nat.mod_lt t (by omega))]
  obtain ⟨y,hy⟩:=sq.1.num t ht
  show K3 (rv (S (t/q*q+t%q)))=S t
  rw [Nat.div_add_mod',hy,Gn]
 have dv:∀ k,k<q->rv (DT k)=ldD (mtx (rvs S) q) k:=fun k hk=>by
  show rvs DT k=_
  rw [eD]
  unfold Rv
  rw [if_pos hk]
 have uq4:∀ a,MOk (q:Int) (q:Int) (q*q) LT a a->a<=4:=fun a mk=>by have:=uq mk;omega
 have l05:=B0 l1 l15
 refine Qm (m:=242000) (d:=4) (gl.mono l05) (fl.mono P7 l35) (fd.mono P7 l35) (by omega) (by omega) nl nd zl' zd' (by omega) uq4 (by omega) ?_
 intro o ho A7 c7 h7 l7 r7
 obtain rfl:=ho.eq (.inr (.inr ⟨q,x,rfl⟩))
 refine ⟨_,_,_,_,_,_,rfl,?_⟩
 have l37:=B0 l35 l7
 have l07:=B0 l05 l7
 refine ⟨fun L hp=>∃ k:Nat,k<=q/\L=[I (Cv (ldD (mtx (rvs S) q)) k:Int),I (k:Int)]/\hp=h7,fun L _=>q-(iAt L 1).toNat,⟨0,by omega,rfl,rfl⟩,?_⟩
 rintro z1 z2 hp ⟨k,hk,eL2,rfl⟩
 simp only [List.cons.injEq,Value.int.injEq,true_and,and_true] at eL2
 obtain ⟨rfl,rfl⟩:=eL2
 refine B6 (fun hlt=>?_) (fun hge=>?_)
 ·have hkq:k<q:=by omega
  obtain ⟨u,eu,hu⟩:=(fd.mono P7 l37).sat hkq
  have d0:=dn0 k hkq
  refine ⟨u,eu,by omega,by omega,_,hu,Oj (gl.mono l07) (nd k hkq) ⟨_,rfl,B6 (fun e=>?_) (fun _=>⟨u,eu,by omega,by omega,_,hu,Oj (gl.mono l07) (nd k hkq) ⟨_,rfl,?_⟩⟩)⟩⟩
  ·exfalso
   rw [dv k hkq] at e
   have:=Si.1 e
   grind
  ·have hn:=C1b (ldD (mtx (rvs S) q)) k
   have ep:B5 ((Cv (ldD (mtx (rvs S) q)) k:Int)+(rv (DT k)).num.sign)=((Cv (ldD (mtx (rvs S) q)) (k+1):Nat):Int):=by
    rw [dv k hkq,C14 d0,Cv]
    split<;>rw [B7]<;>omega
   rw [ep,wiS k (by omega)]
   refine ⟨⟨k+1,by omega,rfl,rfl⟩,?_⟩
   show q-((k+1:Nat):Int).toNat<q-((k:Nat):Int).toNat
   omega
 ·have ek:k=q:=by omega
  refine E5 (fun _=>?_) (fun e=>absurd rfl e)
  refine Vr r7 (r1.mono P7 (B0 l15 l7)) (show q*q<=1000000000 by omega) (fun _ _ _ _=>⟨_,rfl,Oc ?_⟩) (fun hno=>absurd ⟨rfl,rfl,rfl,ent⟩ hno)
  refine A4w (m:=242000) (d:=4) (gl.mono l07) (r1.mono P7 (B0 l15 l7)) (fl.mono P7 l37) (fd.mono P7 l37) (by omega) (by omega) nl nd zl' zd' (by omega) uq4 (by omega) (fun _ h8 l8=>⟨_,rfl,Oc ?_⟩) (fun hno=>absurd ⟨q,x,rfl,rfl,rfl,ent,fun i hi=>by rw [dv i hi];exact dn0 i hi⟩ hno)
  exact E5 (fun _=>aw h8 (B0 l07 l8)) (fun e=>absurd (by rw [ek,E.1]) e)
end
end Go.Proofs.YtajkakhfcokljaaGreatDoor
namespace Go.Proofs.YtajkakhfcokljaaGreatDoor
set_option maxRecDepth 20000
open Go Go.RowKit
theorem C21(s:ByteArray):bs s.data.toList=s:=by
 cases s;simp [bs]
theorem open_strV{H:Type}{enc:TypeId × Value->H}{P:Program}{W:World}{base:Nat}{sp:Nat->Bool}{held:Bool}{t e:TypeId}{fuel:Nat}{A:Option Addr}{len cap:Nat}{x:DataW H × List MemPlace}(ht:P.underlying t=some (.slice e))(he:P.underlying e=some .string)(hc:P.cellsOf e=1)
 (hf:DataW.trod enc P W base sp held fuel t [.slice A len cap]=some x):∃ ls:Nat->List UInt8,RowV SSr (memOf W) A len ls/\len<=maxLen:=by
 rcases Deep.open_strs ht he hc hf with ⟨hcs,_⟩|⟨a,l,c,m,Sx,hcs,_,hl,hm,hmm,_,hcell⟩
 ·simp at hcs
  obtain ⟨rfl,rfl,rfl⟩:=hcs
  exact ⟨fun _=>[],RowV.nil,Nat.zero_le _⟩
 ·simp at hcs
  obtain ⟨rfl,rfl,rfl⟩:=hcs
  have hlm:len<=m:=by rw [hmm];split<;>omega
  have sl:SlV (memOf W) (some a) (((List.range len).map fun i=>(Sx i).data.toList).map fun l=>Value.string (bs l)):=by
   refine .inr ⟨a,rfl,fun i v hv=>?_⟩
   rw [List.getElem?_map,List.getElem?_map] at hv
   by_cases hi:i<len
   ·rw [List.getElem?_range hi] at hv
    simp only [Option.map_some,Option.some.injEq,C21] at hv
    rw [<- hv]
    exact Ov (hcell i (by omega)).1
   ·rw [List.getElem?_eq_none (by simpa using hi)] at hv;cases hv
  have:=Hi sl
  rw [List.length_map,List.length_range] at this
  exact ⟨_,this,by omega⟩
end Go.Proofs.YtajkakhfcokljaaGreatDoor
