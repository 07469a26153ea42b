/-
  Texts of this proof, merged by a program of ours.
-/
import Derived.Test.YtajkakhfcokljaaGreatDoorG33
import Derived.Test.YtajkakhfcokljaaGreatDoorG35
import Derived.Test.YtajkakhfcokljaaGreatDoorG34
import Derived.Test.YtajkakhfcokljaaGreatDoorG22
import Derived.Test.YtajkakhfcokljaaGreatDoorG30
import Derived.Deep.Strs
open Go.Proofs.Tryz
open Int renaming gcd->C6e,lcm->C6g,tmod->C6l
open List.cons renaming injEq->C6o
open Nat renaming le_refl->C6d,zero_add->C6f,mul_le_mul->C6h,lt_succ_self->C6k
open Rat renaming divInt_eq_div->C6i,divInt->C6j,intCast_mul->C6n
open _root_.Go.Value.int renaming injEq->C6m
namespace Go.Proofs.YtajkakhfcokljaaGreatDoor
set_option maxRecDepth 20000
open Go
theorem So(x:Rat):x*(x.den:Rat)=(x.num:Rat):=by
 have h:=(Rat.num_divInt_den x).symm
 rw [C6i] at h
 have h2:(((x.den:Nat):Int):Rat)=(x.den:Rat):=rfl
 have h3:(((x.den:Nat):Int):Rat)≠0:=J4 (by have:=x.den_nz;omega)
 rw [h2] at h h3
 generalize (x.den:Rat)=d at *
 generalize (x.num:Rat)=n at *
 rw [h]
 grind
theorem B1h{x y:Rat}(hx:0<x)(hy:0<y){s:Rat}(hs:s=C6j (C6g x.num y.num) (C6e (x.den:Int) (y.den:Int))):0<s/\s=((s/x).num:Rat)*x/\s=((s/y).num:Rat)*y:=by
 have np:∀ z:Rat,0<z->0<z.num:=fun z hz=>by
  have h1:(0:Rat)<(z.den:Rat):=by exact_mod_cast z.den_pos
  have h2:=Rat.mul_pos hz h1
  rw [So] at h2
  exact_mod_cast h2
 have hxn:=np x hx
 have hyn:=np y hy
 have hxd:=x.den_pos
 have hyd:=y.den_pos
 have hG:0<C6e (x.den:Int) (y.den:Int):=Nat.gcd_pos_of_pos_left _ (by omega)
 have hL:0<C6g x.num y.num:=Nat.lcm_pos (by omega) (by omega)
 have hs':s*((C6e (x.den:Int) (y.den:Int):Nat):Int)=((C6g x.num y.num:Nat):Int):=by
  rw [hs,C6i]
  have:(((C6e (x.den:Int) (y.den:Int):Nat):Int):Rat)≠0:=J4 (by omega)
  grind
 have key:∀ z:Rat,0<z->z.num∣((C6g x.num y.num:Nat):Int)->((C6e (x.den:Int) (y.den:Int):Nat):Int)∣(z.den:Int)->s=((s/z).num:Rat)*z:=by
  intro z hz ⟨a,ha⟩ ⟨b,hb⟩
  have hzn:z*(z.den:Rat)=(z.num:Rat):=So z
  have hGr:(((C6e (x.den:Int) (y.den:Int):Nat):Int):Rat)≠0:=J4 (by omega)
  have hbr:(z.den:Rat)=((((C6e (x.den:Int) (y.den:Int):Nat):Int):Rat))*(b:Rat):=by
   rw [<- C6n,<- hb];rfl
  have har:((((C6g x.num y.num:Nat):Int)):Rat)=(z.num:Rat)*(a:Rat):=by rw [<- C6n,<- ha]
  have e:s=((a*b:Int):Rat)*z:=by
   rw [C6n]
   rw [har] at hs'
   generalize ((((C6e (x.den:Int) (y.den:Int):Nat):Int):Rat))=G at *
   rw [hbr] at hzn
   have:s*G=((a:Rat)*b*z)*G:=by rw [hs',<- hzn];grind
   grind
  have e2:s/z=((a*b:Int):Rat):=by
   have:z≠0:=by grind
   rw [e];grind
  rw [e2,Rat.num_intCast,<- e]
 have hsp:0<s:=by
  have h1:(0:Rat)<((((C6e (x.den:Int) (y.den:Int):Nat):Int)):Rat):=by exact_mod_cast (by omega:(0:Int)<((C6e (x.den:Int) (y.den:Int):Nat):Int))
  have h2:(0:Rat)<((((C6g x.num y.num:Nat):Int)):Rat):=by exact_mod_cast (by omega:(0:Int)<((C6g x.num y.num:Nat):Int))
  rw [<- hs'] at h2
  refine Classical.byContradiction fun hno=>?_
  have h3:s<=0:=by grind
  have h4:=Rat.mul_nonneg (show 0 <= -s by grind) (show (0:Rat)<=_ from (by grind:(0:Rat)<=((((C6e (x.den:Int) (y.den:Int):Nat):Int)):Rat)))
  grind
 exact ⟨hsp,key x hx (Int.dvd_lcm_left ..) (Int.gcd_dvd_left ..),key y hy (Int.dvd_lcm_right ..) (Int.gcd_dvd_right ..)⟩
theorem C0n{m:Nat}{x y:Int}(hx:ZB m x)(hy:ZB m y):ZB (m+m) ((C6g x y:Nat):Int):=by
 refine (hx.mul hy).le ?_
 rw [Int.natAbs_natCast,Int.natAbs_mul]
 exact Nat.div_le_self _ _
theorem Yi(i a:Nat):xch i i a=a:=by
 unfold xch
 by_cases e:a=i
 ·rw [if_pos e,e]
 ·rw [if_neg e,if_neg e]
section
variable {h g o:Heap} {be:Nat} {T:Tb} {M:Nat->Nat->Int} {S:Nat->Rat} {n k m sc:Nat} {w:IV} {z:Int} {L D:Value} {K:VP}
theorem Iz{w:QV}{q:Rat}(i:RQ h w q)(hK:K (.agg #[.bool w.s,.slice w.A w.n w.c]) h):FCall prog Xd #[w.v] h K:=by
 refine C0u _ _ _ _ _ _ _ _ ?_
 unfold C5o
 exact hK
theorem A45(t:Tab h g o T M S)(gl:Gl g){i l:Nat}(hi:i<T.rows)(hl:l<T.rows)(hil:i≠l)(pi:0<S i)(pl:0<S l)(zi:Sz sc (S i))(zl:Sz sc (S l))(hM:∀ a b,a<T.rows->b<T.cols->ZB m (M a b))(hs1:1<=sc)(hm:m+3*sc+1<=6400000000)
 (hK:∀ h' g' o' (x y:Int) (q:Rat),g.le g'->0<q->q=x*S i->q=y*S l->Sz (sc+sc) q->ZB (3*sc) x->ZB (3*sc) y->Tab h' g' o' T (fun a b=>if a=i then M i b*x+M l b*y else M a b) (fun a=>if a=i then q else S a)->(∀ b,b≠T.bE->b≠T.bS->o' b=o b)->K (.tuple #[]) h'):FCall prog A6w #[.pointer (some ⟨T.bt,0,none⟩),I (i:Int),I (l:Int)] h K:=by
 refine B4k _ _ _ ?_
 unfold B91
 obtain ⟨wx,ix,a0,a1,a2,a3⟩:=t.sat hi
 obtain ⟨wy,iy,b0,b1,b2,b3⟩:=t.sat hl
 have sp:=t.sep
 refine ⟨_,rfl,_,_,_,t.c2,_,rfl,by omega,by omega,_,_,_,_,_,_,_,_,a0,a1,a2,a3,_,rfl,_,_,_,t.c2,_,rfl,by omega,by omega,_,_,_,_,_,_,_,_,b0,b1,b2,b3,?_⟩
 refine Iz (I7 _ _ _ _ sp.le ix) ⟨_,_,_,_,rfl,B5 _,?_⟩
 refine Iz (I7 _ _ _ _ sp.le iy) ⟨_,_,_,_,rfl,B5 _,?_⟩
 refine sp.call (A16 (m:=sc) gl.tz ix.num iy.num zi.num zl.num (by omega) ?_)
 intro A2 n2 c2 g2 l2 i2 h2 s2
 refine ⟨_,_,_,_,rfl,sp.le_le s2 l2,?_⟩
 refine s2.call (Ef (I7 _ _ _ _ l2 ix) ?_)
 intro x3 A3 n3 c3 g3 l3 i3 h3 s3
 refine ⟨_,_,_,_,rfl,s2.le_le s3 l3,?_⟩
 have l03:=B0 l2 l3
 refine s3.call (Ef (I7 _ _ _ _ l03 iy) ?_)
 intro x4 A4 n4 c4 g4 l4 i4 h4 s4
 refine ⟨_,_,_,_,rfl,s3.le_le s4 l4,?_⟩
 have l04:=B0 l03 l4
 refine s4.call (Ak (m:=sc) (gl.mono l04).tz (i3.mono l4) i4 zi.den zl.den (by omega) ?_)
 intro A5 n5 c5 g5 l5 i5 h5 s5
 refine ⟨_,_,_,_,rfl,s4.le_le s5 l5,?_⟩
 have l05:=B0 l04 l5
 have hden:((S i).den:Int)≠0:=by have:=(S i).den_nz;omega
 have hden2:((S l).den:Int)≠0:=by have:=(S l).den_nz;omega
 have hg0:(C6e ((S i).den:Int) ((S l).den:Int):Int)≠0:=by
  have:0<C6e ((S i).den:Int) ((S l).den:Int):=Int.gcd_pos_of_ne_zero_left _ hden
  omega
 have zlc:=C0n zi.num zl.num
 have zg:ZB (sc+sc) (C6e ((S i).den:Int) ((S l).den:Int):Int):=(ZB.gcd hden2 zl.den).mono (by omega)
 refine s5.call (S6 (m:=sc+sc) (gl.mono l05).tz (i2.mono (B0 l3 (B0 l4 l5))) i5 zlc zg (by omega) ?_)
 intro w6 g6 l6 i6 h6 s6
 refine ⟨_,_,_,_,_,_,_,_,rfl,s5.le_le s6 l6,?_⟩
 have l06:=B0 l05 l6
 have zq:Sz (sc+sc) (C6j (C6g (S i).num (S l).num) (C6e ((S i).den:Int) ((S l).den:Int))):=T8 hg0 zlc zg
 obtain ⟨hq,ex,ey⟩:=B1h pi pl (s:=C6j (C6g (S i).num (S l).num) (C6e ((S i).den:Int) ((S l).den:Int))) rfl
 generalize C6j (C6g (S i).num (S l).num) (C6e ((S i).den:Int) ((S l).den:Int))=q at *
 refine s6.call (Ja (m:=sc+sc) (gl.mono l06).tz i6 (I7 _ _ _ _ l06 ix) zq (zi.mono (by omega)) (by omega) (by omega) ?_)
 intro w7 g7 l7 i7 h7 s7
 refine ⟨_,_,_,_,_,_,_,_,rfl,s6.le_le s7 l7,?_⟩
 refine Iz (I7 _ _ _ _ s7.le i7) ⟨_,_,_,_,rfl,B5 _,?_⟩
 have l07:=B0 l06 l7
 refine s7.call (Ja (m:=sc+sc) (gl.mono l07).tz (I7 _ _ _ _ l7 i6) (I7 _ _ _ _ l07 iy) zq (zl.mono (by omega)) (by omega) (by omega) ?_)
 intro w8 g8 l8 i8 h8 s8
 refine ⟨_,_,_,_,_,_,_,_,rfl,s7.le_le s8 l8,?_⟩
 refine Iz (I7 _ _ _ _ s8.le i8) ⟨_,_,_,_,rfl,B5 _,?_⟩
 have l08:=B0 l07 l8
 have zx:ZB (3*sc) (q/S i).num:=(zq.div zi hs1).num.mono (by omega)
 have zy:ZB (3*sc) (q/S l).num:=(zq.div zl hs1).num.mono (by omega)
 have ixn:=i7.num.mono l8
 have iyn:=i8.num
 have iq:=I7 _ _ _ _ (B0 l7 l8) i6
 generalize (q/S i).num=x at *
 generalize (q/S l).num=y at *
 have t8:=t.next s8 l08
 clear i7 i8 i6 i5 i4 i3 i2
 refine N8 t8 hi ⟨_,_,_,rfl,N8 t8 hl ⟨_,_,_,rfl,?_⟩⟩
 refine ⟨fun L hp=>∃ (c:Nat) (g' o':Heap),c<=T.cols/\L=[I (c:Int)]/\g8.le g'/\Tab hp g' o' T (fun a b=>if a=i/\b<c then M i b*x+M l b*y else M a b) S/\∀ b,b≠T.bE->o' b=o b,fun L _=>T.cols-(iAt L 0).toNat,⟨0,g8,o,by omega,rfl,B5 _,t8.congr (fun a b _ _=>by rw [if_neg (by omega)]) (fun _ _=>rfl),fun _ _=>rfl⟩,?_⟩
 rintro z1 hp ⟨c,g9,o9,hc,eL,l9,t9,ko⟩
 obtain rfl:=sI1 eL
 have hsm:=t.small
 refine B8 (fun hlt=>?_) (fun hge=>?_)
 ·have hcn:c<T.cols:=by omega
  obtain ⟨u,iu,u0,u1⟩:=t9.at hl hcn
  obtain ⟨v,iv,v0,v1⟩:=t9.at hi hcn
  rw [if_neg (by omega)] at iu iv
  refine ⟨_,rfl,by omega,by omega,_,_,_,_,u0,u1,_,rfl,by omega,by omega,_,_,_,_,v0,v1,?_⟩
  refine t9.sep.call (M0 (m:=m+3*sc) iv (ixn.mono l9) ((hM i c hi hcn).mono (by omega)) (zx.mono (by omega)) (by omega) ?_)
  intro x10 A10 n10 c10 g10 l10 i10 h10 s10
  refine ⟨_,_,_,_,rfl,t9.sep.le_le s10 l10,?_⟩
  refine s10.call (M0 (m:=m+3*sc) (iu.mono l10) (iyn.mono (B0 l9 l10)) ((hM l c hl hcn).mono (by omega)) (zy.mono (by omega)) (by omega) ?_)
  intro x11 A11 n11 c11 g11 l11 i11 h11 s11
  refine ⟨_,_,_,_,rfl,s10.le_le s11 l11,?_⟩
  refine s11.call (Dz (m:=m+3*sc) (i10.mono l11) i11 ((hM i c hi hcn).mul zx) ((hM l c hl hcn).mul zy) (by omega) ?_)
  intro x12 A12 n12 c12 g12 l12 i12 h12 s12
  have t12:=((t9.next s10 l10).next s11 l11).next s12 l12
  refine ⟨_,_,_,_,rfl,s11.le_le s12 l12,_,rfl,by omega,by omega,?_⟩
  refine t12.store hi hcn (w:=⟨x12,A12,n12,c12⟩) i12 ?_
  intro h13 o13 t13 ko13
  rw [wiS c (by omega)]
  refine ⟨⟨c+1,g12,o13,by omega,rfl,B0 l9 (B0 l10 (B0 l11 l12)),t13.congr (fun a b _ _=>?_) (fun _ _=>rfl),fun b hb=>by rw [ko13 b hb];exact ko b hb⟩,by simp only [Dy];omega⟩
  unfold C1j
  try dsimp only
  by_cases e:a=i/\b=c
  ·rw [if_pos e,if_pos (by omega),e.2]
  ·rw [if_neg e]
   by_cases e2:a=i/\b<c
   ·rw [if_pos e2,if_pos (by omega)]
   ·rw [if_neg e2,if_neg (by omega)]
 ·have ec:c=T.cols:=by omega
  refine ⟨_,rfl,_,_,_,t9.c2,_,rfl,by omega,by omega,?_⟩
  refine t9.sstore hi (w:=w6) (I7 _ _ _ _ l9 iq) ?_
  intro h10 o10 t10 ko10
  refine hK h10 g9 o10 x y q (B0 l08 l9) hq ex ey zq zx zy (t10.congr (fun a b _ hb=>?_) (fun _ _=>rfl)) (fun b hb1 hb2=>by rw [ko10 b hb2];exact ko b hb1)
  by_cases e:a=i
  ·rw [if_pos ⟨e,by omega⟩,if_pos e]
  ·rw [if_neg (fun x=>e x.1),if_neg e]
theorem El.tab(X:El h g o be T M S n k w z L D){h' g' o':Heap}{M':Nat->Nat->Int}{S':Nat->Rat}(t:Tab h' g' o' T M' S')(lg:g.le g')(ko:∀ b,¬ onT T b->o' b=o b):El h' g' o' be T M' S' n k w z L D:=by
 obtain ⟨e,he⟩:=X.hd
 exact ⟨t,X.rows,X.cols,⟨e,by rw [ko _ X.off];exact he⟩,X.off,Fo _ _ _ _ lg X.last⟩
theorem Nj(X:El h g o be T M S n k w z L D){i l:Nat}(hi:i<n)(hl:l<n)(hn:n<=10000)
 (hK:∀ h' o',El h' g o' be T (fun a b=>M (xch i l a) (xch i l b)) (fun a=>S (xch i l a)) n k w z L D->(∀ b,¬ onT T b->o' b=o b)->K (.tuple #[]) h'):FCall prog Gb #[.pointer (some ⟨be,0,none⟩),I (i:Int),I (l:Int)] h K:=by
 refine A3n _ _ _ ?_
 unfold A3o
 have er:=X.rows
 have ec:=X.cols
 refine E9 (fun e=>?_) (fun e=>?_)
 ·obtain rfl:i=l:=by omega
  exact hK h o (X.tab (X.t.congr (fun a b _ _=>by rw [Yi,Yi]) (fun a _=>by rw [Yi])) (B5 _) fun _ _=>rfl) (fun _ _=>rfl)
 refine ⟨_,rfl,_,X.c2,?_⟩
 refine A1j X.t (by omega) (by omega) (by omega) ?_
 intro h1 o1 t1 ko1
 have X1:=X.tab t1 (B5 _) fun b hb=>ko1 b (fun e=>hb (.inr (.inl e))) (fun e=>hb (.inr (.inr e)))
 refine ⟨rfl,_,rfl,_,X1.c0,?_⟩
 refine ⟨fun L' hp=>∃ (r:Nat) (o2:Heap),r<=n/\L'=[I (r:Int)]/\El hp g o2 be T (fun a b=>if a<r then M (xch i l a) (xch i l b) else M (xch i l a) b) (fun a=>S (xch i l a)) n k w z L D/\∀ b,¬ onT T b->o2 b=o b,fun L' _=>n-(iAt L' 0).toNat,⟨0,o1,by omega,rfl,X1.tab (t1.congr (fun a b _ _=>by rw [if_neg (by omega)]) (fun _ _=>rfl)) (B5 _) (fun _ _=>rfl),fun b hb=>ko1 b (fun e=>hb (.inr (.inl e))) (fun e=>hb (.inr (.inr e)))⟩,?_⟩
 clear X1 t1 ko1
 rintro y hp ⟨r,o2,hr,eL,X2,ko2⟩
 obtain rfl:=sI1 eL
 refine B8 (fun hlt=>?_) (fun hge=>?_)
 ·have hrn:r<n:=by omega
  obtain ⟨u,iu,u0,u1⟩:=X2.t.at (i:=r) (j:=l) (by omega) (by omega)
  obtain ⟨v,iv,v0,v1⟩:=X2.t.at (i:=r) (j:=i) (by omega) (by omega)
  rw [if_neg (Nat.lt_irrefl r)] at iu iv
  refine ⟨_,rfl,_,X2.c2,N8 X2.t (by omega) ⟨_,_,_,rfl,_,rfl,by omega,by omega,_,_,_,_,u0,u1,_,rfl,by omega,by omega,_,_,_,_,v0,v1,_,rfl,by omega,by omega,?_⟩⟩
  refine X2.t.store (i:=r) (j:=i) (by omega) (by omega) (w:=u) iu ?_
  intro h3 o3 t3 ko3
  refine ⟨_,rfl,by omega,by omega,?_⟩
  refine t3.store (i:=r) (j:=l) (by omega) (by omega) (w:=v) iv ?_
  intro h4 o4 t4 ko4
  have ko5:∀ b,¬ onT T b->o4 b=o2 b:=fun b hb=>by rw [ko4 b (fun e=>hb (.inr (.inl e))),ko3 b (fun e=>hb (.inr (.inl e)))]
  rw [wiS r (by omega)]
  refine ⟨⟨r+1,o4,by omega,rfl,X2.tab (t4.congr (fun a b _ _=>?_) (fun _ _=>rfl)) (B5 _) ko5,fun b hb=>by rw [ko5 b hb];exact ko2 b hb⟩,by simp only [Dy];omega⟩
  unfold C1j
  try dsimp only
  by_cases c1:a=r
  ·subst c1
   by_cases c2:b=l
   ·rw [if_pos ⟨rfl,c2⟩,if_pos (C6k a),c2]
    have:xch i l l=i:=by unfold xch;rw [if_neg (by omega),if_pos rfl]
    rw [this]
   ·rw [if_neg (fun x=>c2 x.2)]
    by_cases c3:b=i
    ·rw [if_pos ⟨rfl,c3⟩,if_pos (C6k a),c3,Dd]
    ·rw [if_neg (fun x=>c3 x.2),if_neg (Nat.lt_irrefl a),if_pos (C6k a)]
     have:xch i l b=b:=by unfold xch;rw [if_neg c3,if_neg c2]
     rw [this]
  ·rw [if_neg (fun x=>c1 x.1),if_neg (fun x=>c1 x.1)]
   by_cases c2:a<r
   ·rw [if_pos c2,if_pos (by omega)]
   ·rw [if_neg c2,if_neg (by omega)]
 ·exact hK hp o2 (X2.tab (X2.t.congr (fun a b ha _=>by rw [if_pos (by omega)]) (fun _ _=>rfl)) (B5 _) fun _ _=>rfl) ko2
theorem A1x{R A0 F:Nat->Nat->Rat}{d:Nat->Rat}(X:El h g o be T M S n k w z L D)(gl:Gl g)(te:TE n k R M S z)(pd:PD n k A0 d F R)(hk:k<=n)(hn:n<=10000)(hM:∀ a b,a<n->b<n->ZB m (M a b))(hS:∀ a,a<n->Sz sc (S a))(hs1:1<=sc)(hb:m+3*sc+2<=6400000000)
 (hK1:∀ h' g' o' M' S' R' F',g.le g'->El h' g' o' be T M' S' n k w z L D->TE n k R' M' S' z->k<n->R' k k≠0->PD n k A0 d F' R'->(∀ a b,a<n->b<n->ZB (m+3*sc+2) (M' a b))->(∀ a,a<n->Sz (sc+sc) (S' a))->K (.bool true) h')
 (hK0:(∀ i j,i<n->j<n->R i j=0)->K (.bool false) h):FCall prog Pd #[.pointer (some ⟨be,0,none⟩)] h K:=by
 refine A5o _ ?_
 unfold A7m
 have er:=X.rows
 have ec:=X.cols
 refine ⟨_,rfl,_,X.c1,?_⟩
 refine ⟨fun L' hp=>∃ i:Nat,k<=i/\i<=n/\L'=[I (i:Int)]/\hp=h/\∀ j,k<=j->j<i->R j j=0,fun L' _=>n-(iAt L' 0).toNat,⟨k,C6d _,hk,rfl,rfl,fun j _ _=>by omega⟩,?_⟩
 rintro y hp ⟨i,hi1,hi2,eL,rfl,hz⟩
 obtain rfl:=sI1 eL
 refine ⟨_,rfl,_,X.c0,B8 (fun hlt=>?_) (fun hge=>?_)⟩
 ·have hin:i<n:=by omega
  obtain ⟨u,iu,u0,u1⟩:=X.t.at (i:=i) (j:=i) (by omega) (by omega)
  refine ⟨_,rfl,_,X.c2,N8 X.t (by omega) ⟨_,_,_,rfl,_,rfl,by omega,by omega,_,_,_,_,u0,u1,?_⟩⟩
  refine F7 (iu.mono X.t.sep.le) ⟨_,rfl,Br.not (B8 (fun e=>?_) (fun e=>?_))⟩
  ·rw [wiS i (by omega)]
   refine ⟨⟨i+1,by omega,by omega,rfl,rfl,fun j a b=>?_⟩,by simp only [Dy];omega⟩
   by_cases c:j=i
   ·rw [c];exact (te.zero hi1 hin hin).1 e
   ·exact hz j a (by omega)
  ·refine ⟨_,rfl,_,X.c1,Nj X (by omega) hin hn ?_⟩
   intro h1 o1 X1 ko1
   have hkn:k<n:=by omega
   refine ⟨rfl,hK1 h1 g o1 _ _ _ _ (B5 _) X1 (te.swap hi1 hin) hkn ?_ (pd.swap hkn hin (C6d _) hi1) (fun a b ha hb=>(hM _ _ (Al hkn hin ha) (Al hkn hin hb)).mono (by omega)) (fun a ha=>(hS _ (Al hkn hin ha)).mono (by omega))⟩
   show R (xch k i k) (xch k i k)≠0
   rw [Dd]
   exact fun x=>e ((te.zero hi1 hin hin).2 x)
 have ein:i=n:=by omega
 subst ein
 have diag:∀ j,k<=j->j<i->R j j=0:=hz
 refine ⟨_,rfl,_,X.c1,?_⟩
 refine ⟨fun L' hx=>∃ a:Nat,k<=a/\a<=i/\L'=[I (a:Int)]/\hx=hp/\∀ b c,k<=b->b<a->b<c->c<i->R b c=0,fun L' _=>i-(iAt L' 0).toNat,⟨k,C6d _,hk,rfl,rfl,fun b c _ _=>by omega⟩,?_⟩
 rintro y1 hx ⟨a,ha1,ha2,eL1,rfl,hza⟩
 obtain rfl:=sI1 eL1
 refine ⟨_,rfl,_,X.c0,B8 (fun hlt1=>?_) (fun hge1=>?_)⟩
 rotate_left
 ·have eai:a=i:=by omega
  subst eai
  refine hK0 fun b c hb hc=>?_
  by_cases c1:b<k
  ·exact pd.zero b c hb hc (.inl c1)
  ·by_cases c2:c<k
   ·exact pd.zero b c hb hc (.inr c2)
   ·rcases Nat.lt_trichotomy b c with c3|c3|c3
    ·exact hza b c (by omega) hb c3 hc
    ·rw [c3];exact diag c (by omega) hc
    ·rw [pd.symm b c hb hc];exact hza c b (by omega) hc c3 hb
 have hai:a<i:=by omega
 have ew:∀ {j:Nat},j<i->B7 ((j:Int)+1)=((j+1:Nat):Int):=fun {j} hj=>by rw [B9]<;>omega
 rw [ew hai]
 refine ⟨fun L' hy=>∃ b:Nat,a<b/\b<=i/\L'=[I (b:Int)]/\hy=hx/\∀ c,a<c->c<b->R a c=0,fun L' _=>i-(iAt L' 0).toNat,⟨a+1,by omega,by omega,rfl,rfl,fun c _ _=>by omega⟩,?_⟩
 rintro y2 hy ⟨b,hb1,hb2,eL2,rfl,hzb⟩
 obtain rfl:=sI1 eL2
 refine ⟨_,rfl,_,X.c0,B8 (fun hlt2=>?_) (fun hge2=>?_)⟩
 rotate_left
 ·have ebi:b=i:=by omega
  subst ebi
  refine ⟨⟨a+1,by omega,by omega,rfl,rfl,fun b' c h1 h2 h3 h4=>?_⟩,by simp only [Dy];omega⟩
  by_cases e:b'=a
  ·rw [e];exact hzb c (by omega) h4
  ·exact hza b' c h1 (by omega) h3 h4
 have hbi:b<i:=by omega
 rw [ew hbi]
 obtain ⟨u,iu,u0,u1⟩:=X.t.at (i:=a) (j:=b) (by omega) (by omega)
 refine ⟨_,rfl,_,X.c2,N8 X.t (by omega) ⟨_,_,_,rfl,_,rfl,by omega,by omega,_,_,_,_,u0,u1,?_⟩⟩
 refine F7 (iu.mono X.t.sep.le) ⟨_,rfl,B8 (fun e=>?_) (fun e=>?_)⟩
 ·refine ⟨⟨b+1,by omega,by omega,rfl,rfl,fun c h1 h2=>?_⟩,by simp only [Dy];omega⟩
  by_cases e2:c=b
  ·rw [e2];exact (te.zero ha1 hai hbi).1 e
  ·exact hzb c h1 (by omega)
 have hne:R a b≠0:=fun x=>e ((te.zero ha1 hai hbi).2 x)
 refine ⟨_,rfl,_,X.c2,?_⟩
 refine A45 (m:=m) (sc:=sc) X.t gl (i:=a) (l:=b) (by omega) (by omega) (by omega) (te.scale a ha1 hai) (te.scale b (by omega) hbi) (hS a hai) (hS b hbi) (fun c1 c2 h1 h2=>hM c1 c2 (by omega) (by omega)) hs1 (by omega) ?_
 intro h1 g1 o1 x y q l1 hq ex ey zq zx zy t1 ko1
 have X1:=X.tab t1 l1 fun c hc=>ko1 c (fun e=>hc (.inr (.inl e))) (fun e=>hc (.inr (.inr e)))
 have te1:=te.addRow ha1 hai (show k<=b by omega) hbi hq ex ey
 have te2:=te1.addCol ha1 hai (show k<=b by omega) hbi
 have pd2:=pd.merge hai hbi ha1 (by omega) (by omega)
 have hM1:∀ c1 c2,c1<i->c2<i->ZB (m+3*sc+1) (if c1=a then M a c2*x+M b c2*y else M c1 c2):=fun c1 c2 h1 h2=>by
  split
  ·exact ((hM a c2 hai h2).mul zx).add ((hM b c2 hbi h2).mul zy)
  ·exact (hM c1 c2 h1 h2).mono (by omega)
 have hS1:∀ c,c<i->Sz (sc+sc) (if c=a then q else S c):=fun c hc=>by
  split
  ·exact zq
  ·exact (hS c hc).mono (by omega)
 generalize hM1e:(fun c1 c2=>if c1=a then M a c2*x+M b c2*y else M c1 c2)=M1 at *
 generalize hS1e:(fun c=>if c=a then q else S c)=S1 at *
 have te3:TE i k (Jv a b R) (fun c1 c2=>if c2=a then M1 c1 a+M1 c1 b else M1 c1 c2) S1 z:=by
  rw [<- hM1e];exact te2
 have hM1': ∀ c1 c2,c1<i->c2<i->ZB (m+3*sc+1) (M1 c1 c2):=fun c1 c2 h1 h2=>by rw [<- hM1e];exact hM1 c1 c2 h1 h2
 have hS1': ∀ c,c<i->Sz (sc+sc) (S1 c):=fun c hc=>by rw [<- hS1e];exact hS1 c hc
 refine ⟨rfl,_,rfl,_,X1.c0,?_⟩
 refine ⟨fun L' hv=>∃ (r:Nat) (g2 o2:Heap),r<=i/\L'=[I (r:Int)]/\g1.le g2/\El hv g2 o2 be T (fun c1 c2=>if c1<r/\c2=a then M1 c1 a+M1 c1 b else M1 c1 c2) S1 i k w z L D,fun L' _=>i-(iAt L' 0).toNat,⟨0,g1,o1,by omega,rfl,B5 _,X1.tab (t1.congr (fun c1 c2 _ _=>by rw [if_neg (by omega)]) (fun _ _=>rfl)) (B5 _) fun _ _=>rfl⟩,?_⟩
 rintro y3 hv ⟨r,g2,o2,hr,eL3,l2,X2⟩
 obtain rfl:=sI1 eL3
 refine B8 (fun hlt3=>?_) (fun hge3=>?_)
 ·have hri:r<i:=by omega
  obtain ⟨p,ip,p0,p1⟩:=X2.t.at (i:=r) (j:=a) (by omega) (by omega)
  obtain ⟨v,iv,v0,v1⟩:=X2.t.at (i:=r) (j:=b) (by omega) (by omega)
  rw [if_neg (by omega)] at ip iv
  refine ⟨_,rfl,_,X2.c2,N8 X2.t (by omega) ⟨_,_,_,rfl,_,rfl,by omega,by omega,_,_,_,_,p0,p1,_,rfl,by omega,by omega,_,_,_,_,v0,v1,?_⟩⟩
  refine X2.t.sep.call (Dz (m:=m+3*sc+1) ip iv (hM1' r a hri hai) (hM1' r b hri hbi) (by omega) ?_)
  intro x3 A3 n3 c3 g3 l3 i3 h3 s3
  refine ⟨_,_,_,_,rfl,X2.t.sep.le_le s3 l3,_,rfl,by omega,by omega,?_⟩
  refine (X2.t.next s3 l3).store (i:=r) (j:=a) (by omega) (by omega) (w:=⟨x3,A3,n3,c3⟩) i3 ?_
  intro h4 o4 t4 ko4
  rw [ew hri]
  refine ⟨⟨r+1,g3,o4,by omega,rfl,B0 l2 l3,(X2.next s3 l3).tab (t4.congr (fun c1 c2 _ _=>?_) (fun _ _=>rfl)) (B5 _) fun c hc=>ko4 c (fun e=>hc (.inr (.inl e)))⟩,by simp only [Dy];omega⟩
  unfold C1j
  try dsimp only
  by_cases e1:c1=r/\c2=a
  ·rw [if_pos e1,if_pos (by omega),e1.1]
  ·rw [if_neg e1]
   by_cases e2:c1<r/\c2=a
   ·rw [if_pos e2,if_pos (by omega)]
   ·rw [if_neg e2,if_neg (by omega)]
 ·have eri:r=i:=by omega
  subst eri
  have X3:El hv g2 o2 be T (fun c1 c2=>if c2=a then M1 c1 a+M1 c1 b else M1 c1 c2) S1 r k w z L D:=X2.tab (X2.t.congr (fun c1 c2 h1 _=>by
   by_cases e1:c2=a
   ·rw [if_pos ⟨by omega,e1⟩,if_pos e1]
   ·rw [if_neg (fun x=>e1 x.2),if_neg e1]) (fun _ _=>rfl)) (B5 _) fun _ _=>rfl
  have hkn:k<r:=by omega
  refine ⟨_,rfl,_,X3.c1,Nj X3 hkn hai hn ?_⟩
  intro h5 o5 X5 ko5
  have zM2:∀ c1 c2,c1<r->c2<r->ZB (m+3*sc+2) (if c2=a then M1 c1 a+M1 c1 b else M1 c1 c2):=fun c1 c2 h1 h2=>by
   split
   ·exact (hM1' c1 a h1 hai).add (hM1' c1 b h1 hbi)
   ·exact (hM1' c1 c2 h1 h2).mono (by omega)
  refine ⟨rfl,hK1 h5 g2 o5 _ _ _ _ (B0 l1 l2) X5 (te3.swap ha1 hai) hkn ?_ (pd2.swap hkn hai (C6d _) ha1) (fun c1 c2 h1 h2=>zM2 _ _ (Al hkn hai h1) (Al hkn hai h2)) (fun c hc=>hS1' _ (Al hkn hai hc))⟩
  show Jv a b R (xch k a k) (xch k a k)≠0
  rw [Dd]
  unfold Jv
  rw [if_pos rfl,if_pos rfl,if_pos rfl,diag a ha1 hai,diag b (by omega) hbi,pd.symm b a hbi hai]
  intro x
  exact hne (by grind)
end
def sgS(s:Nat):Nat->Nat
 | 0=>s
 | k+1=>sgS s k+sgS s k
def sgM(m s:Nat):Nat->Nat
 | 0=>m
 | k+1=>2*(sgM m s k+3*sgS s k+2)+1
theorem Yr(m s:Nat):∀ n k,k<=n->sgM m s k<=sgM m s n:=by
 intro n
 induction n with
 | zero=>intro k h;rw [show k=0 by omega];exact C6d _
 | succ n ih=>
  intro k h
  by_cases c:k=n+1
  ·rw [c];exact C6d _
  ·have:=ih k (by omega)
   rw [show sgM m s (n+1)=2*(sgM m s n+3*sgS s n+2)+1 from rfl]
   omega
theorem C1w(s:Nat):∀ k,sgS s k<=sgM s s k:=by
 intro k
 induction k with
 | zero=>exact C6d _
 | succ k ih=>
  rw [show sgM s s (k+1)=2*(sgM s s k+3*sgS s k+2)+1 from rfl,show sgS s (k+1)=sgS s k+sgS s k from rfl]
  omega
theorem B9g{s:Nat}(h:1<=s):∀ k,1<=sgS s k:=by
 intro k
 induction k with
 | zero=>exact h
 | succ k ih=>rw [show sgS s (k+1)=sgS s k+sgS s k from rfl];omega
theorem Wy{d d':Nat->Rat}: ∀ n,(∀ m,m<n->d m=d' m)->Ch d n=Ch d' n:=by
 intro n
 induction n with
 | zero=>exact fun _=>rfl
 | succ n ih=>intro h;rw [Ch,Ch,ih fun m hm=>h m (by omega),h n (by omega)]
theorem Xa{d d':Nat->Rat}: ∀ n,(∀ m,m<n->d m=d' m)->Jc d n=Jc d' n:=by
 intro n
 induction n with
 | zero=>exact fun _=>rfl
 | succ n ih=>intro h;rw [Jc,Jc,ih fun m hm=>h m (by omega),h n (by omega)]
theorem B5r(d:Nat->Rat)(k:Nat):∀ j,Ch (fun m=>if m<k then d m else 0) (k+j)=Ch d k:=by
 intro j
 induction j with
 | zero=>exact Wy k fun m hm=>if_pos hm
 | succ j ih=>
  rw [<- Nat.add_assoc,Ch,ih,if_neg (show ¬ k+j<k by omega),if_neg (by decide +kernel),Nat.add_zero]
theorem B5t(d:Nat->Rat)(k:Nat):∀ j,Jc (fun m=>if m<k then d m else 0) (k+j)=Jc d k:=by
 intro j
 induction j with
 | zero=>exact Xa k fun m hm=>if_pos hm
 | succ j ih=>
  rw [<- Nat.add_assoc,Jc,ih,if_neg (show ¬ k+j<k by omega),if_neg (by decide +kernel),Nat.add_zero]
def InI(h:Heap)(be:Nat)(T:Tb)(E:Nat->Rat)(q B k:Nat)(d:Nat->Rat)(hp:Heap):Prop:=
 ∃ (g o:Heap) (M:Nat->Nat->Int) (S:Nat->Rat) (R F:Nat->Nat->Rat) (w:IV) (z:Int),h.le g/\El hp g o be T M S q k w z (.slice none 0 0) (.slice none 0 0)/\TE q k R M S z/\PD q k (mtx E q) d F R/\(∀ a b,a<q->b<q->ZB (sgM B B k) (M a b))/\ZB (sgM B B k) z/\∀ a,a<q->Sz (sgS B k) (S a)
section
variable {h:Heap} {K:VP} {A:Option Addr} {n cap m:Nat} {r c:Int} {ls:Nat->List UInt8} {E:Nat->Rat}
theorem A22(gl:Gl h)(rq:RowV RQr h A (n*n) E)(hcap:n*n<=cap)(hn1:1<=n)(hn:n<=64)(hs:∀ i,i<n*n->Sz m (E i))(hb:bnd n m<=100000000)(sy:A13 n (mtx E n))
 (hK:∀ h' be T,InI h be T E n (bnd n m) 0 (fun _=>0) h'->K (.pointer (some ⟨be,0,none⟩)) h'):FCall prog S9 #[.slice A (n*n) cap,I (n:Int)] h K:=by
 have hnn:n*n<=64*64:=C6h hn hn
 have hbe:bnd n m=1+n*m+m:=rfl
 refine Do _ _ _ _ ?_
 unfold Db
 refine Fn (m:=m) gl rq hcap hn1 (by omega) hn1 (by omega) hs (by omega) ?_
 intro h1 g1 o1 T lg1 t1 er ec
 refine ⟨_,rfl,?_⟩
 refine t1.sep.call (Cm (by decide) (by decide) ?_)
 intro s2 A2 n2 c2 g2 l2 i2 h2 sp2
 have t2:=t1.next sp2 l2
 refine ⟨_,_,_,_,rfl,Ul ?_⟩
 intro be hbe2
 have fr:∀ {hh gg oo:Heap} {k x b},Sep hh gg oo->oo k=some x->hh b=none->k≠b:=by
  rintro hh gg oo k x b s e hb rfl
  rw [s.own k x e] at hb;cases hb
 have off1:¬ onT T be:=by
  obtain ⟨⟨y1,z1⟩,⟨y2,z2⟩,⟨y3,z3⟩⟩:=t2.own
  rintro (rfl|rfl|rfl)
  ·exact fr t2.sep z1 hbe2 rfl
  ·exact fr t2.sep z2 hbe2 rfl
  ·exact fr t2.sep z3 hbe2 rfl
 have s3:=t2.sep.new hbe2 (.cells (Value.agg #[I (n:Int),I (0:Int),.pointer (some ⟨T.bt,0,none⟩),.bool s2,.slice A2 n2 c2,.slice none 0 0,.slice none 0 0]).cells Fh)
 have X3:El _ g2 _ be T (Yn E n) (Si E n) n 0 ⟨s2,A2,n2,c2⟩ 1 (.slice none 0 0) (.slice none 0 0):=⟨t2.keep s3 (B5 _) (fun k x e _=>by rw [C0 _ _ (fr t2.sep e hbe2)];exact e),er,ec,⟨Fh,C6 _ _ _⟩,off1,i2⟩
 have sr:∀ i,i<n->∀ j,j<n->Sz m (E (i*n+j)):=fun i hi j hj=>hs _ (P7 hi hj)
 exact ⟨_,rfl,hK _ be T ⟨g2,_,_,_,_,_,_,_,B0 lg1 l2,X3,TE.start (fun i j _ hj=>B09 E n i hj) (fun i _=>Ll E n i),PD.start _ sy,fun a b ha hb=>B08 (sr a ha) hb,ZB.one (show 1<=bnd n m by omega),fun a ha=>Ym (sr a ha)⟩⟩
theorem Gi(gl:Gl h)(rv':RowV SSr h A n ls)(hn:n<=1000000)(hl:∀ i,i<n->(ls i).length<=100000000)(hs:∀ i,i<n->Sz m (rv (ls i)))(hb:∀ q,MOk r c n ls q q->sgM (bnd q m) (bnd q m) q<=100000000)
 (hK1:∀ q,B3j r c n ls q->∀ d F,Diag q (mtx (rvs ls) q) d F->∀ h',h.le h'->K (.tuple #[I (Ch d q:Int),I (B4o d q:Int),I (Jc d q:Int),I 0]) h')
 (hK0:∀ e,SqE r c n ls e->∀ h',h.le h'->K (.tuple #[I 0,I 0,I 0,I e]) h'):FCall prog En #[Oc r c A n cap] h K:=by
 refine A5r _ _ _ _ _ ?_
 unfold A7p
 refine Pg gl rv' hn hl ?_ (fun e he h1 l1=>⟨_,_,_,_,rfl,K5 (fun _=>hK0 e he h1 l1) (fun e0=>by rcases he with ⟨_,x⟩|⟨_,_,x⟩<;>omega)⟩)
 intro q sq b h1 own
 obtain ⟨mk,st⟩:=id sq
 have hbq:=hb q mk
 have:=mk.r1;have:=mk.r2
 obtain ⟨rfl,rfl,_,_,_,_,rfl,hnum⟩:=id mk
 refine ⟨_,_,_,_,rfl,K5 (fun hne=>absurd rfl hne) (fun _=>?_)⟩
 have hb1:1<=bnd q m:=by unfold bnd;omega
 have hb0:bnd q m<=100000000:=Nat.le_trans (Yr (bnd q m) (bnd q m) q 0 (by omega)) hbq
 refine A22 (m:=m) (gl.mono own.le) (own.vis I7) (C6d _) (by omega) (by omega) hs hb0 st.symm ?_
 intro h2 be T I0
 generalize bnd q m=B at *
 refine ⟨_,rfl,fun L hp=>∃ (k:Nat) (d:Nat->Rat),k<=q/\L=[I (Ch d k:Int),I (Jc d k:Int)]/\Ch d k+Jc d k=k/\InI h1 be T (rvs ls) q B k d hp,fun L _=>q-((iAt L 0).toNat+(iAt L 1).toNat),⟨0,_,by omega,rfl,rfl,I0⟩,?_⟩
 clear I0
 rintro pos neg hp ⟨k,d,hk,eL,hpn,g,o,M,S,R,F,w,z,lg,X,te,pd,hM,hz,hS⟩
 simp only [C6o,C6m,true_and,and_true] at eL
 obtain ⟨rfl,rfl⟩:=eL
 have l0:=B0 own.le lg
 have hmk:sgM B B k<=sgM B B q:=Yr B B q k hk
 have hsk:=C1w B k
 have hs1:=B9g hb1 k
 refine A1x (m:=sgM B B k) (sc:=sgS B k) X (gl.mono l0) te pd hk (by omega) hM hS hs1 (by omega) ?_ ?_
 ·intro h3 g3 o3 M3 S3 R3 F3 l3 X3 te3 hkq hne pd3 hM3 hS3
  have hmk1:2*(sgM B B k+3*sgS B k+2)+1<=sgM B B q:=Yr B B q (k+1) hkq
  refine ⟨_,rfl,?_⟩
  show Br true _ _
  refine ⟨_,rfl,_,X3.c1,_,rfl,_,X3.c1,?_⟩
  have l03:=B0 l0 l3
  have hsc:=te3.scale k (C6d _) hkq
  refine B2y (m:=sgM B B k+3*sgS B k+2) X3 (gl.mono l03) hkq hkq (hM3 k k hkq hkq) (hz.mono (by omega)) ((hS3 k hkq).mono (by omega)) (T8 te3.ne (hM3 k k hkq hkq) (hz.mono (by omega))) (by omega) (by omega) ?_
  intro w4 h4 g4 l4 s4 lh4 i4
  have ev:C6j (M3 k k) z/S3 k=R3 k k:=by
   rw [C6i,te3.val k k (C6d _) hkq hkq,C4j (J4 te3.ne) (by grind)]
  rw [ev] at i4
  refine ⟨_,_,_,_,_,_,_,_,rfl,lh4,?_⟩
  refine Sm (I7 _ _ _ _ s4.le i4) ⟨_,rfl,B5 _,?_⟩
  have X4:=X3.next s4 l4
  have adv:∀ {K':VP},(∀ h',InI h1 be T (rvs ls) q B (k+1) (fun m=>if m=k then R3 k k else d m) h'->K' (.tuple #[]) h')->FCall prog Ci #[.pointer (some ⟨be,0,none⟩)] h4 K':=by
   intro K' kk
   refine Qp (m:=sgM B B k+3*sgS B k+2) X4 hkq (by omega) te3.ne (fun a b _ ha hb=>hM3 a b ha hb) (hz.mono (by omega)) (by omega) (by omega) ?_
   intro h5 g5 o5 w5 l5 X5 _
   have te5:TE q (k+1) (fun i j=>R3 i j-R3 i k*(R3 k j/R3 k k)) (fun a b=>if k<a then (M3 k k*M3 a b-M3 a k*M3 k b).tdiv z else M3 a b) S3 (M3 k k):=(te3.adv hkq hne).congr (fun _ _ _ _ _=>rfl) (fun i j hi _ _=>by rw [if_pos (show k<i by omega)]) (fun _ _ _=>rfl)
   refine kk h5 ⟨g5,o5,_,S3,_,_,w5,_,B0 lg (B0 l3 (B0 l4 l5)),X5,te5,pd3.adv hkq hne,fun a b ha hb=>?_,(hM3 k k hkq hkq).mono (show _<=2*(sgM B B k+3*sgS B k+2)+1 by omega),fun a ha=>hS3 a ha⟩
   show ZB (2*(sgM B B k+3*sgS B k+2)+1) _
   split
   ·exact (((hM3 k k hkq hkq).mul (hM3 a b ha hb)).sub ((hM3 a k ha hkq).mul (hM3 k b hkq hb))).tdivS.mono (by omega)
   ·exact (hM3 a b ha hb).mono (by omega)
  have e1:Ch (fun m=>if m=k then R3 k k else d m) k=Ch d k:=Wy k fun m hm=>if_neg (by omega)
  have e2:Jc (fun m=>if m=k then R3 k k else d m) k=Jc d k:=Xa k fun m hm=>if_neg (by omega)
  have f1:Ch (fun m=>if m=k then R3 k k else d m) (k+1)=Ch d k+if 0<R3 k k then 1 else 0:=by rw [Ch,e1,if_pos rfl]
  have f2:Jc (fun m=>if m=k then R3 k k else d m) (k+1)=Jc d k+if R3 k k<0 then 1 else 0:=by rw [Jc,e2,if_pos rfl]
  have sgn:0<(R3 k k).num.sign↔0<R3 k k:=by
   have h1:=B0k (q:= -(R3 k k))
   rw [Rat.neg_num,Int.sign_neg] at h1
   constructor
   ·intro x;have:=h1.1 (by omega);grind
   ·intro x;have:=h1.2 (by grind);omega
  have ewp:B7 ((Ch d k:Int)+1)=((Ch d k+1:Nat):Int):=by rw [B9]<;>omega
  have ewn:B7 ((Jc d k:Int)+1)=((Jc d k+1:Nat):Int):=by rw [B9]<;>omega
  refine B8 (fun hp'=>?_) (fun hn'=>?_)
  ·have pos:=sgn.1 hp'
   rw [if_pos pos] at f1
   rw [if_neg (by grind)] at f2
   refine adv fun h5 i5=>⟨rfl,⟨k+1,_,hkq,by rw [ewp,f1,f2];rfl,by omega,i5⟩,?_⟩
   rw [ewp]
   show q-(((Ch d k+1:Nat):Int).toNat+((Jc d k:Nat):Int).toNat)<q-(((Ch d k:Nat):Int).toNat+((Jc d k:Nat):Int).toNat)
   omega
  ·have npos': ¬ 0<R3 k k:=fun x=>hn' (sgn.2 x)
   rw [if_neg npos'] at f1
   rw [if_pos (by grind)] at f2
   refine adv fun h5 i5=>⟨rfl,⟨k+1,_,hkq,by rw [ewn,f1,f2];rfl,by omega,i5⟩,?_⟩
   rw [ewn]
   show q-(((Ch d k:Nat):Int).toNat+((Jc d k+1:Nat):Int).toNat)<q-(((Ch d k:Nat):Int).toNat+((Jc d k:Nat):Int).toNat)
   omega
 ·intro hz0
  refine ⟨_,rfl,?_⟩
  show Br false _ _
  have D:=pd.done hk hz0
  have c1:=B5r d k (q-k)
  have c2:=B5t d k (q-k)
  rw [show k+(q-k)=q by omega] at c1 c2
  have c3:=B7j (fun m=>if m<k then d m else 0) q
  have res:=hK1 q sq _ _ D hp (B0 l0 X.t.sep.le)
  rw [c1,c2,show B4o (fun m=>if m<k then d m else 0) q=q-Ch d k-Jc d k by omega] at res
  rw [show B7 ((q:Int)-(Ch d k:Int))=((q-Ch d k:Nat):Int) by rw [B9]<;>omega,show B7 (((q-Ch d k:Nat):Int)-(Jc d k:Int))=((q-Ch d k-Jc d k:Nat):Int) by rw [B9]<;>omega]
  exact res
end
theorem Diag.congr{n:Nat}{A B:Nat->Nat->Rat}{d:Nat->Rat}{F:Nat->Nat->Rat}(D:Diag n A d F)(h:∀ i j,i<n->j<n->A i j=B i j):Diag n B d F:=
 ⟨fun x=>by rw [<- D.val x];exact A68 (fun i j hi hj=>(h i j hi hj).symm) (fun _ _=>rfl),D.inj⟩
theorem B7f{q m:Nat}(hq:q<=4)(hm:m=294\/m=18861):sgM (bnd q m) (bnd q m) q<=100000000:=by
 have key:∀ q,q<5->sgM (bnd q 294) (bnd q 294) q<=100000000/\sgM (bnd q 18861) (bnd q 18861) q<=100000000:=by
  unfold bnd
  decide
 rcases hm with rfl|rfl
 ·exact (key q (by omega)).1
 ·exact (key q (by omega)).2
theorem SqE.not{r c:Int}{n q:Nat}{ls:Nat->List UInt8}{e:Int}(sq:B3j r c n ls q)(x:SqE r c n ls e):False:=by
 rcases x with ⟨x,_⟩|⟨_,x,_⟩
 ·exact x ⟨_,_,sq.1⟩
 ·exact x ⟨_,sq⟩
section
variable {h:Heap} {lA cA tA:Option Addr} {ln lc cn cc tn tc:Nat} {ls cs ts:Nat->List UInt8}
end
def bB1(m k:Nat):Nat:=3^k*bnd (k+k) m
def bB2(m k:Nat):Nat:=1+k*(2*bB1 m k+1)
def bB3(m k:Nat):Nat:=1+k*(2*bB2 m k+1)
def bB4(m k:Nat):Nat:=2*bB3 m k+2
theorem A4c{k:Nat}(h1:1<=k)(h:k<4):SchB k 294 (bB1 294 k) (bB2 294 k) (bB3 294 k) (bB4 294 k):=by
 have key:∀ k,k<4->1<=k->294<=bB1 294 k/\bB1 294 k<=bB2 294 k/\bB2 294 k<=bB3 294 k/\bB4 294 k<=10000000:=by
  unfold bB4 bB3 bB2 bB1 bnd
  decide
 obtain ⟨a,b,c,d⟩:=key k h h1
 exact ⟨by omega,C6d _,C6d _,C6d _,⟨a,b,c⟩,C6d _,d⟩
theorem B9i{k l:Nat}(h1:1<=k)(h2:1<=l)(h:k+l<=4):sgM (bnd l (bB4 294 k)) (bnd l (bB4 294 k)) l<=100000000:=by
 have key:∀ k,k<4->1<=k->∀ l,l<4->k+l<=4->sgM (bnd l (bB4 294 k)) (bnd l (bB4 294 k)) l<=100000000:=by
  unfold bB4 bB3 bB2 bB1 bnd
  decide
 exact key k (by omega) h1 l (by omega) h
section
variable {h:Heap} {K:VP} {lA cA:Option Addr} {ln lc cn cc:Nat} {ls cs:Nat->List UInt8}
theorem A8j{n:Int}{b:Nat}(h1:1<=b)(h2:b<=1000)(hK:∀ k:Nat,k<b->K (I (k:Int)) h):FCall prog A2k #[I n,I (b:Int)] h K:=by
 refine B4a _ _ ?_
 unfold C50
 have h1:=Int.tmod_lt_of_pos n (show (0:Int)<(b:Int) by omega)
 have h2:=Int.lt_tmod_of_pos n (show (0:Int)<(b:Int) by omega)
 refine B8 (fun e=>by omega) (fun _=>B8 (fun hneg=>?_) (fun hpos=>?_))
 ·have:=hK (C6l n b+b).toNat (by omega)
  rw [show B7 (C6l n b+b)=(((C6l n b+b).toNat:Nat):Int) by rw [B9]<;>omega]
  exact this
 ·have:=hK (C6l n b).toNat (by omega)
  rw [show ((C6l n b).toNat:Int)=C6l n b by omega] at this
  exact this
theorem B5h{q k l:Nat}{S:Nat->List UInt8}{d d':Nat->Rat}{F F':Nat->Nat->Rat}(hq:q=k+l)(hs:A13 q (mtx (rvs S) q))(inv:Vk (Qo S q k) k)(D:Diag k (mtx (rvs (Cq S q 0 0 k)) k) d F)(D':Diag l (mtx (rvs (W8 (A81 S q k) l)) l) d' F'):∃ G,Diag q (mtx (rvs S) q) (fun m=>if m<k then d m else d' (m-k)) G:=by
 have D1:=D.congr (B:=mtx (rvs S) q) fun i j _ hj=>by rw [Lw _ _ _ _ hj,C6f,C6f]
 have D2:=D'.congr (B:=A81 S q k) fun i j _ hj=>A2i _ hj
 rw [hq] at hs
 have:=A9h (V:=fun t j=>sm k fun s=>Od (Qo S q k) k t s*mtx (rvs S) q s (k+j)) (by rw [hq];exact hs) (fun i j hi _=>B0n inv hi (k+j)) (fun i j _ _=>by unfold A81;rw [Ys]) D1 D2
 rw [hq]
 rw [hq] at this
 exact ⟨_,this⟩
theorem law_ldlSchur{n z:Int}(gl:Gl h)(rl:RowV SSr h lA ln ls)(rc:RowV SSr h cA cn cs):FCall prog Tu #[.slice lA ln lc,I n,.slice cA cn cc,I z] h (C4z h):=by
 refine A3l _ _ _ _ _ _ _ _ ?_
 unfold A3m
 have aw:∀ h',h.le h'->FCall prog Fx #[] h' (fun r hp=>∃ t,r= .bool t/\C4z h (.bool t) hp):=fun h' l=>A5a (gl.mono l) fun h'' l''=>⟨_,rfl,rfl,B0 l l''⟩
 refine A4s rl rc (fun hln hcn hl hc=>⟨_,rfl,Br.no ?_⟩) ⟨_,rfl,Vm (aw h (B5 _))⟩
 refine Tc rl rc hl hc ?_
 intro q hq1 hq4 A1 c1 h1 l1 hc1 r1
 refine ⟨_,_,_,_,_,rfl,B8 (fun _=>aw h1 l1) (fun hq2=>?_)⟩
 have hqq:q*q<=4*4:=C6h hq4 hq4
 have ms:∀ i j,i<q->j<q->Sz 294 (A7z ls ln cs cn q i j):=fun i j _ _=>B0d hl hc hq4 i j
 have gs:∀ i,i<q*q->Sz 294 (rv (W8 (A7z ls ln cs cn q) q i)):=Mm hq1 ms
 have gn:∀ i,i<q*q->(W8 (A7z ls ln cs cn q) q i).length<=100000000:=fun i hi=>Nat.le_trans (Tl hq1 ms i hi) (by omega)
 have sq:=C1r ls ln cs cn (q:=q) hq1 (by omega)
 generalize W8 (A7z ls ln cs cn q) q=S at *
 have uq:∀ {f:Nat->List UInt8} {q a b:Nat},MOk (q:Int) (q:Int) (q*q) f a b->a=q/\b=q:=fun mk=>by have:=mk.er;have:=mk.ec;omega
 rw [show B7 ((q:Int)-1)=((q-1:Nat):Int) by rw [B9]<;>omega]
 refine A8j (by omega) (by omega) ?_
 intro k0 hk0
 refine ⟨_,rfl,?_⟩
 rw [wiS k0 (by omega)]
 refine A52 (m:=294) (gl.mono l1) r1 hc1 (by omega) gn gs (fun a k mk h1 h2=>⟨_,_,_,_,A4c h1 (by have:=uq mk;omega)⟩) ?_
 intro o ho A5 c5 h5 l5 r5
 have l05:=B0 l1 l5
 rcases ho with ⟨e,he,_⟩|⟨q',sq',ho⟩
 ·exact (he.not sq).elim
 obtain rfl:q=q':=(uq sq'.1).1.symm
 rcases ho with ⟨hno,_⟩|⟨k,l,ek,hk1,hl1,hq,ho⟩
 ·exact absurd ⟨by omega,by omega⟩ hno
 rw [ek]
 clear ek hk0
 rcases ho with ⟨_,rfl⟩|⟨inv,rfl⟩
 ·exact ⟨_,_,_,_,_,_,rfl,K5 (fun _=>E9 (fun _=>aw h5 l05) (fun e=>absurd rfl e)) (fun e=>absurd e (by decide))⟩
 refine ⟨_,_,_,_,_,_,rfl,K5 (fun e=>absurd rfl e) (fun _=>?_)⟩
 have hkk:k*k<=q*q:=C6h (by omega) (by omega)
 refine ⟨fun L hp=>∃ (i:Nat) (g o:Heap) (xs:List (List UInt8)) (A':Option Addr) (c':Nat),i<=k/\L=[I (i:Int),I (k:Int),I (k:Int),.slice A' (i*k) c']/\h5.le g/\Sep hp g o/\OwnSl o O7 A' c' xs/\xs.length=i*k/\∀ t,t<i*k->xs[t]? = some (Cq S q 0 0 k t),fun L _=>k-(iAt L 0).toNat,⟨0,h5,Cr,[],none,0,by omega,by rw [Nat.zero_mul];rfl,B5 _,Sep.refl _,OwnSl.nil,(Nat.zero_mul k).symm,fun t ht=>by omega⟩,?_⟩
 rintro y0 u0 u1 bA bn bc hp ⟨i,g,o,xs,A',c',hi,eL,lg,s,ow,hxl,hx⟩
 simp only [C6o,C6m,Value.slice.injEq,true_and,and_true] at eL
 obtain ⟨rfl,rfl,rfl,rfl,rfl,rfl⟩:=eL
 refine B8 (fun hlt=>?_) (fun hge=>?_)
 ·have hik:i<k:=by omega
  have hiw:(i+1)*k=i*k+k:=by rw [Nat.add_mul,Nat.one_mul]
  have hiq:(i+1)*k<=k*k:=Nat.mul_le_mul_right _ hik
  refine ⟨fun L hx=>∃ (j N:Nat) (g' o:Heap) (xs:List (List UInt8)) (A':Option Addr) (c':Nat),j<=k/\N=i*k+j/\L=[I (j:Int),I (k:Int),I (k:Int),.slice A' N c']/\h5.le g'/\Sep hx g' o/\OwnSl o O7 A' c' xs/\xs.length=N/\∀ t,t<N->xs[t]? = some (Cq S q 0 0 k t),fun L _=>k-(iAt L 0).toNat,⟨0,_,g,o,xs,bA,bc,by omega,rfl,rfl,lg,s,ow,hxl,hx⟩,?_⟩
  clear s ow hxl hx lg
  rintro y1 v0 v1 dA dn dc hy ⟨j,N,g',o',ys,A2,c2,hj,hN,eL,lg,s,ow,hyl,hx⟩
  simp only [C6o,C6m,Value.slice.injEq,true_and,and_true] at eL
  obtain ⟨rfl,rfl,rfl,rfl,rfl,rfl⟩:=eL
  refine B8 (fun hlt2=>?_) (fun hge2=>?_)
  ·have hjk:j<k:=by omega
   have l1y:=B0 l5 (B0 lg s.le)
   refine B5u (gl.mono (B0 l1 l1y)) (r1.mono T7 l1y) (by omega) gn sq.1 (show i<q by omega) (show j<q by omega) ?_
   refine ⟨_,rfl,B5 _,?_⟩
   subst hyl
   refine OwnSl.push (ty:=Fg) Bt s ow (y:=S (i*q+j)) rfl (by decide) (by omega) (by omega) (K1:=fun hq=>hy.le hq) (fun _ l=>l) ?_
   intro A3 c3 h3 g3 o3 l3 s3 ow3 _
   rw [wiS j (by omega)]
   refine ⟨⟨j+1,_,g3,o3,_,A3,c3,by omega,by omega,rfl,B0 lg l3,s3,ow3,by rw [List.length_append];rfl,fun t ht=>?_⟩,by simp only [Dy];omega⟩
   by_cases c:t<ys.length
   ·rw [List.getElem?_append_left c];exact hx t c
   ·obtain rfl:t=ys.length:=by omega
    rw [List.getElem?_append_right (C6d _),Nat.sub_self]
    obtain ⟨d1,d2⟩:=R5 (n:=k) (i:=i) hjk
    unfold Cq
    rw [hN,d1,d2,C6f,C6f]
    rfl
  ·obtain rfl:j=k:=by omega
   rw [wiS i (by omega)]
   refine ⟨⟨i+1,g',o',ys,dA,dc,by omega,by rw [hN,hiw],lg,s,ow,by rw [hyl,hN,hiw],fun t ht=>hx t (by omega)⟩,by simp only [Dy];omega⟩
 ·obtain rfl:i=k:=by omega
  have ra:RowV SSr hp bA (i*i) (Cq S q 0 0 i):=⟨xs,ow.slF s.ole,hxl,fun t ht=>⟨_,hx t ht,rfl⟩⟩
  have l5p:=B0 lg s.le
  have l0p:=B0 l05 l5p
  clear s ow hxl hx lg
  have px:∀ t,t<i*i->(0+t/i)*q+(0+t%i)<q*q:=fun t ht=>A4n (l:=0) (a:=0) (b:=0) (k:=i) (w:=i) (by omega) (by omega) ht
  have sqb:B3j (i:Int) (i:Int) (i*i) (Cq S q 0 0 i) i:=⟨sq.1.part (a:=0) (b:=0) hk1 hk1 (by omega) (by omega),fun a b ha hb=>by
   unfold Cq
   obtain ⟨d1,d2⟩:=R5 (n:=i) (i:=a) (j:=b) (by omega)
   obtain ⟨d3,d4⟩:=R5 (n:=i) (i:=b) (j:=a) ha
   rw [d1,d2,d3,d4,C6f,C6f]
   exact sq.2 a b (by omega) hb⟩
  have zs:∀ a b,a<l->b<l->Sz (bB4 294 i) (A81 S q i a b):=fun a b ha hb=>B9h hq (fun a b ha hb=>gs _ (P7 ha hb)) (A4c hk1 (by omega)) inv ha hb
  have sqs:B3j (l:Int) (l:Int) (l*l) (W8 (A81 S q i) l) l:=⟨Zo rfl hl1 (by omega),fun a b ha hb=>by
   unfold W8
   obtain ⟨d1,d2⟩:=R5 (n:=l) (i:=a) (j:=b) (by omega)
   obtain ⟨d3,d4⟩:=R5 (n:=l) (i:=b) (j:=a) ha
   rw [d1,d2,d3,d4,B5g sq.2.symm hq inv ha (by omega)]⟩
  have hll:l*l<=4*4:=C6h (by omega) (by omega)
  have b4:=(A4c hk1 (show i<4 by omega)).h6
  refine Gi (m:=294) (gl.mono l0p) (r1.mono T7 (B0 l5 l5p)) (by omega) gn gs (fun a mk=>by rw [(uq mk).1];exact B7f hq4 (.inl rfl)) ?_ (fun e he=>(he.not sq).elim)
  intro q1 sq1 d1 F1 D1 h6 l6
  obtain rfl:q=q1:=(uq sq1.1).1.symm
  refine ⟨_,_,_,_,rfl,?_⟩
  refine Gi (m:=294) (gl.mono (B0 l0p l6)) (ra.mono T7 l6) (by omega) (fun t ht=>gn _ (px t ht)) (fun t ht=>gs _ (px t ht)) (fun a mk=>by rw [(uq mk).1];exact B7f (by omega) (.inl rfl)) ?_ (fun e he=>(he.not sqb).elim)
  intro q2 sq2 d2 F2 D2 h7 l7
  obtain rfl:i=q2:=(uq sq2.1).1.symm
  refine ⟨_,_,_,_,rfl,?_⟩
  have l67:=B0 l6 l7
  refine Gi (m:=bB4 294 i) (gl.mono (B0 l0p l67)) (r5.mono T7 (B0 l5p l67)) (show l*l<=1000000 by omega) (fun t ht=>Nat.le_trans (Tl hl1 zs t ht) (by omega)) (Mm hl1 zs) (fun a mk=>by rw [(uq mk).1];exact B9i hk1 hl1 (by omega)) ?_ (fun e he=>(he.not sqs).elim)
  intro q3 sq3 d3 F3 D3 h8 l8
  obtain rfl:l=q3:=(uq sq3.1).1.symm
  refine ⟨_,_,_,_,rfl,?_⟩
  obtain ⟨G,D4⟩:=B5h hq sq.2.symm inv D2 D3
  have E:=D1.same D4
  rw [hq,Zb,A6f,B5q] at E
  have n2:=B7j d2 i
  have n3:=B7j d3 l
  have ew:∀ {a b c:Nat},a=b+c->b<=4->c<=4->(a:Int)=B7 ((b:Int)+(c:Int)):=fun e h1 h2=>by rw [B9]<;>omega
  rw [hq]
  refine E9 (fun _=>?_) (fun e=>absurd rfl e)
  refine E9 (fun _=>?_) (fun e=>absurd rfl e)
  refine E9 (fun _=>?_) (fun e=>absurd rfl e)
  refine E9 (fun _=>?_) (fun e=>absurd (ew E.1 (by omega) (by omega)) e)
  refine E9 (fun _=>?_) (fun e=>absurd (ew E.2.1 (by omega) (by omega)) e)
  exact E9 (fun _=>aw h8 (B0 l0p (B0 l67 l8))) (fun e=>absurd (ew E.2.2 (by omega) (by omega)) e)
end
end Go.Proofs.YtajkakhfcokljaaGreatDoor
namespace Go.Proofs.YtajkakhfcokljaaGreatDoor
set_option maxRecDepth 20000
open Go Go.RowKit
theorem C2p(s:ByteArray):bs s.data.toList=s:=by
 cases s;simp [bs]
theorem open_strV{H:Type}{enc:TypeId × Value->H}{P:Program}{W:World}{base:Nat}{sp:Nat->Bool}{held:Bool}{t e:TypeId}{fuel:Nat}{A:Option Addr}{len cap:Nat}{x:DataW H × List MemPlace}(ht:P.underlying t=some (.slice e))(he:P.underlying e=some .string)(hc:P.cellsOf e=1)
 (hf:DataW.trod enc P W base sp held fuel t [.slice A len cap]=some x):∃ ls:Nat->List UInt8,RowV SSr (memOf W) A len ls/\len<=maxLen:=by
 rcases Deep.open_strs ht he hc hf with ⟨hcs,_⟩|⟨a,l,c,m,Sx,hcs,_,hl,hm,hmm,_,hcell⟩
 ·simp at hcs
  obtain ⟨rfl,rfl,rfl⟩:=hcs
  exact ⟨fun _=>[],RowV.nil,Nat.zero_le _⟩
 ·simp at hcs
  obtain ⟨rfl,rfl,rfl⟩:=hcs
  have hlm:len<=m:=by rw [hmm];split<;>omega
  have sl:SlV (memOf W) (some a) (((List.range len).map fun i=>(Sx i).data.toList).map fun l=>Value.string (bs l)):=by
   refine .inr ⟨a,rfl,fun i v hv=>?_⟩
   rw [List.getElem?_map,List.getElem?_map] at hv
   by_cases hi:i<len
   ·rw [List.getElem?_range hi] at hv
    simp only [Option.map_some,Option.some.injEq,C2p] at hv
    rw [<- hv]
    exact Ot (hcell i (by omega)).1
   ·rw [List.getElem?_eq_none (by simpa using hi)] at hv;cases hv
  have:=Hl sl
  rw [List.length_map,List.length_range] at this
  exact ⟨_,this,by omega⟩
end Go.Proofs.YtajkakhfcokljaaGreatDoor
