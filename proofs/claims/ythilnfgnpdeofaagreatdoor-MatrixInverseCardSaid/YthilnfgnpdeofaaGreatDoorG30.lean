/-
  Texts of this proof, merged by a program of ours.
-/
import Derived.Test.YthilnfgnpdeofaaGreatDoorG29
import Derived.Test.YthilnfgnpdeofaaGreatDoorG21
import Derived.Test.YthilnfgnpdeofaaGreatDoorG22
import Derived.Deep.Strs
namespace Go.Proofs.YthilnfgnpdeofaaGreatDoor
set_option maxRecDepth 20000
open Go
section
variable {h:Heap} {K:Value->Heap->Prop} {A B:Option Addr} {n m a b:Nat} {r c r2 c2:Int} {ls ls2:Nat->List UInt8}
theorem A2t{k:Int}(r:RowV SSr h A n ls)(hn:n<=1000000000)(hK1:(∀ i,i<n->((ls i).length:Int)<=k)->K (.bool true) h)(hK0:¬ (∀ i,i<n->((ls i).length:Int)<=k)->K (.bool false) h):FCall Tryz.prog Xt #[I k,.slice A n a] h K:=by
 refine B0q _ _ _ _ ?_
 unfold B55
 refine ⟨fun L hp=>∃ i:Nat,i<=n/\L=[I (i:Int)]/\hp=h/\∀ j,j<i->((ls j).length:Int)<=k,fun L _=>n-(iAt L 0).toNat,⟨0,by omega,rfl,rfl,fun j hj=>by omega⟩,?_⟩
 rintro z hp ⟨i,hi,eL,rfl,hh⟩
 obtain rfl:z=(i:Int):=by simpa using eL
 refine B7 (fun hlt=>?_) (fun hge=>?_)
 ·have hin:i<n:=by omega
  obtain ⟨x,rfl,hc⟩:=r.sat hin
  refine ⟨x,rfl,by omega,by omega,_,hc,?_⟩
  rw [J6]
  refine B7 (fun e=>hK0 fun hx=>by have:=hx i hin;omega) (fun e=>?_)
  rw [show B4 ((i:Int)+1)=((i+1:Nat):Int) by rw [B6]<;>omega]
  refine ⟨⟨i+1,by omega,rfl,rfl,fun j hj=>?_⟩,by simp only [Fd];omega⟩
  by_cases e2:j=i
  ·subst e2;omega
  ·exact hh j (by omega)
 ·have:i=n:=by omega
  subst this
  exact hK1 hh
theorem Ks(x:RowV SSr h A n ls)(y:RowV SSr h B m ls2)(hn:n<=1000000000)(hK1:n=m->(∀ i,i<n->ls i=ls2 i)->K (.bool true) h)(hK0:¬ (n=m/\∀ i,i<n->ls i=ls2 i)->K (.bool false) h):FCall Tryz.prog Hu #[.slice A n a,.slice B m b] h K:=by
 refine A3m _ _ _ _ _ _ ?_
 unfold A52
 refine L8 (fun e=>hK0 fun hx=>e (by omega)) (fun e=>?_)
 have e:n=m:=by omega
 subst e
 refine ⟨fun L hp=>∃ i:Nat,i<=n/\L=[I (i:Int)]/\hp=h/\∀ j,j<i->ls j=ls2 j,fun L _=>n-(iAt L 0).toNat,⟨0,by omega,rfl,rfl,fun j hj=>by omega⟩,?_⟩
 rintro z hp ⟨i,hi,eL,rfl,hh⟩
 obtain rfl:z=(i:Int):=by simpa using eL
 refine B7 (fun hlt=>?_) (fun hge=>?_)
 ·have hin:i<n:=by omega
  obtain ⟨u,rfl,hc⟩:=x.sat hin
  obtain ⟨v,rfl,hd⟩:=y.sat hin
  refine ⟨u,rfl,by omega,by omega,_,hc,v,rfl,by omega,by omega,_,hd,?_⟩
  rw [Oz]
  refine Dx (B7 (fun e=>?_) (fun e=>hK0 fun hx=>e (hx.2 i hin)))
  rw [show B4 ((i:Int)+1)=((i+1:Nat):Int) by rw [B6]<;>omega]
  refine ⟨⟨i+1,by omega,rfl,rfl,fun j hj=>?_⟩,by simp only [Fd];omega⟩
  by_cases e2:j=i
  ·subst e2;exact e
  ·exact hh j (by omega)
 ·have:i=n:=by omega
  subst this
  exact hK1 rfl hh
theorem Yp{xs:List Int}(s:SlF h A xs){i:Nat}(hi:i<xs.length):∃ x,A=some x/\h.cell? (Addr.add x (i*1))=some (I xs[i]):=by
 obtain ⟨x,e,hc⟩:=SlF.at (by decide) s hi
 have:=hc 0 _ rfl
 rw [Ls] at this
 exact ⟨x,e,this⟩
theorem Uw{xs ys:List Int}(x:SlF h A xs)(y:SlF h B ys)(hn:n=xs.length)(hm:m=ys.length)(hb:n<=1000000000)(hK1:xs=ys->K (.bool true) h)(hK0:xs≠ys->K (.bool false) h):FCall Tryz.prog Xu #[.slice A n a,.slice B m b] h K:=by
 refine B3j _ _ _ _ _ _ ?_
 unfold B94
 refine L8 (fun e=>hK0 fun hx=>e (by rw [hn,hm,hx])) (fun e=>?_)
 have e:n=m:=by omega
 subst e
 refine ⟨fun L hp=>∃ i:Nat,i<=n/\L=[I (i:Int)]/\hp=h/\∀ j,j<i->xs[j]? = ys[j]?,fun L _=>n-(iAt L 0).toNat,⟨0,by omega,rfl,rfl,fun j hj=>by omega⟩,?_⟩
 rintro z hp ⟨i,hi,eL,rfl,hh⟩
 obtain rfl:z=(i:Int):=by simpa using eL
 refine B7 (fun hlt=>?_) (fun hge=>?_)
 ·have h1:i<xs.length:=by omega
  have h2:i<ys.length:=by omega
  obtain ⟨u,rfl,hc⟩:=Yp x h1
  obtain ⟨v,rfl,hd⟩:=Yp y h2
  refine ⟨u,rfl,by omega,by omega,_,hc,v,rfl,by omega,by omega,_,hd,?_⟩
  refine L8 (fun e=>hK0 fun hx=>e (by simp only [hx])) (fun e=>?_)
  rw [show B4 ((i:Int)+1)=((i+1:Nat):Int) by rw [B6]<;>omega]
  refine ⟨⟨i+1,by omega,rfl,rfl,fun j hj=>?_⟩,by simp only [Fd];omega⟩
  by_cases e2:j=i
  ·subst e2;rw [List.getElem?_eq_getElem h1,List.getElem?_eq_getElem h2,e]
  ·exact hh j (by omega)
 ·have:i=n:=by omega
  subst this
  refine hK1 (List.ext_getElem? fun j=>?_)
  by_cases hj:j<i
  ·exact hh j hj
  ·rw [List.getElem?_eq_none (by omega),List.getElem?_eq_none (by omega)]
theorem Cu(x:RowV SSr h A n ls)(y:RowV SSr h B m ls2)(hn:n<=1000000000)(hK1:r=r2->c=c2->n=m->(∀ i,i<n->ls i=ls2 i)->K (.bool true) h)(hK0:¬ (r=r2/\c=c2/\n=m/\∀ i,i<n->ls i=ls2 i)->K (.bool false) h):FCall Tryz.prog Bz #[Nh r c A n a,Nh r2 c2 B m b] h K:=by
 refine A1o _ _ _ _ _ _ _ _ _ _ ?_
 unfold A1p
 refine D9 (fun e1=>D9 (fun e2=>?_) (fun e=>hK0 fun hx=>e hx.2.1)) (fun e=>hK0 fun hx=>e hx.1)
 exact Ks x y hn (fun h1 h2=>⟨_,rfl,hK1 e1 e2 h1 h2⟩) (fun hx=>⟨_,rfl,hK0 fun hy=>hx hy.2.2⟩)
structure Small (r c:Int) (n:Nat) (ls:Nat->List UInt8) (k d:Int):Prop where
 hr:r<=k
 hc:c<=k
 hn:(n:Int)<=k*k+2
 hl:∀ i,i<n->((ls i).length:Int)<=d
theorem A2s{k d:Int}(x:RowV SSr h A n ls)(hk:0<=k/\k<=1000)(hK1:Small r c n ls k d->K (.bool true) h)(hK0:¬ Small r c n ls k d->K (.bool false) h):FCall Tryz.prog Cw #[Nh r c A n a,I k,I d] h K:=by
 refine Tk _ _ _ _ _ _ _ ?_
 unfold Pf
 have hkk:k*k<=1000*1000:=Int.mul_le_mul hk.2 hk.2 hk.1 (by omega)
 have hkk0:0<=k*k:=Int.mul_nonneg hk.1 hk.1
 have e1:B4 (k*k)=k*k:=B6 (by omega) (by omega)
 have e2:B4 (k*k+2)=k*k+2:=B6 (by omega) (by omega)
 rw [e1,e2]
 refine B7 (fun h1=>B7 (fun h2=>B7 (fun h3=>?_) (fun e=>hK0 fun x=>e x.hn)) (fun e=>hK0 fun x=>e x.hc)) (fun e=>hK0 fun x=>e x.hr)
 exact A2t x (by omega) (fun hx=>⟨_,rfl,hK1 ⟨h1,h2,h3,hx⟩⟩) (fun hx=>⟨_,rfl,hK0 fun y=>hx y.hl⟩)
theorem A2q(x:RowV SSr h A n ls)(hK1:Small r c n ls 6 12->K (.bool true) h)(hK0:¬ Small r c n ls 6 12->K (.bool false) h):FCall Tryz.prog Xs #[Nh r c A n a] h K:=by
 refine B0o _ _ _ _ _ ?_
 unfold B53
 exact A2s x (by omega) (fun hx=>⟨_,rfl,hK1 hx⟩) (fun hx=>⟨_,rfl,hK0 hx⟩)
end
theorem B2c(ls:List (List UInt8)):(ls.flatMap fun l=>[Value.string (bs l)])=ls.map fun l=>Value.string (bs l):=by
 induction ls with
 | nil=>rfl
 | cons x l ih=>rw [List.flatMap_cons,ih];rfl
theorem Ki{h:Heap}{A:Option Addr}{ls:List (List UInt8)}(s:SlV h A (ls.map fun l=>Value.string (bs l))):RowV SSr h A ls.length (fun i=>ls.getD i []):=by
 refine ⟨ls,?_,rfl,fun i hi=>⟨ls[i],List.getElem?_eq_getElem hi,?_⟩⟩
 ·show SlV h A (ls.flatMap fun l=>[Value.string (bs l)])
  rw [B2c];exact s
 ·show ls[i]=ls.getD i []
  simp [hi]
theorem Wm(l:List Rat):rvs (fun i=>(l.map N5).getD i [])=fun i=>l.getD i 0:=by
 funext i
 show rv ((l.map N5).getD i [])=_
 by_cases hi:i<l.length
 ·rw [List.getD_eq_getElem?_getD,List.getD_eq_getElem?_getD,List.getElem?_map,List.getElem?_eq_getElem hi]
  exact Zx _
 ·rw [List.getD_eq_getElem?_getD,List.getD_eq_getElem?_getD,List.getElem?_map,List.getElem?_eq_none (by omega)]
  exact B3t (by rintro ⟨q,hq⟩;exact absurd hq.symm (by
   have:=A7c q
   obtain ⟨c,r,e,_⟩:=this
   rw [e];simp))
theorem B7i:N5 1=[49]:=by
 have:L7 1=[49]:=by decide +kernel
 simp [N5,Jp,this]
theorem B7h:N5 2=[50]:=by
 have:L7 2=[50]:=by decide +kernel
 have h1:(2:Rat).den=1:=by decide +kernel
 have h2:(2:Rat).num=2:=by decide +kernel
 simp [N5,Jp,this,h1,h2]
theorem C0n:N5 3=[51]:=by
 have:L7 3=[51]:=by decide +kernel
 have h1:(3:Rat).den=1:=by decide +kernel
 have h2:(3:Rat).num=3:=by decide +kernel
 simp [N5,Jp,this,h1,h2]
theorem B9e:N5 4=[52]:=by
 have:L7 4=[52]:=by decide +kernel
 have h1:(4:Rat).den=1:=by decide +kernel
 have h2:(4:Rat).num=4:=by decide +kernel
 simp [N5,Jp,this,h1,h2]
theorem C00:N5 (-2)=[45,50]:=by
 have:L7 2=[50]:=by decide +kernel
 have h1:(-2:Rat).den=1:=by decide +kernel
 have h2:(-2:Rat).num= -2:=by decide +kernel
 simp [N5,Jp,this,h1,h2]
theorem aw1:(elE (fun i=>([2,4,1,2]:List Rat).getD i 0) 2 2 2).cs=[0]:=by decide +kernel
theorem aw2:∀ k,k<4->B5r (fun i=>([2,4,1,2]:List Rat).getD i 0) 2 2 k=([1,2,0,0]:List Rat).getD k 0:=by decide +kernel
theorem aw3:B2m (fun i=>([1,2,3,4]:List Rat).getD i 0) 2= -2:=by decide +kernel
theorem A65{h:Heap}{K:Value->Heap->Prop}(gl:Gl h)(hK:∀ h',h.le h'->K (.bool true) h'):FCall Tryz.prog Ll #[] h K:=by
 refine B0p ?_
 unfold B54
 have sz:∀ (ls:List (List UInt8)),(∀ x∈ls,x.length<=1)->∀ i,i<ls.length->(ls.getD i []).length<=1:=by
  intro ls h i hi
  rw [List.getD_eq_getElem?_getD,List.getElem?_eq_getElem hi]
  exact h _ (List.getElem_mem hi)
 refine A2r Hk (ls:=[2,4,1,2].map N5) rfl (by simp) (by rw [show ([2,4,1,2]:List Rat).map N5=[[50],[52],[49],[50]] by simp [B7i,B7h,B9e]];rfl) ?_
 intro b1 h1 l1 s1
 have r1:=Ki s1
 have z1:=sz (([2,4,1,2]:List Rat).map N5) (by simp [B7i,B7h,B9e])
 refine ⟨_,_,_,rfl,?_⟩
 have hb:∀ rows cols,MOk 2 2 4 (fun i=>(([2,4,1,2]:List Rat).map N5).getD i []) rows cols->2*(3^cols*bnd cols 4)+1<=40000000:=by
  intro rows cols mk
  have:=mk.ec
  have:cols=2:=by omega
  subst this
  decide
 refine A0a (m:=4) (gl.mono l1) r1 (by simp) (fun i hi=>Nat.le_trans (z1 i hi) (by omega)) (fun i hi=>B5n (k:=1) (z1 i hi) (by omega)) hb ?_ ?_
 ·intro rows cols mk b2 h2 A' cap' own
  have e1:=mk.er;have e2:=mk.ec
  have:rows=2:=by omega
  subst this
  have:cols=2:=by omega
  subst this
  have lo:=own.le
  have so:=own.strs
  have io:=own.ints
  rw [Wm] at so io
  rw [aw1] at io
  refine ⟨_,_,_,_,_,_,_,_,_,rfl,?_⟩
  rw [Wm,aw1]
  refine A2r Hk (ls:=[1,2,3,4].map N5) rfl (by simp) (by rw [show ([1,2,3,4]:List Rat).map N5=[[49],[50],[51],[52]] by simp [B7i,B7h,C0n,B9e]];rfl) ?_
  intro b3 h3 l3 s3
  have r3:=Ki s3
  have z3:=sz (([1,2,3,4]:List Rat).map N5) (by simp [B7i,B7h,C0n,B9e])
  refine ⟨_,_,_,rfl,?_⟩
  have l13:=A0 l1 (A0 lo l3)
  have num3:Mx 2 2 4 (fun i=>(([1,2,3,4]:List Rat).map N5).getD i []):=by
   refine Vw.2 ⟨⟨by omega,by omega,by omega,by omega,by omega⟩,fun i hi=>?_⟩
   have hi':i<([1,2,3,4]:List Rat).length:=hi
   exact ⟨([1,2,3,4]:List Rat)[i],by rw [List.getD_eq_getElem?_getD,List.getElem?_map,List.getElem?_eq_getElem hi'];rfl⟩
  refine A0c (m:=4) (gl.mono l13) r3 (by simp) (fun i hi=>Nat.le_trans (z3 i hi) (by omega)) (fun i hi=>B5n (k:=1) (z3 i hi) (by omega)) ?_ ?_ (fun _ e=>absurd rfl e) (fun hno=>absurd num3 hno)
  ·intro rows cols mk
   have:=mk.ec
   have:cols=2:=by omega
   subst this
   decide
  ·intro q mk h4 l4
   have:q=2:=by have:=mk.er;omega
   subst this
   rw [Wm,aw3]
   refine ⟨_,_,rfl,D9 (fun _=>?_) (fun e=>absurd rfl e)⟩
   refine A2r Hk (ls:=[1,2,0,0].map N5) rfl (by simp) (by rw [show ([1,2,0,0]:List Rat).map N5=[[49],[50],[48],[48]] by simp [B7i,B7h,Zj]];rfl) ?_
   intro b5 h5 l5 s5
   have r5:=Ki s5
   refine ⟨_,_,_,rfl,?_⟩
   have l25:=A0 l3 (A0 l4 l5)
   refine Ks (so.mono Bq l25) r5 (by simp) (fun _ _=>⟨_,rfl,?_⟩) (fun hno=>absurd ⟨rfl,fun i hi=>?_⟩ hno)
   ·refine V1 A7m rfl ?_
    intro b6 h6
    refine ⟨_,_,_,rfl,?_⟩
    have l6:=Heap.le_put (.cells #[I (0:Int)] E4) h6
    refine Uw (io.1.mono (A0 l25 l6)) (A37 E4 h5 b6 ([0]:List Int)) rfl rfl (by simp) (fun _=>⟨_,rfl,?_⟩) (fun hno=>absurd rfl hno)
    have:(ByteArray.toList (bs (N5 (-2)))==ByteArray.toList ({ data:=#[45,50] }:ByteArray))=true:=by
     rw [C00]
     exact (Oz _ _).trans (by decide)
    rw [this]
    have:=hK _ (A0 l13 (A0 l4 (A0 l5 l6)))
    exact this
   ·show N5 (B5r (fun i=>([2,4,1,2]:List Rat).getD i 0) 2 2 i)=(([1,2,0,0]:List Rat).map N5).getD i []
    have hi':i<([1,2,0,0]:List Rat).length:=hi
    rw [aw2 i hi,List.getD_eq_getElem?_getD,List.getD_eq_getElem?_getD,List.getElem?_map,List.getElem?_eq_getElem hi']
    rfl
 ·intro hno
  exfalso
  refine hno (Vw.2 ⟨⟨by omega,by omega,by omega,by omega,by simp⟩,fun i hi=>?_⟩)
  have hi':i<([2,4,1,2]:List Rat).length:=hi
  exact ⟨([2,4,1,2]:List Rat)[i],by rw [List.getD_eq_getElem?_getD,List.getElem?_map,List.getElem?_eq_getElem hi'];rfl⟩
section
variable {h:Heap} {K:Value->Heap->Prop} {A B:Option Addr} {n cap m:Nat} {r c:Int} {ls:Nat->List UInt8}
theorem A09{E:Nat->Rat}{rows cols:Nat}(hs:∀ i,i<rows*cols->Sz m (E i)):∀ i j,i<rows->j<cols->Sz m (mtx E cols i j):=fun _ _ hi hj=>hs _ (U1 hi hj)
theorem B4h{M:Nat->Nat->Rat}{n w c:Nat}(hs:∀ i j,i<n->j<w->Sz m (M i j))(hm:1<=m)(hc:c<=w){b:Nat}(hb:7^c*m<=b):(∀ i j,i<n->j<w->Sz b ((ecE M n c).R i j))/\Sz b (ecE M n c).det:=by
 have z:SzE n w m ⟨M,[],1⟩:=⟨fun i j hi hj=>by simpa using hs i j hi hj,by simpa using (⟨ZB.one hm,ZB.one hm⟩:Sz m 1),Nat.zero_le _⟩
 have y:=z.run hm c hc
 have hl:=(Yc M n c).1
 have hle:7^(ecE M n c).cs.length*m<=7^c*m:=Nat.mul_le_mul_right _ (Nat.pow_le_pow_right (by decide) hl)
 exact ⟨fun i j hi hj=>(y.R i j hi hj).mono (by show 7^(ecE M n c).cs.length*m<=b;omega),y.det.mono (by show 7^(ecE M n c).cs.length*m<=b;omega)⟩
theorem B2j{M:Nat->Nat->Rat}{n c b:Nat}(h:Sz b (ecE M n c).det)(hb:1<=b):Sz b (A0s M n c):=by
 unfold A0s
 split
 ·exact Sz.zero hb
 ·exact h
theorem A8r(rv':RowV SSr h A n ls)(hn:n<=1000000)(hl:∀ i,i<n->(ls i).length<=100000000)(hs:∀ i,i<n->Sz m (rv (ls i)))(hm1:1<=m)(hb:∀ rows cols,MOk r c n ls rows cols->7^cols*m<=100000000)
 (hK1:∀ q,MOk r c n ls q q->∀ h',h.le h'->K (.tuple #[.string (bs (N5 (B2m (rvs ls) q))),I 0]) h')
 (hK2:Mx r c n ls->r≠c->∀ h',h.le h'->K (.tuple #[.string ({ data:=#[] }:ByteArray),I 4]) h')
 (hK0:¬ Mx r c n ls->∀ h',h.le h'->K (.tuple #[.string ({ data:=#[] }:ByteArray),I 1]) h'):FCall Tryz.prog A4i #[Nh r c A n cap] h K:=by
 refine B73 _ _ _ _ _ ?_
 unfold C1k
 refine Nk rv' hn hl (fun rows cols mk b h1 l1 rs=>⟨_,_,_,_,rfl,?_⟩) (fun hno h' l=>⟨_,_,_,_,rfl,hK0 hno h' l⟩)
 refine L8 (fun e=>hK2 ⟨rows,cols,mk⟩ e h1 l1) (fun e=>?_)
 have hb':=hb rows cols mk
 have:=mk.r1;have:=mk.r2;have:=mk.c1;have:=mk.c2
 obtain rfl:rows=cols:=by have:=mk.er;have:=mk.ec;omega
 obtain ⟨rfl,rfl,_,_,_,_,rfl,_⟩:=id mk
 have ms:=A09 hs
 refine Ky (m:=m) rs (by omega) (by omega) (by omega) (by omega) (Nat.le_refl _) hm1 ms hb' ?_
 intro h2 g2 o2 bo rb c2 A2 cap2 wd l2 t ow ap iq
 refine ⟨_,_,_,_,_,_,_,_,_,_,_,_,_,_,rfl,?_⟩
 obtain ⟨_,sd⟩:=B4h (n:=rows) (w:=rows) (c:=rows) ms hm1 (Nat.le_refl _) (Nat.le_refl _)
 have sz:=B2j sd (Hn rows m hm1)
 have hbb:7^rows*m<=1000000000:=Nat.le_trans hb' (by decide)
 refine Qq (NQ.mono t.sep.le iq) sz hbb ?_
 refine ⟨_,rfl,?_⟩
 have ed:A0s (mtx (rvs ls) rows) rows rows=B2m (rvs ls) rows:=rfl
 rw [ed]
 exact ( hK1 rows mk h2 (A0 l1 (A0 l2 t.sep.le)))
end
section
variable {h:Heap} {K:Value->Heap->Prop} {A:Option Addr} {n cap m w:Nat} {r c:Int} {ls:Nat->List UInt8} {M:Nat->Nat->Rat}
end
section
variable {h:Heap} {K:Value->Heap->Prop} {A:Option Addr} {n cap m w:Nat} {r c:Int} {ls:Nat->List UInt8} {R:Nat->Nat->Rat}
theorem Rp(hn:n<=10000)(hw:w<=10000)
 (hK:∀ h' g' o' bo rb,h.le g'->Mt h' g' o' bo rb n w (fun _ _=>0)->K (.slice (some ⟨bo,0,none⟩) n n) h'):FCall Tryz.prog Qb #[I (n:Int),I (w:Int)] h K:=by
 refine B0u _ _ ?_
 unfold B57
 refine N9 B7k (zx:=(⟨none,0,0⟩:HV)) rfl (by omega) (by omega) (by omega) (by omega) ?_
 intro bo hbo
 simp only [Int.toNat_natCast]
 refine ⟨_,_,_,rfl,fun L hp=>∃ (k:Nat) (g o:Heap) (hd:List HV) (rb:Nat->Nat),k<=n/\L=[I (k:Int)]/\h.le g/\Sep hp g o/\RowX o bo hd/\hd.length=n/\(∀ i,i<k->hd[i]? = some ⟨some ⟨rb i,0,none⟩,w,w⟩)/\(∀ i,i<k->rb i≠bo)/\(∀ i j,i<k->j<k->rb i=rb j->i=j)/\(∀ i,i<k->RowX o (rb i) (List.replicate w Aj)),fun L _=>n-(iAt L 0).toNat,
  ⟨0,h,Ch.put bo _,List.replicate n ⟨none,0,0⟩,fun _=>0,by omega,rfl,B3 _,Ib hbo,RowX.mk,List.length_replicate,fun i hi=>by omega,fun i hi=>by omega,fun i j hi=>by omega,fun i hi=>by omega⟩,?_⟩
 rintro z hp ⟨k,g,o,hd,rb,hk,eL,lg,s,rx,hl,h1,h2,h3,h4⟩
 obtain rfl:z=(k:Int):=by simpa using eL
 refine B7 (fun hlt=>?_) (fun hge=>?_)
 ·have hkn:k<n:=by omega
  refine N9 Zr (zx:=Aj) rfl (by omega) (by omega) (by omega) (by omega) ?_
  intro b2 hb2
  simp only [Int.toNat_natCast]
  have ob2:∀ q x,o q=some x->q≠b2:=by
   rintro q x e rfl
   rw [s.own q x e] at hb2;cases hb2
  have nbo:bo≠b2:=by obtain ⟨e,he⟩:=rx;exact ob2 _ _ he
  have nrb:∀ i,i<k->rb i≠b2:=fun i hi=>by obtain ⟨e,he⟩:=h4 i hi;exact ob2 _ _ he
  refine ⟨_,_,_,rfl,_,rfl,by omega,by omega,?_⟩
  refine Dv Kc (y:=(⟨some ⟨b2,0,none⟩,w,w⟩:HV)) rfl (s.new hb2 _) (rx.other nbo _) (i:=k) (by omega) ?_
  intro h5 o5 x5 eo5 s5 rx5
  rw [show B4 ((k:Int)+1)=((k+1:Nat):Int) by rw [B6]<;>omega]
  refine ⟨⟨k+1,g,o5,_,fun i=>if i=k then b2 else rb i,by omega,rfl,lg,s5,rx5,by rw [List.length_set];exact hl,fun i hi=>?_,fun i hi=>?_,fun i j hi hj e=>?_,fun i hi=>?_⟩,by simp only [Fd];omega⟩
  ·show (hd.set k _)[i]? = some (⟨some ⟨if i=k then b2 else rb i,0,none⟩,w,w⟩:HV)
   by_cases e:i=k
   ·subst e
    rw [if_pos rfl,List.getElem?_set_self (by omega)]
   ·rw [if_neg e,List.getElem?_set_ne (fun x=>e x.symm)]
    exact h1 i (by omega)
  ·show (if i=k then b2 else rb i)≠bo
   by_cases e:i=k
   ·rw [if_pos e];exact nbo.symm
   ·rw [if_neg e];exact h2 i (by omega)
  ·change (if i=k then b2 else rb i)=(if j=k then b2 else rb j) at e
   by_cases e1:i=k
   ·by_cases e2:j=k
    ·omega
    ·rw [if_pos e1,if_neg e2] at e
     exact absurd e.symm (nrb j (by omega))
   ·by_cases e2:j=k
    ·rw [if_neg e1,if_pos e2] at e
     exact absurd e (nrb i (by omega))
    ·rw [if_neg e1,if_neg e2] at e
     exact h3 i j (by omega) (by omega) e
  ·show RowX o5 (if i=k then b2 else rb i) _
   by_cases e:i=k
   ·rw [if_pos e,eo5]
    exact RowX.mk.other nbo.symm _
   ·rw [if_neg e,eo5]
    exact ((h4 i (by omega)).other (nrb i (by omega)) _).other (h2 i (by omega)) _
 ·have:k=n:=by omega
  subst this
  refine hK hp g o bo rb lg ⟨s,⟨hd,rx.rowB,hl,fun i hi=>⟨w,h1 i hi,Nat.le_refl _⟩⟩,h2,h3,fun i hi=>⟨_,(h4 i hi).rowB,List.length_replicate,fun j hj=>⟨Aj,by rw [List.getElem?_replicate,if_pos hj],NQ.zero⟩⟩⟩
theorem A6j{α:Type}[E:Enc α]{o:Heap}{b:Nat}{e:TypeId}{c:Nat}{zx:α}:OwnSl (o.put b (.cells ((List.replicate c zx).flatMap enc).toArray e)) e (some ⟨b,0,none⟩) c ([]:List α):=
 ⟨Nat.zero_le _,.inr ⟨b,_,rfl,B9 _ _ _,by rw [J8,List.length_replicate],by simp⟩⟩
def OwnS(h h':Heap)(A:Option Addr)(c n:Nat)(f:Nat->List UInt8):Prop:=∃ g o xs,h.le g/\Sep h' g o/\OwnSl o S4 A c xs/\xs.length=n/\Row SSr g xs n f
theorem OwnS.le{h h':Heap}{c n:Nat}{f:Nat->List UInt8}(w:OwnS h h' A c n f):h.le h':=by
 obtain ⟨g,o,xs,lg,s,_⟩:=w
 exact A0 lg s.le
theorem OwnS.vis{h h':Heap}{c n:Nat}{f:Nat->List UInt8}(w:OwnS h h' A c n f):RowV SSr h' A n f:=by
 obtain ⟨g,o,xs,lg,s,ow,e,q⟩:=w
 exact ⟨xs,ow.slF s.ole,e,q.mono Bq s.le⟩
theorem OwnS.weak{h0 h h':Heap}{c n:Nat}{f:Nat->List UInt8}(l:h0.le h)(w:OwnS h h' A c n f):OwnS h0 h' A c n f:=by
 obtain ⟨g,o,xs,lg,x⟩:=w
 exact ⟨g,o,xs,A0 l lg,x⟩
end
theorem Br.nt{X Y:Prop}(y:Y):Br (!true) X Y:=y
theorem A3r{X Y:Prop}(x:X):Br (!false) X Y:=x
theorem RowX.qcells{o:Heap}{b:Nat}{ys:List QV}(r:RowX o b ys){i:Nat}(hi:i<ys.length):o.cell? (Addr.add (Addr.add ⟨b,0,none⟩ (i*4)) 0)=some (.bool ys[i].s)/\o.cell? (Addr.add (Addr.add ⟨b,0,none⟩ (i*4)) 1)=some (.slice ys[i].A ys[i].n ys[i].c)/\o.cell? (Addr.add (Addr.add ⟨b,0,none⟩ (i*4)) 2)=some (.bool ys[i].s2)/\o.cell? (Addr.add (Addr.add ⟨b,0,none⟩ (i*4)) 3)=some (.slice ys[i].A2 ys[i].n2 ys[i].c2):=by
 obtain ⟨x,e,hc⟩:=SlF.at (by decide) (r.rowB.slF (B3 o)) hi
 simp only [Option.some.injEq] at e
 subst e
 exact ⟨hc 0 _ rfl,hc 1 _ rfl,hc 2 _ rfl,hc 3 _ rfl⟩
structure MOut where
 r:Int
 c:Int
 n:Nat
 f:Nat->List UInt8
 e:Int
def noM(e:Int):MOut:=⟨0,0,0,fun _=>[],e⟩
def CombO(r c:Int)(n:Nat)(la:Nat->List UInt8)(r2 c2:Int)(n2:Nat)(lb:Nat->List UInt8)(q:Rat)(o:MOut):Prop:=
 (¬ (Mx r c n la/\Mx r2 c2 n2 lb)/\o=noM 1)\/(Mx r c n la/\Mx r2 c2 n2 lb/\(r≠r2\/c≠c2)/\o=noM 4)\/(Mx r c n la/\Mx r2 c2 n2 lb/\r=r2/\c=c2/\o=⟨r,c,n,fun k=>N5 (rv (la k)+q*rv (lb k)),0⟩)
theorem CombO.eq{r c r2 c2:Int}{n n2:Nat}{la lb:Nat->List UInt8}{q:Rat}{o p:MOut}(x:CombO r c n la r2 c2 n2 lb q o)(y:CombO r c n la r2 c2 n2 lb q p):o=p:=by
 rcases x with ⟨h1,rfl⟩|⟨h1,h2,h3,rfl⟩|⟨h1,h2,h3,h4,rfl⟩<;>rcases y with ⟨g1,rfl⟩|⟨g1,g2,g3,rfl⟩|⟨g1,g2,g3,g4,rfl⟩<;>first|rfl|(exfalso;exact h1 ⟨g1,g2⟩)|(exfalso;exact g1 ⟨h1,h2⟩)|(exfalso;omega)
def ScalO(s:List UInt8)(r c:Int)(n:Nat)(la:Nat->List UInt8)(o:MOut):Prop:=
 (¬ (IsNum s/\Mx r c n la)/\o=noM 1)\/(IsNum s/\Mx r c n la/\o=⟨r,c,n,fun k=>N5 (rv s*rv (la k)),0⟩)
theorem ScalO.eq{s:List UInt8}{r c:Int}{n:Nat}{la:Nat->List UInt8}{o p:MOut}(x:ScalO s r c n la o)(y:ScalO s r c n la p):o=p:=by
 rcases x with ⟨h1,rfl⟩|⟨h1,h2,rfl⟩<;>rcases y with ⟨g1,rfl⟩|⟨g1,g2,rfl⟩<;>first|rfl|(exfalso;exact h1 ⟨g1,g2⟩)|(exfalso;exact g1 ⟨h1,h2⟩)
section
variable {h:Heap} {K:Value->Heap->Prop} {A B:Option Addr} {n n2 cap cap2 m w:Nat} {r c r2 c2:Int} {la lb:Nat->List UInt8}
end
section
variable {h:Heap} {K:Value->Heap->Prop} {A B:Option Addr} {n n2 cap cap2 m:Nat} {r c r2 c2:Int} {la lb:Nat->List UInt8} {w:QV} {q:Rat}
end
def inM(bo:Nat)(rb:Nat->Nat)(n x:Nat):Prop:=x=bo\/∃ i,i<n/\x=rb i
theorem inM.x{bo n x i k:Nat}{rb:Nat->Nat}(hi:i<n)(hk:k<n)(h:inM bo (fun a=>rb (xch i k a)) n x):inM bo rb n x:=by
 rcases h with rfl|⟨a,ha,rfl⟩
 ·exact .inl rfl
 ·exact .inr ⟨_,Fu hi hk ha,rfl⟩
theorem Mt.some{h g o:Heap}{bo n w:Nat}{rb:Nat->Nat}{M:Nat->Nat->Rat}(t:Mt h g o bo rb n w M){x:Nat}(hx:inM bo rb n x):∃ y,o x=some y:=by
 obtain ⟨h1,h2⟩:=t.own
 rcases hx with rfl|⟨i,hi,rfl⟩
 ·exact h1
 ·exact h2 i hi
structure Lu3 (h g o:Heap) (bu:Nat) (ru:Nat->Nat) (bl:Nat) (rl:Nat->Nat) (bp n:Nat) (U L:Nat->Nat->Rat) (p:Nat->Nat):Prop where
 u:Mt h g o bu ru n n U
 l:Mt h g o bl rl n n L
 p:∃ ps:List Int,RowB o bp ps/\ps.length=n/\∀ i,i<n->ps[i]? = some ((p i:Nat):Int)
 ul:∀ x,inM bu ru n x->¬ inM bl rl n x
 pu:¬ inM bu ru n bp
 pl:¬ inM bl rl n bp
section
variable {h g o:Heap} {bu bl bp n:Nat} {ru rl:Nat->Nat} {U L:Nat->Nat->Rat} {p:Nat->Nat}
theorem Lu3.next(t:Lu3 h g o bu ru bl rl bp n U L p){h' g':Heap}(s:Sep h' g' o)(l:g.le g'):Lu3 h' g' o bu ru bl rl bp n U L p:=⟨t.u.next s l,t.l.next s l,t.p,t.ul,t.pu,t.pl⟩
theorem Lu3.congr(t:Lu3 h g o bu ru bl rl bp n U L p){U' L':Nat->Nat->Rat}(e1:∀ i j,i<n->j<n->U i j=U' i j)(e2:∀ i j,i<n->j<n->L i j=L' i j):Lu3 h g o bu ru bl rl bp n U' L' p:=⟨t.u.congr e1,t.l.congr e2,t.p,t.ul,t.pu,t.pl⟩
theorem RowB.ko{α:Type}[E:Enc α]{o o':Heap}{b:Nat}{xs:List α}(r:RowB o b xs)(h:o' b=o b):RowB o' b xs:=by
 obtain ⟨e,ex,hb⟩:=r
 exact ⟨e,ex,by rw [h];exact hb⟩
theorem Lu3.storeU(t:Lu3 h g o bu ru bl rl bp n U L p){i j:Nat}(hi:i<n)(hj:j<n){x:QV}{q:Rat}(hx:NQ g x q){K:Unit->Heap->Prop}
 (k:∀ h' o',Lu3 h' g o' bu ru bl rl bp n (Wd U i j q) L p->K () h'):wpH Tryz.prog (Instr.storeAt F7 (.pointer (some (Addr.add ⟨ru i,0,none⟩ (j*4)))) x.v) K h:=by
 refine t.u.store hi hj hx ?_
 intro h' o' t' ko
 have hb:∀ y,¬ inM bu ru n y->o' y=o y:=fun y hy=>ko y (fun e=>hy (.inr ⟨i,hi,e⟩))
 obtain ⟨ps,r1,r2,r3⟩:=t.p
 exact k h' o' ⟨t',t.l.keep t'.sep (B3 _) (fun y z e hy=>by rw [hb y (fun hu=>t.ul y hu hy)];exact e),⟨ps,r1.ko (hb _ t.pu),r2,r3⟩,t.ul,t.pu,t.pl⟩
theorem Lu3.storeL(t:Lu3 h g o bu ru bl rl bp n U L p){i j:Nat}(hi:i<n)(hj:j<n){x:QV}{q:Rat}(hx:NQ g x q){K:Unit->Heap->Prop}
 (k:∀ h' o',Lu3 h' g o' bu ru bl rl bp n U (Wd L i j q) p->K () h'):wpH Tryz.prog (Instr.storeAt F7 (.pointer (some (Addr.add ⟨rl i,0,none⟩ (j*4)))) x.v) K h:=by
 refine t.l.store hi hj hx ?_
 intro h' o' t' ko
 have hb:∀ y,¬ inM bl rl n y->o' y=o y:=fun y hy=>ko y (fun e=>hy (.inr ⟨i,hi,e⟩))
 obtain ⟨ps,r1,r2,r3⟩:=t.p
 exact k h' o' ⟨t.u.keep t'.sep (B3 _) (fun y z e hy=>by rw [hb y (t.ul y hy)];exact e),t',⟨ps,r1.ko (hb _ t.pl),r2,r3⟩,t.ul,t.pu,t.pl⟩
theorem Lu3.swapU(t:Lu3 h g o bu ru bl rl bp n U L p){i k:Nat}(hi:i<n)(hk:k<n){ci ck:Nat}(hci:o.cell? (Addr.add ⟨bu,0,none⟩ (i*1))=some (.slice (some ⟨ru i,0,none⟩) n ci))(hck:o.cell? (Addr.add ⟨bu,0,none⟩ (k*1))=some (.slice (some ⟨ru k,0,none⟩) n ck))(hcw:n<=ci)(hcw2:n<=ck){X:Unit->Heap->Prop}
 (xx:∀ h1,(∀ {K:Unit->Heap->Prop},(∀ h' o',Lu3 h' g o' bu (fun a=>ru (xch i k a)) bl rl bp n (fun a=>U (xch i k a)) L p->K () h')->wpH Tryz.prog (Instr.storeAt G0 (.pointer (some (Addr.add ⟨bu,0,none⟩ (i*1)))) (.slice (some ⟨ru k,0,none⟩) n ck)) K h1)->X () h1):
 wpH Tryz.prog (Instr.storeAt G0 (.pointer (some (Addr.add ⟨bu,0,none⟩ (k*1)))) (.slice (some ⟨ru i,0,none⟩) n ci)) X h:=by
 refine t.u.swap hi hk Kc hci hck hcw hcw2 (fun h1 hst=>xx h1 (fun {K} kk=>hst (fun h' o' t' ko=>?_)))
 have hb:∀ y,¬ inM bu ru n y->o' y=o y:=fun y hy=>ko y (fun e=>hy (.inl e))
 obtain ⟨ps,r1,r2,r3⟩:=t.p
 exact kk h' o' ⟨t',t.l.keep t'.sep (B3 _) (fun y z e hy=>by rw [hb y (fun hu=>t.ul y hu hy)];exact e),⟨ps,r1.ko (hb _ t.pu),r2,r3⟩,fun x hx=>t.ul x (hx.x hi hk),fun hx=>t.pu (hx.x hi hk),t.pl⟩
theorem Lu3.swapL(t:Lu3 h g o bu ru bl rl bp n U L p){i k:Nat}(hi:i<n)(hk:k<n){ci ck:Nat}(hci:o.cell? (Addr.add ⟨bl,0,none⟩ (i*1))=some (.slice (some ⟨rl i,0,none⟩) n ci))(hck:o.cell? (Addr.add ⟨bl,0,none⟩ (k*1))=some (.slice (some ⟨rl k,0,none⟩) n ck))(hcw:n<=ci)(hcw2:n<=ck){X:Unit->Heap->Prop}
 (xx:∀ h1,(∀ {K:Unit->Heap->Prop},(∀ h' o',Lu3 h' g o' bu ru bl (fun a=>rl (xch i k a)) bp n U (fun a=>L (xch i k a)) p->K () h')->wpH Tryz.prog (Instr.storeAt G0 (.pointer (some (Addr.add ⟨bl,0,none⟩ (i*1)))) (.slice (some ⟨rl k,0,none⟩) n ck)) K h1)->X () h1):
 wpH Tryz.prog (Instr.storeAt G0 (.pointer (some (Addr.add ⟨bl,0,none⟩ (k*1)))) (.slice (some ⟨rl i,0,none⟩) n ci)) X h:=by
 refine t.l.swap hi hk Kc hci hck hcw hcw2 (fun h1 hst=>xx h1 (fun {K} kk=>hst (fun h' o' t' ko=>?_)))
 have hb:∀ y,¬ inM bl rl n y->o' y=o y:=fun y hy=>ko y (fun e=>hy (.inl e))
 obtain ⟨ps,r1,r2,r3⟩:=t.p
 exact kk h' o' ⟨t.u.keep t'.sep (B3 _) (fun y z e hy=>by rw [hb y (t.ul y hy)];exact e),t',⟨ps,r1.ko (hb _ t.pl),r2,r3⟩,fun x hx hx2=>t.ul x hx (hx2.x hi hk),t.pu,fun hx=>t.pl (hx.x hi hk)⟩
theorem Lu3.pat(t:Lu3 h g o bu ru bl rl bp n U L p){i:Nat}(hi:i<n):h.cell? (Addr.add ⟨bp,0,none⟩ (i*1))=some (I ((p i:Nat):Int)):=by
 obtain ⟨ps,r1,r2,r3⟩:=t.p
 obtain ⟨x,e,hc⟩:=Yp (r1.slF t.u.sep.ole) (i:=i) (by omega)
 simp only [Option.some.injEq] at e
 subst e
 have h1:=r3 i hi
 rw [List.getElem?_eq_getElem (by omega)] at h1
 rw [hc,Option.some.inj h1]
theorem Lu3.storeP(t:Lu3 h g o bu ru bl rl bp n U L p){i v:Nat}(hi:i<n){K:Unit->Heap->Prop}
 (k:∀ h' o',Lu3 h' g o' bu ru bl rl bp n U L (fun a=>if a=i then v else p a)->K () h'):wpH Tryz.prog (Instr.storeAt E4 (.pointer (some (Addr.add ⟨bp,0,none⟩ (i*1)))) (I (v:Int))) K h:=by
 obtain ⟨ps,r1,r2,r3⟩:=t.p
 rw [D8,Nat.zero_add]
 refine Sep.store (E:=inferInstanceAs (Enc Int)) Qr (v:=I (v:Int)) (y:=(v:Int)) rfl t.u.sep r1 (i:=i) (by omega) rfl ?_
 intro h' o' x' eo s' r'
 have hb:∀ y,y≠bp->o' y=o y:=fun y hy=>by rw [eo,B5 _ _ hy]
 have ne:∀ {y:Nat} {P:Nat->Prop},P y->¬ P bp->y≠bp:=fun hy hn e=>hn (e▸hy)
 refine k h' o' ⟨t.u.keep s' (B3 _) (fun y z e hy=>by rw [hb y (ne (P:=inM bu ru n) hy t.pu)];exact e),t.l.keep s' (B3 _) (fun y z e hy=>by rw [hb y (ne (P:=inM bl rl n) hy t.pl)];exact e),⟨_,r',by rw [List.length_set];exact r2,fun a ha=>?_⟩,t.ul,t.pu,t.pl⟩
 by_cases e:a=i
 ·subst e
  rw [List.getElem?_set_self (by omega)]
  show _=some (((if a=a then v else p a:Nat)):Int)
  rw [if_pos rfl]
 ·rw [List.getElem?_set_ne (fun x=>e x.symm),r3 a ha]
  show _=some (((if a=i then v else p a:Nat)):Int)
  rw [if_neg e]
end
structure LOut where
 d:Int
 n:Nat
 q:Nat
 p:Nat->Nat
 l:Nat->List UInt8
 u:Nat->List UInt8
 e:Int
def noL(e:Int):LOut:=⟨0,0,0,fun i=>i,fun _=>[],fun _=>[],e⟩
def luL(E:Nat->Rat)(q:Nat):LUS:=Bo q (mtx E q) q
def LuO(r c:Int)(n:Nat)(la:Nat->List UInt8)(o:LOut):Prop:=
 (¬ Mx r c n la/\o=noL 1)\/(Mx r c n la/\r≠c/\o=noL 4)\/(∃ q,MOk r c n la q q/\((B9v q (mtx (rvs la) q)/\o=⟨r,q*q,q,(luL (rvs la) q).p,Nm (luL (rvs la) q).L q,Nm (luL (rvs la) q).R q,0⟩)\/(¬ B9v q (mtx (rvs la) q)/\o=noL 7)))
theorem LuO.eq{r c:Int}{n:Nat}{la:Nat->List UInt8}{o p:LOut}(x:LuO r c n la o)(y:LuO r c n la p):o=p:=by
 rcases x with ⟨h1,rfl⟩|⟨h1,h2,rfl⟩|⟨q1,h1,h4⟩<;>rcases y with ⟨g1,rfl⟩|⟨g1,g2,rfl⟩|⟨q2,g1,g4⟩
 ·rfl
 ·exact absurd g1 h1
 ·exact absurd ⟨_,_,g1⟩ h1
 ·exact absurd h1 g1
 ·rfl
 ·exact absurd (by rw [g1.er,g1.ec]) h2
 ·exact absurd ⟨_,_,h1⟩ g1
 ·exact absurd (by rw [h1.er,h1.ec]) g2
 ·obtain rfl:q2=q1:=by have:=h1.er;have:=g1.er;omega
  rcases h4 with ⟨a,rfl⟩|⟨a,rfl⟩<;>rcases g4 with ⟨b,rfl⟩|⟨b,rfl⟩
  ·rfl
  ·exact absurd a b
  ·exact absurd b a
  ·rfl
theorem LuO.n_le{r c:Int}{n:Nat}{la:Nat->List UInt8}{o:LOut}(x:LuO r c n la o):o.n<=4096/\o.q<=64:=by
 rcases x with ⟨_,rfl⟩|⟨_,_,rfl⟩|⟨q,h1,⟨_,rfl⟩|⟨_,rfl⟩⟩
 ·exact ⟨Nat.zero_le _,Nat.zero_le _⟩
 ·exact ⟨Nat.zero_le _,Nat.zero_le _⟩
 ·have:q*q<=64*64:=Nat.mul_le_mul h1.r2 h1.r2
  exact ⟨this,h1.r2⟩
 ·exact ⟨Nat.zero_le _,Nat.zero_le _⟩
theorem Sep.apart2{h g o g2 p:Heap}(s:Sep h g o)(t:Sep g g2 p):∀ k x,o k=some x->p k=none:=by
 intro k x e
 cases hp:p k with
 | none=>rfl
 | some y=>
  have h1:=t.own k y hp
  rw [s.dis k x e] at h1;cases h1
def Z2(R:Nat->Nat->Rat)(c i j:Nat):Nat->Nat->Rat:=fun a b=>if a<i\/(a=i/\b<j) then If R c a b else R a b
def Ig(R L:Nat->Nat->Rat)(c i:Nat):Nat->Nat->Rat:=fun a b=>if b=c/\(a=c\/(c<a/\a<i)) then Kd R L c a b else L a b
theorem A2c(R:Nat->Nat->Rat)(c:Nat){a b:Nat}:R a b=Z2 R c (c+1) 0 a b:=by
 unfold Z2 If
 by_cases h:a<c+1\/(a=c+1/\b<0)
 ·rw [if_pos h,if_pos (.inl (by omega))]
 ·rw [if_neg h]
theorem A7s(R:Nat->Nat->Rat){c i a b:Nat}(hi:c<i):Z2 R c i 0 a b=Z2 R c i c a b:=by
 unfold Z2
 by_cases h:a<i\/(a=i/\b<0)
 ·rw [if_pos h,if_pos (by omega)]
 ·rw [if_neg h]
  by_cases h2:a<i\/(a=i/\b<c)
  ·rw [if_pos h2]
   unfold If
   rw [if_pos (.inr (by omega))]
  ·rw [if_neg h2]
theorem A5g(R:Nat->Nat->Rat){c i j a b:Nat}(hi:c<i)(hj:c<=j):Wd (Z2 R c i j) i j (R i j-R i c/R c c*R c j) a b=Z2 R c i (j+1) a b:=by
 unfold Wd Z2
 by_cases h:a=i/\b=j
 ·rw [if_pos h,if_pos (by omega),h.1,h.2]
  unfold If
  rw [if_neg (by omega)]
 ·rw [if_neg h]
  by_cases h2:a<i\/(a=i/\b<j)
  ·rw [if_pos h2,if_pos (by omega)]
  ·rw [if_neg h2,if_neg (by omega)]
theorem A5h(R:Nat->Nat->Rat){c i n a b:Nat}(hb:b<n):Z2 R c i n a b=Z2 R c (i+1) 0 a b:=by
 unfold Z2
 by_cases h:a<i\/(a=i/\b<n)
 ·rw [if_pos h,if_pos (by omega)]
 ·rw [if_neg h,if_neg (by omega)]
theorem Qu(R L:Nat->Nat->Rat)(c:Nat){a b:Nat}:Wd L c c 1 a b=Ig R L c (c+1) a b:=by
 unfold Wd Ig
 by_cases h:a=c/\b=c
 ·rw [if_pos h,if_pos ⟨h.2,.inl h.1⟩]
  unfold Kd
  rw [if_pos h.2,if_pos h.1]
 ·rw [if_neg h,if_neg (by omega)]
theorem Uo(R L:Nat->Nat->Rat){c i a b:Nat}(hi:c<i):Wd (Ig R L c i) i c (R i c/R c c) a b=Ig R L c (i+1) a b:=by
 unfold Wd Ig
 by_cases h:a=i/\b=c
 ·rw [if_pos h,if_pos ⟨h.2,.inr ⟨by omega,by omega⟩⟩,h.1,h.2]
  unfold Kd
  rw [if_pos rfl,if_neg (by omega),if_pos hi]
 ·rw [if_neg h]
  by_cases h2:b=c/\(a=c\/(c<a/\a<i))
  ·rw [if_pos h2,if_pos (by omega)]
  ·rw [if_neg h2,if_neg (by omega)]
theorem Zz(R L:Nat->Nat->Rat){c n a b:Nat}(ha:a<n)(hz:∀ i,i<c->L i c=0):Ig R L c n a b=Kd R L c a b:=by
 unfold Ig
 by_cases h:b=c/\(a=c\/(c<a/\a<n))
 ·rw [if_pos h]
 ·rw [if_neg h]
  unfold Kd
  by_cases e:b=c
  ·subst e
   rw [if_pos rfl,if_neg (by omega),if_neg (by omega)]
   exact hz a (by omega)
  ·rw [if_neg e]
section
variable {h:Heap} {K:Value->Heap->Prop} {A:Option Addr} {n cap m:Nat} {r c:Int} {la:Nat->List UInt8}
theorem B2b(ra:RowV SSr h A n la)(hn:n<=1000000)(hl:∀ i,i<n->(la i).length<=100000000)(hs:∀ i,i<n->Sz m (rv (la i)))(hm1:1<=m)(hb:∀ q,MOk r c n la q q->7^q*m<=100000000)
 (hK:∀ o,LuO r c n la o->∀ Ap cp Al cl Au cu h',h.le h'->RowV IIr h' Ap o.q (fun i=>((o.p i:Nat):Int))->RowV SSr h' Al o.n o.l->RowV SSr h' Au o.n o.u->K (.tuple #[.slice Ap o.q cp,Nh o.d o.d Al o.n cl,Nh o.d o.d Au o.n cu,I o.e]) h'):FCall Tryz.prog B68 #[Nh r c A n cap] h K:=by
 refine B98 _ _ _ _ _ ?_
 unfold FLU
 refine Nk ra hn hl (fun rows cols mk b1 h1 l1 rs=>⟨_,_,_,_,rfl,Br.nt ?_⟩) (fun hno h1 l1=>⟨_,_,_,_,rfl,A3r (hK (noL 1) (.inl ⟨hno,rfl⟩) none 0 none 0 none 0 h1 l1 RowV.nil RowV.nil RowV.nil)⟩)
 refine L8 (fun e=>hK (noL 4) (.inr (.inl ⟨⟨_,_,mk⟩,e,rfl⟩)) none 0 none 0 none 0 h1 l1 RowV.nil RowV.nil RowV.nil) (fun e=>?_)
 obtain rfl:rows=cols:=by have:=mk.er;have:=mk.ec;omega
 have good:=fun x=>hK ⟨r,rows*rows,rows,(luL (rvs la) rows).p,Nm (luL (rvs la) rows).L rows,Nm (luL (rvs la) rows).R rows,0⟩ (.inr (.inr ⟨rows,mk,.inl ⟨x,rfl⟩⟩))
 have ill:=fun x=>hK (noL 7) (.inr (.inr ⟨rows,mk,.inr ⟨x,rfl⟩⟩))
 have hb':=hb rows mk
 have:=mk.r1;have:=mk.r2
 obtain ⟨rfl,rfl,_,_,_,_,rfl,_⟩:=id mk
 clear e
 have ms:=A09 hs
 have run:=LuI.run (n:=rows) ms hm1
 unfold luL at good
 unfold B9v at good ill
 generalize mtx (rvs la) rows=M at *
 refine Uy rs (by omega) (by omega) (by omega) (by omega) ?_
 intro h2 g2 o2 bu ru cu l2 tu
 refine ⟨_,_,_,rfl,?_⟩
 refine tu.sep.call (Rp (by omega) (by omega) ?_)
 intro hb3 g3 o3 bl rl l3 tl h3 s3
 have J:=s3.join tl.sep
 have ap:=s3.apart2 tl.sep
 have jl:∀ k x,o2 k=some x->(o2.join o3) k=some x:=fun k x e=>by show (match o3 k with|some x=>some x|none=>o2 k)=_;rw [ap k x e];exact e
 have jr:∀ k x,o3 k=some x->(o2.join o3) k=some x:=fun k x e=>by show (match o3 k with|some x=>some x|none=>o2 k)=_;rw [e]
 have tu':=tu.keep J l3 (fun k x e _=>jl k x e)
 have tl':=tl.keep J (B3 _) (fun k x e _=>jr k x e)
 have ul:∀ x,inM bu ru rows x->¬ inM bl rl rows x:=fun x hx hx2=>by
  obtain ⟨y,hy⟩:=tu.some hx
  obtain ⟨z,hz⟩:=tl.some hx2
  rw [ap x y hy] at hz;cases hz
 generalize o2.join o3=o at *
 have lh3:h.le g3:=A0 l1 (A0 l2 l3)
 refine ⟨_,_,_,rfl,?_⟩
 refine ⟨fun L hp=>∃ (k:Nat) (g o:Heap) (ps:List Int) (A':Option Addr) (c':Nat),k<=rows/\L=[.slice A' k c',I (k:Int)]/\g3.le g/\Mt hp g o bu ru rows rows M/\Mt hp g o bl rl rows rows (fun _ _=>0)/\OwnSl o E4 A' c' ps/\ps.length=k/\(∀ i,i<k->ps[i]? = some (i:Int))/\(∀ x,inM bu ru rows x\/inM bl rl rows x->A'≠some ⟨x,0,none⟩),fun L _=>rows-(iAt L 1).toNat,
  ⟨0,g3,o,[],none,0,by omega,rfl,B3 _,tu',tl',OwnSl.nil,rfl,fun i hi=>by omega,fun x _=>by simp⟩,?_⟩
 rintro pA pn pc z hp ⟨k,g,o,ps,A',c',hk,eL,lg,t1,t2,ow,hpl,hpe,hap⟩
 simp only [List.cons.injEq,Value.int.injEq,Value.slice.injEq,true_and,and_true] at eL
 obtain ⟨⟨rfl,rfl,rfl⟩,rfl⟩:=eL
 refine B7 (fun hlt=>?_) (fun hge=>?_)
 ·have hkn:pn<rows:=by omega
  refine V6 (ty:=Cg) A7m t1.sep ow hpl.symm (y:=(pn:Int)) rfl (by decide) (by rw [hpl];omega) (by rw [hpl];omega) ?_
  intro A6 c6 h6 g6 o6 l6 s6 ow6 kp
  rw [hpl,show B4 ((pn:Int)+1)=((pn+1:Nat):Int) by rw [B6]<;>omega]
  refine ⟨⟨pn+1,g6,o6,_,A6,c6,by omega,rfl,A0 lg l6,t1.keep s6 l6 (fun k x e hk=>(kp k x e (hap k (.inl hk))).1),t2.keep s6 l6 (fun k x e hk=>(kp k x e (hap k (.inr hk))).1),ow6,by rw [List.length_append,hpl];rfl,fun i hi=>?_,fun x hx=>?_⟩,?_⟩
  ·by_cases e:i=pn
   ·subst e
    rw [List.getElem?_append_right (by omega),hpl,Nat.sub_self];rfl
   ·rw [List.getElem?_append_left (by omega)]
    exact hpe i (by omega)
  ·rcases id hx with hx1|hx1
   ·obtain ⟨y,hy⟩:=t1.some hx1
    exact (kp x y hy (hap x hx)).2
   ·obtain ⟨y,hy⟩:=t2.some hx1
    exact (kp x y hy (hap x hx)).2
  ·show rows-((pn+1:Nat):Int).toNat<rows-(pn:Int).toNat
   omega
 have hkn:pn=rows:=by omega
 subst hkn
 obtain ⟨bp,rfl,rbp⟩:=ow.rowB (by rintro rfl;simp at hpl;omega)
 have T0:Lu3 hp g o bu ru bl rl bp pn (Bo pn M 0).R (Bo pn M 0).L (Bo pn M 0).p:=⟨t1,t2,⟨ps,rbp,hpl,hpe⟩,ul,fun hx=>hap bp (.inl hx) rfl,fun hx=>hap bp (.inr hx) rfl⟩
 refine ⟨fun L hq=>∃ (k:Nat) (g o:Heap) (ru rl:Nat->Nat),k<=pn/\L=[I (k:Int),I 0,I 0,.slice none 0 0,I 0,I 0,.slice none 0 0]/\g3.le g/\Lu3 hq g o bu ru bl rl bp pn (Bo pn M k).R (Bo pn M k).L (Bo pn M k).p/\∀ c',c'<k->O2 pn c' (Bo pn M c')<pn,fun L _=>pn-(iAt L 0).toNat,⟨0,g,o,ru,rl,by omega,rfl,lg,T0,fun c' hc=>by omega⟩,?_⟩
 clear T0 t1 t2 ow tu' tl' ul hap rbp hpe
 rintro z x0 x1 x2A x2n x2c x3 x4 x5A x5n x5c hq ⟨k,g,o,ru,rl,hk,eL,lg,T,hrow⟩
 simp only [List.cons.injEq,Value.int.injEq,Value.slice.injEq,true_and,and_true] at eL
 obtain ⟨rfl,rfl,rfl,⟨rfl,rfl,rfl⟩,rfl,rfl,⟨rfl,rfl,rfl⟩⟩:=eL
 have inv:=run k hk hrow
 have hstep:Bo pn M (k+1)=B1q pn k (Bo pn M k):=rfl
 refine B7 (fun hlt=>?_) (fun hge=>?_)
 ·have hkn:k<pn:=by omega
  obtain ⟨f1,f2,f3,f4⟩:=Mv (Bo pn M k) (show k<=pn by omega)
  have ill': ¬ O2 pn k (Bo pn M k)<pn->¬ ∀ c,c<pn->O2 pn c (Bo pn M c)<pn:=fun h1 h2=>h1 (h2 k hkn)
  have invS:=fun hr=>inv.step hm1 hkn hr
  have hp7:7^(k+1)*m<=7^pn*m:=Nat.mul_le_mul_right _ (Nat.pow_le_pow_right (by decide) hkn)
  have e7:7^(k+1)*m=7*(7^k*m):=by rw [Nat.pow_succ,Nat.mul_comm (7^k) 7,Nat.mul_assoc]
  have ewk:B4 ((k:Int)+1)=((k+1:Nat):Int):=by rw [B6]<;>omega
  have sR:=inv.szR
  have lz:=inv.lz
  generalize hstt:Bo pn M k=st at *
  generalize hB:7^k*m=B at *
  refine ⟨fun L hq'=>L=[I ((O2 pn k st:Nat):Int)]/\hq'=hq,⟨fun L hq'=>∃ i:Nat,k<=i/\i<=O2 pn k st/\L=[I (i:Int)]/\hq'=hq,fun L _=>pn-(iAt L 0).toNat,⟨k,Nat.le_refl _,f1,rfl,rfl⟩,?_⟩,?_⟩
  ·rintro z hq' ⟨i,hi1,hi2,eL,rfl⟩
   obtain rfl:z=(i:Int):=by simpa using eL
   refine B7 (fun hlt=>?_) (fun hge=>⟨by have:i=O2 pn k st:=by omega
                                         rw [this],rfl⟩)
   have hin:i<pn:=by omega
   obtain ⟨ch,hch,hcell⟩:=T.u.head hin
   obtain ⟨x,ix,x0,x1,x2,x3⟩:=T.u.elem hin hkn
   have sp:=T.u.sep
   refine ⟨_,rfl,by omega,by omega,_,_,_,sp.cell hcell,_,rfl,by omega,by omega,_,_,_,_,_,_,_,_,sp.cell x0,sp.cell x1,sp.cell x2,sp.cell x3,?_⟩
   refine Hm (ix.mono sp.le) ⟨_,rfl,D9 (fun e=>?_) (fun e=>?_)⟩
   ·have e0:st.R i k=0:=by rw [Int.sign_eq_zero_iff_zero] at e;exact Rat.num_eq_zero.1 e
    have hlt2:i<O2 pn k st:=by
     by_cases hx:i<O2 pn k st
     ·exact hx
     ·exfalso
      have hk3:i=O2 pn k st:=by omega
      exact f3 (by omega) (by rw [<- hk3];exact e0)
    rw [show B4 ((i:Int)+1)=((i+1:Nat):Int) by rw [B6]<;>omega]
    exact ⟨⟨i+1,by omega,by omega,rfl,rfl⟩,by simp only [Fd];omega⟩
   ·have e0:st.R i k≠0:=fun h=>e (by rw [h];rfl)
    have:i=O2 pn k st:=by
     by_cases hx:i<O2 pn k st
     ·exact absurd (f4 i hi1 hx) e0
     ·omega
    exact ⟨by rw [this],rfl⟩
  rintro k1 hq' ⟨eL,rfl⟩
  obtain rfl:k1=((O2 pn k st:Nat):Int):=by simpa using eL
  refine D9 (fun hno=>ill (ill' (by omega)) none 0 none 0 none 0 _ (A0 lh3 (A0 lg T.u.sep.le)) RowV.nil RowV.nil RowV.nil) (fun hyes=>?_)
  have hr:O2 pn k st<pn:=by omega
  have hxn:∀ i,i<pn->xch k (O2 pn k st) i<pn:=fun i hi=>Fu hkn hr hi
  have hne:=f3 hr
  have xk:xch k (O2 pn k st) k=O2 pn k st:=He _ _
  have hRn:(Bo pn M (k+1)).R=If (fun i=>st.R (xch k (O2 pn k st) i)) k:=by rw [hstep];rfl
  have hLn:(Bo pn M (k+1)).L=Kd (fun i=>st.R (xch k (O2 pn k st) i)) (fun i=>st.L (xch k (O2 pn k st) i)) k:=by rw [hstep];rfl
  have hPn:(Bo pn M (k+1)).p=fun i=>st.p (xch k (O2 pn k st) i):=by rw [hstep];rfl
  generalize hr0:O2 pn k st=r0 at *
  have lzx:∀ i,i<k->st.L (xch k r0 i) k=0:=fun i _=>lz _ k (Nat.le_refl k)
  have sR1:∀ i j,i<pn->j<pn->Sz B (st.R (xch k r0 i) j):=fun i j hi hj=>sR _ j (hxn i hi) hj
  have hB1:1<=B:=by rw [<- hB];exact Hn k m hm1
  obtain ⟨c1,hc1,k1⟩:=T.u.head hkn
  obtain ⟨c2,hc2,k2⟩:=T.u.head hr
  refine ⟨_,rfl,by omega,by omega,_,_,_,T.u.sep.cell k1,_,rfl,by omega,by omega,_,_,_,T.u.sep.cell k2,_,rfl,by omega,by omega,?_⟩
  refine T.swapU hkn hr k1 k2 hc1 hc2 (fun h6 hst=>⟨_,rfl,by omega,by omega,hst (fun h7 o7 T7=>?_)⟩)
  obtain ⟨c3,hc3,k3⟩:=T7.l.head hkn
  obtain ⟨c4,hc4,k4⟩:=T7.l.head hr
  refine ⟨_,rfl,by omega,by omega,_,_,_,T7.l.sep.cell k3,_,rfl,by omega,by omega,_,_,_,T7.l.sep.cell k4,_,rfl,by omega,by omega,?_⟩
  refine T7.swapL hkn hr k3 k4 hc3 hc4 (fun h8 hst=>⟨_,rfl,by omega,by omega,hst (fun h9 o9 T9=>?_)⟩)
  refine ⟨_,rfl,by omega,by omega,_,T9.pat hkn,_,rfl,by omega,by omega,_,T9.pat hr,_,rfl,by omega,by omega,?_⟩
  refine T9.storeP (i:=r0) hr ?_
  intro h10 o10 T10
  refine ⟨_,rfl,by omega,by omega,?_⟩
  refine T10.storeP (i:=k) hkn ?_
  intro h11 o11 T11
  obtain ⟨c5,hc5,k5⟩:=T11.l.head hkn
  refine ⟨_,rfl,by omega,by omega,_,_,_,T11.l.sep.cell k5,?_⟩
  refine T11.l.sep.call (A7x ⟨by omega,by omega⟩ ?_)
  intro w12 g12 l12 i12 h12 s12
  have one:((1:Int):Rat)=1:=rfl
  rw [one] at i12
  refine ⟨_,_,_,_,_,_,_,_,rfl,T11.l.sep.le_le s12 l12,_,rfl,by omega,by omega,?_⟩
  refine (T11.next s12 l12).storeL hkn hkn i12 ?_
  intro h13 o13 T13'
  have T13:Lu3 h13 g12 o13 bu (fun a=>ru (xch k r0 a)) bl (fun a=>rl (xch k r0 a)) bp pn (Z2 (fun i=>st.R (xch k r0 i)) k (k+1) 0) (Ig (fun i=>st.R (xch k r0 i)) (fun i=>st.L (xch k r0 i)) k (k+1)) (fun i=>st.p (xch k r0 i)):=by
   have:=T13'.congr (U':=Z2 (fun i=>st.R (xch k r0 i)) k (k+1) 0) (L':=Ig (fun i=>st.R (xch k r0 i)) (fun i=>st.L (xch k r0 i)) k (k+1)) (fun a b _ _=>A2c (fun i=>st.R (xch k r0 i)) k (a:=a) (b:=b)) (fun a b _ _=>Qu (fun i=>st.R (xch k r0 i)) (fun i=>st.L (xch k r0 i)) k (a:=a) (b:=b))
   refine ⟨this.u,this.l,?_,this.ul,this.pu,this.pl⟩
   obtain ⟨ps,r1,r2,r3⟩:=this.p
   refine ⟨ps,r1,r2,fun i hi=>?_⟩
   rw [r3 i hi]
   congr 2
   show (if i=k then st.p r0 else if i=r0 then st.p k else st.p i)=st.p (xch k r0 i)
   unfold xch
   by_cases e1:i=k
   ·rw [if_pos e1,if_pos e1]
   ·rw [if_neg e1,if_neg e1]
    by_cases e2:i=r0
    ·rw [if_pos e2,if_pos e2]
    ·rw [if_neg e2,if_neg e2]
  clear T13' T11 T10 T9 T7 T
  have lg12:=A0 lg l12
  generalize hR1:(fun i=>st.R (xch k r0 i))=R1 at *
  generalize hL1:(fun i=>st.L (xch k r0 i))=L1 at *
  generalize (fun i=>st.p (xch k r0 i))=p1 at *
  have sR2:∀ i j,i<pn->j<pn->Sz B (R1 i j):=fun i j hi hj=>by rw [<- hR1];exact sR1 i j hi hj
  have lz1:∀ i,i<k->L1 i k=0:=fun i hi=>by rw [<- hL1];exact lzx i hi
  clear hR1 hL1
  generalize (fun a=>ru (xch k r0 a))=ru1 at *
  generalize (fun a=>rl (xch k r0 a))=rl1 at *
  refine ⟨fun L hq=>∃ (i:Nat) (g o:Heap),k+1<=i/\i<=pn/\L=[I (i:Int)]/\g12.le g/\Lu3 hq g o bu ru1 bl rl1 bp pn (Z2 R1 k i 0) (Ig R1 L1 k i) p1,fun L _=>pn-(iAt L 0).toNat,⟨k+1,g12,o13,Nat.le_refl _,by omega,by rw [ewk],B3 _,T13⟩,?_⟩
  rintro z h14 ⟨i,g14,o14,hi1,hi2,eL,l14,T14⟩
  obtain rfl:z=(i:Int):=by simpa using eL
  have skk:∀ b,If R1 k k b=R1 k b:=fun b=>by unfold If;rw [if_pos (.inl (Nat.le_refl k))]
  refine B7 (fun hlt2=>?_) (fun hge2=>?_)
  ·have hin:i<pn:=by omega
   have sp:=T14.u.sep
   obtain ⟨d1,hd1,m1⟩:=T14.u.head hin
   obtain ⟨d2,hd2,m2⟩:=T14.u.head hkn
   obtain ⟨x,ix,x0,x1,x2,x3⟩:=T14.u.elem hin hkn
   obtain ⟨y,iy,y0,y1,y2,y3⟩:=T14.u.elem hkn hkn
   have ex:Z2 R1 k i 0 i k=R1 i k:=by unfold Z2;rw [if_neg (by omega)]
   have ey:Z2 R1 k i 0 k k=R1 k k:=by unfold Z2;rw [if_pos (.inl (by omega)),skk]
   rw [ex] at ix
   rw [ey] at iy
   refine ⟨_,rfl,by omega,by omega,_,_,_,sp.cell m1,_,rfl,by omega,by omega,_,_,_,_,_,_,_,_,sp.cell x0,sp.cell x1,sp.cell x2,sp.cell x3,_,rfl,by omega,by omega,_,_,_,sp.cell m2,_,rfl,by omega,by omega,_,_,_,_,_,_,_,_,sp.cell y0,sp.cell y1,sp.cell y2,sp.cell y3,?_⟩
   refine sp.call (A03 (m:=B) (a:=x) (b:=y) ix iy (sR2 i k hin hkn) (sR2 k k hkn hkn) (by omega) ?_)
   intro wf g15 l15 i15 h15 s15
   have T15:=T14.next s15 l15
   obtain ⟨d3,hd3,m3⟩:=T15.l.head hin
   refine ⟨_,_,_,_,_,_,_,_,rfl,sp.le_le s15 l15,_,rfl,by omega,by omega,_,_,_,s15.cell m3,_,rfl,by omega,by omega,?_⟩
   refine T15.storeL hin hkn i15 ?_
   intro h16 o16 T16
   have T16':=T16.congr (U':=Z2 R1 k i k) (L':=Ig R1 L1 k (i+1)) (fun a b _ _=>A7s R1 (by omega)) (fun a b _ _=>Uo R1 L1 (by omega))
   refine ⟨fun L hq=>∃ (j:Nat) (g o:Heap),k<=j/\j<=pn/\L=[I (j:Int)]/\g15.le g/\Lu3 hq g o bu ru1 bl rl1 bp pn (Z2 R1 k i j) (Ig R1 L1 k (i+1)) p1,fun L _=>pn-(iAt L 0).toNat,⟨k,g15,o16,Nat.le_refl _,by omega,rfl,B3 _,T16'⟩,?_⟩
   rintro z h17 ⟨j,g17,o17,hj1,hj2,eL,l17,T17⟩
   obtain rfl:z=(j:Int):=by simpa using eL
   refine B7 (fun hlt3=>?_) (fun hge3=>?_)
   ·have hjn:j<pn:=by omega
    have sp7:=T17.u.sep
    obtain ⟨e1,he1,n1⟩:=T17.u.head hin
    obtain ⟨e2,he2,n2⟩:=T17.u.head hkn
    obtain ⟨u,iu,u0,u1,u2,u3⟩:=T17.u.elem hin hjn
    obtain ⟨v,iv,v0,v1,v2,v3⟩:=T17.u.elem hkn hjn
    have eu:Z2 R1 k i j i j=R1 i j:=by unfold Z2;rw [if_neg (by omega)]
    have ev:Z2 R1 k i j k j=R1 k j:=by unfold Z2;rw [if_pos (.inl (by omega)),skk]
    rw [eu] at iu
    rw [ev] at iv
    refine ⟨_,rfl,by omega,by omega,_,_,_,sp7.cell n1,_,rfl,by omega,by omega,_,_,_,sp7.cell n1,_,rfl,by omega,by omega,_,_,_,_,_,_,_,_,sp7.cell u0,sp7.cell u1,sp7.cell u2,sp7.cell u3,_,rfl,by omega,by omega,_,_,_,sp7.cell n2,_,rfl,by omega,by omega,_,_,_,_,_,_,_,_,sp7.cell v0,sp7.cell v1,sp7.cell v2,sp7.cell v3,?_⟩
    have sq:Sz (B+B) (R1 i k/R1 k k):=(sR2 i k hin hkn).div (sR2 k k hkn hkn) hB1
    refine sp7.call (Qv (m:=B+B) (a:=wf) (b:=v) (i15.mono l17) iv sq ((sR2 k j hkn hjn).mono (by omega)) (by omega) ?_)
    intro w18 g18 l18 i18 h18 s18
    refine ⟨_,_,_,_,_,_,_,_,rfl,sp7.le_le s18 l18,?_⟩
    refine s18.call (Zy (m:=B+B+B) (a:=u) (b:=w18) (iu.mono l18) i18 ((sR2 i j hin hjn).mono (by omega)) (sq.mul (sR2 k j hkn hjn)) (by omega) ?_)
    intro w19 g19 l19 i19 h19 s19
    refine ⟨_,_,_,_,_,_,_,_,rfl,s18.le_le s19 l19,_,rfl,by omega,by omega,?_⟩
    refine (T17.next s19 (A0 l18 l19)).storeU hin hjn i19 ?_
    intro h20 o20 T20
    rw [show B4 ((j:Int)+1)=((j+1:Nat):Int) by rw [B6]<;>omega]
    exact ⟨⟨j+1,g19,o20,by omega,by omega,rfl,A0 l17 (A0 l18 l19),T20.congr (fun a b _ _=>A5g R1 (by omega) hj1) (fun _ _ _ _=>rfl)⟩,by simp only [Fd];omega⟩
   ·have:j=pn:=by omega
    subst this
    rw [show B4 ((i:Int)+1)=((i+1:Nat):Int) by rw [B6]<;>omega]
    exact ⟨⟨i+1,g17,o17,by omega,by omega,rfl,A0 l14 (A0 l15 l17),T17.congr (fun a b _ hb=>A5h R1 hb) (fun _ _ _ _=>rfl)⟩,by simp only [Fd];omega⟩
  ·have:i=pn:=by omega
   subst this
   rw [ewk]
   refine ⟨⟨k+1,g14,o14,ru1,rl1,by omega,rfl,A0 lg12 l14,?_,fun c' hc'=>?_⟩,by simp only [Fd];omega⟩
   ·rw [hRn,hLn,hPn]
    exact T14.congr (fun a b ha _=>by unfold Z2;rw [if_pos (.inl ha)]) (fun a b ha _=>by
     by_cases e:b=k
     ·rw [e];exact Zz R1 L1 ha lz1
     ·unfold Ig Kd
      rw [if_neg (fun x=>e x.1),if_neg e])
   ·by_cases e:c'=k
    ·rw [e,hstt,hr0];exact hr
    ·exact hrow c' (by omega)
 ·have:k=pn:=by omega
  subst this
  have lhq:=A0 lh3 (A0 lg T.u.sep.le)
  have p7:=Hn k m hm1
  have rvl:=T.l.rowsV
  have rvu:=T.u.rowsV
  have rvp:RowV IIr hq (some ⟨bp,0,none⟩) k (fun i=>(((Bo k M k).p i:Nat):Int)):=by
   obtain ⟨ps,r1,r2,r3⟩:=T.p
   exact ⟨ps,r1.slF T.u.sep.ole,r2,fun i hi=>⟨_,r3 i hi,rfl⟩⟩
  have good':=good hrow
  refine Nl (m:=7^k*m) rvl (by omega) (by omega) (by omega) (by omega) inv.szL (by omega) ?_
  intro Al cl h5 l5 hcl rl5
  refine ⟨_,_,_,_,_,rfl,?_⟩
  refine Nl (m:=7^k*m) (RowsV.mono l5 rvu) (by omega) (by omega) (by omega) (by omega) inv.szR (by omega) ?_
  intro Au cu' h6 l6 hcu ru6
  exact ⟨_,_,_,_,_,rfl,good' (some ⟨bp,0,none⟩) _ Al cl Au cu' h6 (A0 lhq (A0 l5 l6)) (rvp.mono B7u (A0 l5 l6)) (rl5.mono Bq l6) ru6⟩
end
section
variable {α β:Type} {R:Heap->α->β->Prop} {g:Heap}
theorem Row.app{xs ys:List α}{f:Nat->β}{p q:Nat}(hp:xs.length=p)(r:Row R g xs p f)(r2:Row R g ys q (fun j=>f (p+j))):Row R g (xs++ys) (p+q) f:=fun i hi=>by
 by_cases h:i<p
 ·obtain ⟨w,e,x⟩:=r i h
  exact ⟨w,by rw [List.getElem?_append_left (by omega)];exact e,x⟩
 ·obtain ⟨w,e,x⟩:=r2 (i-p) (by omega)
  refine ⟨w,by rw [List.getElem?_append_right (by omega),hp];exact e,?_⟩
  have e2:p+(i-p)=i:=by omega
  show R g w (f i)
  rw [<- e2];exact x
end
section
variable {h:Heap} {K:Value->Heap->Prop} {A:Option Addr} {n cap m:Nat} {r c:Int} {ls:Nat->List UInt8}
theorem Qo{z:Int}(hz: -9223372036854775808<=z/\z<=9223372036854775807)(hK:∀ w h',h.le h'->RQ h' w (z:Rat)->K w.v h'):FCall Tryz.prog Pz #[I z] h K:=by
 refine B00 _ ?_
 unfold B4u
 exact Da hz.1 hz.2 fun s1 A1 n1 c1 h' l i=>⟨_,_,_,_,rfl,hK _ h' l (Wn i)⟩
end
def QM(g o:Heap)(b n:Nat)(L:Nat->Nat->Rat):Prop:=∃ xs:List QV,RowX o b xs/\xs.length=n*n/\∀ i j,i<n->j<n->∃ w,xs[i*n+j]? = some w/\RQ g w (L i j)
def inT(T:Tb)(x:Nat):Prop:=x=T.bt\/x=T.bE\/x=T.bS
section
variable {g o:Heap} {b n:Nat} {L:Nat->Nat->Rat}
theorem QM.ko(q:QM g o b n L){g' o':Heap}(l:g.le g')(e:o' b=o b):QM g' o' b n L:=by
 obtain ⟨xs,r,h1,h2⟩:=q
 refine ⟨xs,r.keep fun x hx=>by rw [e];exact hx,h1,fun i j hi hj=>?_⟩
 obtain ⟨w,e1,hw⟩:=h2 i j hi hj
 exact ⟨w,e1,S5 _ _ _ _ l hw⟩
theorem QM.congr(q:QM g o b n L){L':Nat->Nat->Rat}(e:∀ i j,i<n->j<n->L i j=L' i j):QM g o b n L':=by
 obtain ⟨xs,r,h1,h2⟩:=q
 refine ⟨xs,r,h1,fun i j hi hj=>?_⟩
 obtain ⟨w,e1,hw⟩:=h2 i j hi hj
 exact ⟨w,e1,by rw [<- e i j hi hj];exact hw⟩
theorem QM.at(q:QM g o b n L){i j:Nat}(hi:i<n)(hj:j<n):∃ w:QV,RQ g w (L i j)/\o.cell? (Addr.add (Addr.add ⟨b,0,none⟩ ((i*n+j)*4)) 0)=some (.bool w.s)/\o.cell? (Addr.add (Addr.add ⟨b,0,none⟩ ((i*n+j)*4)) 1)=some (.slice w.A w.n w.c)/\o.cell? (Addr.add (Addr.add ⟨b,0,none⟩ ((i*n+j)*4)) 2)=some (.bool w.s2)/\o.cell? (Addr.add (Addr.add ⟨b,0,none⟩ ((i*n+j)*4)) 3)=some (.slice w.A2 w.n2 w.c2):=by
 obtain ⟨xs,r,h1,h2⟩:=q
 obtain ⟨w,e1,hw⟩:=h2 i j hi hj
 have hlt:i*n+j<xs.length:=by rw [h1];exact U1 hi hj
 obtain ⟨c0,c1,c2,c3⟩:=r.qcells hlt
 rw [List.getElem?_eq_getElem hlt] at e1
 rw [Option.some.inj e1] at c0 c1 c2 c3
 exact ⟨w,hw,c0,c1,c2,c3⟩
theorem QM.store(q:QM g o b n L){h:Heap}(s:Sep h g o){i j:Nat}(hi:i<n)(hj:j<n){w:QV}{z:Rat}(hw:RQ g w z){K:Unit->Heap->Prop}
 (k:∀ h' o',Sep h' g o'->QM g o' b n (Wd L i j z)->(∀ y,y≠b->o' y=o y)->K () h'):wpH Tryz.prog (Instr.storeAt I3 (.pointer (some (Addr.add ⟨b,0,none⟩ ((i*n+j)*4)))) w.v) K h:=by
 obtain ⟨xs,r,h1,h2⟩:=q
 have hlt:i*n+j<xs.length:=by rw [h1];exact U1 hi hj
 refine Dv Kb (y:=w) rfl s r (i:=i*n+j) hlt ?_
 intro h' o' x' eo s' r'
 refine k h' o' s' ⟨_,r',by rw [List.length_set];exact h1,fun a b' ha hb=>?_⟩ (fun y hy=>by rw [eo,B5 _ _ hy])
 by_cases e:a=i/\b'=j
 ·obtain ⟨rfl,rfl⟩:=e
  exact ⟨w,by rw [List.getElem?_set_self hlt],by unfold Wd;rw [if_pos ⟨rfl,rfl⟩];exact hw⟩
 ·obtain ⟨v,e1,hv⟩:=h2 a b' ha hb
  refine ⟨v,?_,by unfold Wd;rw [if_neg e];exact hv⟩
  rw [List.getElem?_set_ne (fun x=>e (A8k hb hj x.symm))]
  exact e1
end
structure LuT (h g o:Heap) (T:Tb) (M:Nat->Nat->Int) (S:Nat->Rat) (bp bl bu n:Nat) (p:Nat->Nat) (L U:Nat->Nat->Rat):Prop where
 t:Tab h g o T M S
 p:∃ ps:List Int,RowB o bp ps/\ps.length=n/\∀ i,i<n->ps[i]? = some ((p i:Nat):Int)
 l:QM g o bl n L
 u:QM g o bu n U
 tp:¬ inT T bp
 tl:¬ inT T bl
 tu:¬ inT T bu
 pl:bp≠bl
 pu:bp≠bu
 lu:bl≠bu
section
variable {h g o:Heap} {T:Tb} {M:Nat->Nat->Int} {S:Nat->Rat} {bp bl bu n:Nat} {p:Nat->Nat} {L U:Nat->Nat->Rat}
theorem LuT.next(X:LuT h g o T M S bp bl bu n p L U){h' g':Heap}(s:Sep h' g' o)(l:g.le g'):LuT h' g' o T M S bp bl bu n p L U:=⟨X.t.next s l,X.p,X.l.ko l rfl,X.u.ko l rfl,X.tp,X.tl,X.tu,X.pl,X.pu,X.lu⟩
theorem LuT.congr(X:LuT h g o T M S bp bl bu n p L U){L' U':Nat->Nat->Rat}(e1:∀ i j,i<n->j<n->L i j=L' i j)(e2:∀ i j,i<n->j<n->U i j=U' i j):LuT h g o T M S bp bl bu n p L' U':=⟨X.t,X.p,X.l.congr e1,X.u.congr e2,X.tp,X.tl,X.tu,X.pl,X.pu,X.lu⟩
theorem LuT.sym(X:LuT h g o T M S bp bl bu n p L U):LuT h g o T M S bp bu bl n p U L:=⟨X.t,X.p,X.u,X.l,X.tp,X.tu,X.tl,X.pu,X.pl,X.lu.symm⟩
theorem LuT.tab(X:LuT h g o T M S bp bl bu n p L U){h' g' o':Heap}{M':Nat->Nat->Int}{S':Nat->Rat}(t':Tab h' g' o' T M' S')(l:g.le g')(ko:∀ b,¬ inT T b->o' b=o b):LuT h' g' o' T M' S' bp bl bu n p L U:=by
 obtain ⟨ps,r1,r2,r3⟩:=X.p
 exact ⟨t',⟨ps,r1.ko (ko _ X.tp),r2,r3⟩,X.l.ko l (ko _ X.tl),X.u.ko l (ko _ X.tu),X.tp,X.tl,X.tu,X.pl,X.pu,X.lu⟩
theorem Tab.off(t:Tab h g o T M S){h' o':Heap}(s:Sep h' g o'){b:Nat}(hb:¬ inT T b)(ko:∀ y,y≠b->o' y=o y):Tab h' g o' T M S:=t.keep s (B3 _) (fun k x e hk=>by rw [ko k (fun e2=>hb (e2▸hk))];exact e)
theorem LuT.storeL(X:LuT h g o T M S bp bl bu n p L U){i j:Nat}(hi:i<n)(hj:j<n){w:QV}{z:Rat}(hw:RQ g w z){K:Unit->Heap->Prop}
 (k:∀ h' o',LuT h' g o' T M S bp bl bu n p (Wd L i j z) U->K () h'):wpH Tryz.prog (Instr.storeAt I3 (.pointer (some (Addr.add ⟨bl,0,none⟩ ((i*n+j)*4)))) w.v) K h:=by
 refine X.l.store X.t.sep hi hj hw ?_
 intro h' o' s' q ko
 obtain ⟨ps,r1,r2,r3⟩:=X.p
 exact k h' o' ⟨X.t.off s' X.tl ko,⟨ps,r1.ko (ko _ X.pl),r2,r3⟩,q,X.u.ko (B3 _) (ko _ X.lu.symm),X.tp,X.tl,X.tu,X.pl,X.pu,X.lu⟩
theorem LuT.storeU(X:LuT h g o T M S bp bl bu n p L U){i j:Nat}(hi:i<n)(hj:j<n){w:QV}{z:Rat}(hw:RQ g w z){K:Unit->Heap->Prop}
 (k:∀ h' o',LuT h' g o' T M S bp bl bu n p L (Wd U i j z)->K () h'):wpH Tryz.prog (Instr.storeAt I3 (.pointer (some (Addr.add ⟨bu,0,none⟩ ((i*n+j)*4)))) w.v) K h:=by
 refine X.sym.storeL hi hj hw ?_
 intro h' o' X'
 exact k h' o' X'.sym
theorem LuT.pat(X:LuT h g o T M S bp bl bu n p L U){i:Nat}(hi:i<n):h.cell? (Addr.add ⟨bp,0,none⟩ (i*1))=some (I ((p i:Nat):Int)):=by
 obtain ⟨ps,r1,r2,r3⟩:=X.p
 obtain ⟨x,e,hc⟩:=Yp (r1.slF X.t.sep.ole) (i:=i) (by omega)
 simp only [Option.some.injEq] at e
 subst e
 have h1:=r3 i hi
 rw [List.getElem?_eq_getElem (by omega)] at h1
 rw [hc,Option.some.inj h1]
theorem LuT.storeP(X:LuT h g o T M S bp bl bu n p L U){i v:Nat}(hi:i<n){K:Unit->Heap->Prop}
 (k:∀ h' o',LuT h' g o' T M S bp bl bu n (fun a=>if a=i then v else p a) L U->K () h'):wpH Tryz.prog (Instr.storeAt E4 (.pointer (some (Addr.add ⟨bp,0,none⟩ (i*1)))) (I (v:Int))) K h:=by
 obtain ⟨ps,r1,r2,r3⟩:=X.p
 rw [D8,Nat.zero_add]
 refine Sep.store (E:=inferInstanceAs (Enc Int)) Qr (v:=I (v:Int)) (y:=(v:Int)) rfl X.t.sep r1 (i:=i) (by omega) rfl ?_
 intro h' o' x' eo s' r'
 have hb:∀ y,y≠bp->o' y=o y:=fun y hy=>by rw [eo,B5 _ _ hy]
 refine k h' o' ⟨X.t.off s' X.tp hb,⟨_,r',by rw [List.length_set];exact r2,fun a ha=>?_⟩,X.l.ko (B3 _) (hb _ X.pl.symm),X.u.ko (B3 _) (hb _ X.pu.symm),X.tp,X.tl,X.tu,X.pl,X.pu,X.lu⟩
 by_cases e:a=i
 ·subst e
  rw [List.getElem?_set_self (by omega)]
  show _=some (((if a=a then v else p a:Nat)):Int)
  rw [if_pos rfl]
 ·rw [List.getElem?_set_ne (fun x=>e x.symm),r3 a ha]
  show _=some (((if a=i then v else p a:Nat)):Int)
  rw [if_neg e]
theorem LuT.init(t:Tab h g o T M S)(rp:∃ ps:List Int,RowB o bp ps/\ps.length=n/\∀ i,i<n->ps[i]? = some ((p i:Nat):Int))(tp:¬ inT T bp){b1 b2:Nat}{e1 e2:TypeId}(h1:h b1=none)(h2:(h.put b1 (.cells ((List.replicate (n*n) Aj).flatMap enc).toArray e1)) b2=none):
 ∃ o',LuT ((h.put b1 (.cells ((List.replicate (n*n) Aj).flatMap enc).toArray e1)).put b2 (.cells ((List.replicate (n*n) Aj).flatMap enc).toArray e2)) g o' T M S bp b1 b2 n p (fun _ _=>0) (fun _ _=>0):=by
 have s1:=t.sep.new h1 (.cells ((List.replicate (n*n) Aj).flatMap enc).toArray e1)
 have s2:=s1.new h2 (.cells ((List.replicate (n*n) Aj).flatMap enc).toArray e2)
 have n12:b2≠b1:=by rintro rfl;rw [B9] at h2;cases h2
 have h2':h b2=none:=by rw [B5 _ _ n12] at h2;exact h2
 have fr:∀ {k x b},o k=some x->h b=none->k≠b:=by
  rintro k x b e hb rfl
  rw [t.sep.own k x e] at hb;cases hb
 obtain ⟨⟨y1,z1⟩,⟨y2,z2⟩,⟨y3,z3⟩⟩:=t.own
 have nT:∀ {b},h b=none->¬ inT T b:=by
  intro b hb hx
  rcases hx with rfl|rfl|rfl
  ·exact fr z1 hb rfl
  ·exact fr z2 hb rfl
  ·exact fr z3 hb rfl
 obtain ⟨ps,⟨e,ex,hp⟩,r2,r3⟩:=rp
 have np1:bp≠b1:=fr hp h1
 have np2:bp≠b2:=fr hp h2'
 have q0:∀ {o':Heap} {b:Nat},RowX o' b (List.replicate (n*n) Aj)->QM g o' b n (fun _ _=>0):=fun r=>⟨_,r,List.length_replicate,fun i j hi hj=>⟨Aj,by rw [List.getElem?_replicate,if_pos (U1 hi hj)],RQ.zero⟩⟩
 refine ⟨_,t.keep s2 (B3 _) (fun k x e _=>by rw [B5 _ _ (fr e h2'),B5 _ _ (fr e h1)];exact e),⟨ps,⟨e,ex,by rw [B5 _ _ np2,B5 _ _ np1];exact hp⟩,r2,r3⟩,q0 (RowX.mk.other n12.symm _),q0 RowX.mk,tp,nT h1,nT h2',np1,np2,n12.symm⟩
end
theorem fr1{l s r:Rat}(hl:l≠0)(hs:s≠0):l*(s*r)/l/s=r:=by
 have h1:=Rat.mul_inv_cancel _ hl
 have h2:=Rat.mul_inv_cancel _ hs
 rw [Rat.div_def,Rat.div_def]
 grind
theorem fr2{l si ri sk rk:Rat}(hl:l≠0)(hi:si≠0)(hk:sk≠0):l*(si*ri)/(l*(sk*rk))*sk/si=ri/rk:=by
 have h1:=Rat.mul_inv_cancel _ hl
 have h2:=Rat.mul_inv_cancel _ hi
 have h3:=Rat.mul_inv_cancel _ hk
 rw [Rat.div_def,Rat.div_def,Rat.div_def,Rat.inv_mul_rev,Rat.inv_mul_rev]
 grind
structure LuF (E:Nat->Rat) (n k m:Nat):Prop where
 row:Ms n k (elP E n n k)=O2 n k (Bo n (mtx E n) k)
 val:∀ i j,i<n->k<=i->j<n->((elP E n n k).M i j:Rat)=(elP E n n k).last*((elP E n n k).S i*(Bo n (mtx E n) k).R i j)
 last:(elP E n n k).last≠0
 S:∀ i,i<n->(elP E n n k).S i≠0
 len:(elP E n n k).cs.length=k
 zM:∀ a b,a<n->b<n->ZB (3^k*bnd n m) ((elP E n n k).M a b)
 zl:ZB (3^k*bnd n m) (elP E n n k).last
 zS:∀ a,a<n->Sz (bnd n m) ((elP E n n k).S a)
theorem luF{E:Nat->Rat}{n k m:Nat}(hs:∀ i,i<n*n->Sz m (E i))(hk:k<=n)(inv:LuI n k m (mtx E n) (Bo n (mtx E n) k)):LuF E n k m:=by
 have rel:=Vd E (rows:=n) (cols:=n) hk
 have hl:(elE E n n k).cs.length=k:=inv.len
 have hcs:(elP E n n k).cs.length=k:=by rw [B2i E hk];exact hl
 have z:=A4k (E:=E) (rows:=n) (cols:=n) (c:=k) hs hk
 have zM:=z.M
 have zl:=z.last
 rw [hcs] at zM zl
 refine ⟨?_,fun i j hi hki hj=>?_,rel.last,rel.scale,hcs,zM,zl,z.S⟩
 ·have h2:=inv.row
  have h3:Ms n k (elP E n n k)=Dy n k (elE E n n k):=by
   unfold Ms Dy
   rw [hcs,hl]
   refine Kx _ _ fun j h1 h2=>?_
   by_cases hkn:k<n
   ·have hv:=rel.val j k (by omega) hkn
    rw [if_neg (by omega)] at hv
    have h3:=P7 rel.last
    have h4:=rel.scale j (by omega)
    refine decide_eq_decide.2 (not_congr ⟨fun e=>?_,fun e=>?_⟩)
    ·rw [e] at hv
     have h0:((0:Int):Rat)=0:=rfl
     rw [h0] at hv
     rcases Rat.mul_eq_zero.1 hv.symm with e1|e1
     ·exact absurd e1 h3
     ·rcases Rat.mul_eq_zero.1 e1 with e2|e2
      ·exact absurd e2 h4
      ·exact e2
    ·rw [e,Rat.mul_zero,Rat.mul_zero] at hv
     exact_mod_cast hv
   ·omega
  rw [h3]
  exact h2
 ·have hv:=rel.val i j hi hj
  rw [if_neg (by omega)] at hv
  have e:(elE E n n k).R i j=(Bo n (mtx E n) k).R i j:=inv.sync i j hi hki
  rw [hv,e]
theorem B24{E:Nat->Rat}{n k m:Nat}(F:LuF E n k m)(hr:O2 n k (Bo n (mtx E n) k)<n):(elP E n n (k+1)).M=clr (fun i=>(elP E n n k).M (xch k (O2 n k (Bo n (mtx E n) k)) i)) k k (elP E n n k).last/\(elP E n n (k+1)).S=(fun i=>(elP E n n k).S (xch k (O2 n k (Bo n (mtx E n) k)) i))/\(elP E n n (k+1)).last=(elP E n n k).M (O2 n k (Bo n (mtx E n) k)) k:=by
 have hst:elP E n n (k+1)=Ed n k (elP E n n k):=rfl
 have h1:=F.row
 have h2:=F.len
 rw [hst]
 unfold Ed
 rw [h1,if_pos hr,h2]
 exact ⟨rfl,rfl,rfl⟩
theorem QM.row{h g o:Heap}{b n:Nat}{L:Nat->Nat->Rat}(q:QM g o b n L)(s:Sep h g o)(hn:1<=n):RowV RQr h (some ⟨b,0,none⟩) (n*n) (fun t=>L (t/n) (t%n)):=by
 obtain ⟨xs,r,h1,h2⟩:=q
 refine ⟨xs,r.rowB.slF s.ole,h1,fun t ht=>?_⟩
 obtain ⟨w,e,hw⟩:=h2 (t/n) (t%n) (Nat.div_lt_of_lt_mul ht) (Nat.mod_lt t (by omega))
 rw [Nat.mul_comm,Nat.div_add_mod] at e
 exact ⟨w,e,S5 _ _ _ _ s.le hw⟩
section
variable {h:Heap} {K:Value->Heap->Prop} {A:Option Addr} {n cap m:Nat} {r c:Int} {la:Nat->List UInt8}
theorem B23(gl:Gl h)(ra:RowV SSr h A n la)(hn:n<=1000000)(hl:∀ i,i<n->(la i).length<=100000000)(hs:∀ i,i<n->Sz m (rv (la i)))(hm1:1<=m)(hb:∀ q,MOk r c n la q q->20*(3^q*bnd q m)+100<=40000000/\7^q*m<=40000000)
 (hK:∀ o,LuO r c n la o->∀ Ap cp Al cl Au cu h',h.le h'->RowV IIr h' Ap o.q (fun i=>((o.p i:Nat):Int))->RowV SSr h' Al o.n o.l->RowV SSr h' Au o.n o.u->K (.tuple #[.slice Ap o.q cp,Nh o.d o.d Al o.n cl,Nh o.d o.d Au o.n cu,I o.e]) h'):FCall Tryz.prog B64 #[Nh r c A n cap] h K:=by
 refine B93 _ _ _ _ _ ?_
 unfold MLU
 refine Ho gl ra hn hl (fun rows cols mk b1 h1 own=>?_) (fun hno h1 l1=>⟨_,_,_,_,rfl,A3r (hK (noL 1) (.inl ⟨hno,rfl⟩) none 0 none 0 none 0 h1 l1 RowV.nil RowV.nil RowV.nil)⟩)
 have l1:=own.le
 refine ⟨_,_,_,_,rfl,Br.nt (L8 (fun e=>hK (noL 4) (.inr (.inl ⟨⟨_,_,mk⟩,e,rfl⟩)) none 0 none 0 none 0 h1 l1 RowV.nil RowV.nil RowV.nil) (fun e=>?_))⟩
 obtain rfl:rows=cols:=by have:=mk.er;have:=mk.ec;omega
 have good:=fun x=>hK ⟨r,rows*rows,rows,(luL (rvs la) rows).p,Nm (luL (rvs la) rows).L rows,Nm (luL (rvs la) rows).R rows,0⟩ (.inr (.inr ⟨rows,mk,.inl ⟨x,rfl⟩⟩))
 have ill:=fun x=>hK (noL 7) (.inr (.inr ⟨rows,mk,.inr ⟨x,rfl⟩⟩))
 obtain ⟨hb1,hb2⟩:=hb rows mk
 have:=mk.r1;have:=mk.r2
 obtain ⟨rfl,rfl,_,_,_,_,rfl,_⟩:=id mk
 clear e
 have hnn:rows*rows<=64*64:=Nat.mul_le_mul (by omega) (by omega)
 have run:=fun k=>LuI.run (n:=rows) (A09 hs) hm1 k
 have facts:=fun k hk inv=>luF (E:=rvs la) (n:=rows) (k:=k) hs hk inv
 have fnext:=fun k (F:LuF (rvs la) rows k m)=>B24 F
 have hbe:bnd rows m=1+rows*m+m:=rfl
 have hb3:bnd rows m<=3^rows*bnd rows m:=Nat.le_mul_of_pos_left _ (Nat.pow_pos (by decide))
 have p3:∀ k,k<=rows->3^k*bnd rows m<=3^rows*bnd rows m:=fun k hk=>Nat.mul_le_mul_right _ (Nat.pow_le_pow_right (by decide) hk)
 have p1:∀ k,1<=3^k*bnd rows m:=fun k=>Nat.mul_pos (Nat.pow_pos (by decide)) (by omega)
 have hE0:(elP (rvs la) rows rows 0).M=Zp (rvs la) rows/\(elP (rvs la) rows rows 0).S=A5b (rvs la) rows/\(elP (rvs la) rows rows 0).last=1:=⟨rfl,rfl,rfl⟩
 unfold luL at good
 unfold B9v at good ill
 have hR0:Bo rows (mtx (rvs la) rows) 0=⟨mtx (rvs la) rows,fun _ _=>0,fun i=>i⟩:=rfl
 have hst:∀ k,Bo rows (mtx (rvs la) rows) (k+1)=B1q rows k (Bo rows (mtx (rvs la) rows) k):=fun _=>rfl
 refine Ko (m:=m) (gl.mono l1) (own.vis S5) (Nat.le_refl _) (by omega) (by omega) (by omega) (by omega) hs (by omega) ?_
 intro h2 g2 o2 T lg2 t2 e1 e2
 rw [<- hE0.1,<- hE0.2.1] at t2
 refine ⟨_,rfl,?_⟩
 have lh2:=A0 l1 lg2
 refine N9 A7m (zx:=(0:Int)) rfl (by omega) (by omega) (by omega) (by omega) ?_
 intro bp hbp
 simp only [Int.toNat_natCast]
 have s3:=t2.sep.new hbp (.cells ((List.replicate rows (0:Int)).flatMap enc).toArray E4)
 have fr:∀ {k x},o2 k=some x->k≠bp:=by
  rintro k x e rfl
  rw [t2.sep.own k x e] at hbp;cases hbp
 have tp:¬ inT T bp:=by
  obtain ⟨⟨y1,z1⟩,⟨y2,z2⟩,⟨y3,z3⟩⟩:=t2.own
  intro hx
  rcases hx with rfl|rfl|rfl
  ·exact fr z1 rfl
  ·exact fr z2 rfl
  ·exact fr z3 rfl
 have t3:=t2.keep s3 (B3 _) (fun k x e _=>by rw [B5 _ _ (fr e)];exact e)
 have rp3:RowB (o2.put bp (.cells ((List.replicate rows (0:Int)).flatMap enc).toArray E4)) bp (List.replicate rows (0:Int)):=RowB.mk
 refine ⟨_,_,_,rfl,fun L hp=>∃ (k:Nat) (o:Heap) (ps:List Int),k<=rows/\L=[I (k:Int)]/\Tab hp g2 o T (elP (rvs la) rows rows 0).M (elP (rvs la) rows rows 0).S/\RowB o bp ps/\ps.length=rows/\(∀ i,i<k->ps[i]? = some ((i:Nat):Int)),fun L _=>rows-(iAt L 0).toNat,⟨0,_,_,by omega,rfl,t3,rp3,List.length_replicate,fun i hi=>by omega⟩,?_⟩
 clear t2 t3 rp3 s3
 rintro z hp ⟨k,o,ps,hk,eL,t,rb,hpl,hpe⟩
 obtain rfl:z=(k:Int):=by simpa using eL
 refine B7 (fun hlt=>?_) (fun hge=>?_)
 ·have hkn:k<rows:=by omega
  refine ⟨_,rfl,by omega,by omega,?_⟩
  rw [show ((k:Int).toNat*1)=k*1 from rfl,D8,Nat.zero_add]
  refine Sep.store (E:=inferInstanceAs (Enc Int)) Qr (v:=I (k:Int)) (y:=(k:Int)) rfl t.sep rb (i:=k) (by omega) rfl ?_
  intro h' o' x' eo s' r'
  rw [show B4 ((k:Int)+1)=((k+1:Nat):Int) by rw [B6]<;>omega]
  refine ⟨⟨k+1,o',_,by omega,rfl,t.off s' tp (fun y hy=>by rw [eo,B5 _ _ hy]),r',by rw [List.length_set];exact hpl,fun i hi=>?_⟩,by simp only [Fd];omega⟩
  by_cases e:i=k
  ·subst e;rw [List.getElem?_set_self (by omega)]
  ·rw [List.getElem?_set_ne (fun x=>e x.symm)]
   exact hpe i (by omega)
 have hkn:k=rows:=by omega
 subst hkn
 have rp:∃ ps:List Int,RowB o bp ps/\ps.length=k/\∀ i,i<k->ps[i]? = some (((fun i=>i) i:Nat):Int):=⟨ps,rb,hpl,hpe⟩
 have ewm:B4 ((k:Int)*(k:Int))=((k*k:Nat):Int):=by rw [<- Int.natCast_mul];exact V9 (by omega)
 rw [ewm]
 refine ⟨fun L q=>∃ (bl bu:Nat) (o':Heap),L=[.slice (some ⟨bl,0,none⟩) (k*k) (k*k),.slice (some ⟨bu,0,none⟩) (k*k) (k*k)]/\LuT q g2 o' T (elP (rvs la) k k 0).M (elP (rvs la) k k 0).S bp bl bu k (fun i=>i) (fun _ _=>0) (fun _ _=>0),⟨?_,?_⟩,?_⟩
 ·refine N9 A7l (zx:=Aj) rfl (by omega) (by omega) (by omega) (by omega) ?_
  intro b3 hb3
  simp only [Int.toNat_natCast]
  refine ⟨_,_,_,rfl,Heap.le_put _ hb3,?_⟩
  refine N9 A7l (zx:=Aj) rfl (by omega) (by omega) (by omega) (by omega) ?_
  intro b4 hb4
  simp only [Int.toNat_natCast]
  obtain ⟨o',X⟩:=LuT.init t rp tp (e1:=I3) (e2:=I3) hb3 hb4
  exact ⟨_,_,_,rfl,Heap.le_put _ hb4,b3,b4,o',rfl,X⟩
 ·refine N9 A7l (zx:=Aj) rfl (by omega) (by omega) (by omega) (by omega) ?_
  intro b3 hb3
  simp only [Int.toNat_natCast]
  refine ⟨_,_,_,rfl,Heap.le_put _ hb3,?_⟩
  refine N9 A7l (zx:=Aj) rfl (by omega) (by omega) (by omega) (by omega) ?_
  intro b4 hb4
  simp only [Int.toNat_natCast]
  obtain ⟨o',X⟩:=LuT.init t rp tp (e1:=I3) (e2:=I3) hb3 hb4
  exact ⟨_,_,_,rfl,Heap.le_put _ hb4,b4,b3,o',rfl,X.sym⟩
 clear t rp rb hpe
 rintro lA ln lc uA un uc hq ⟨bl,bu,o3,eL,X0⟩
 simp only [List.cons.injEq,Value.slice.injEq,and_true] at eL
 obtain ⟨⟨rfl,rfl,rfl⟩,rfl,rfl,rfl⟩:=eL
 refine X0.t.sep.call (Da (by omega) (by omega) ?_)
 intro zs1 zA zn zc g4 l4 iz h4 s4
 have X4:=X0.next s4 l4
 refine ⟨_,_,_,_,rfl,?_⟩
 refine ⟨fun L hq=>∃ (j:Nat) (g o:Heap) (M:Nat->Nat->Int) (S:Nat->Rat) (wb:IV),j<=k/\L=[I (j:Int),I 0,I 0,.slice none 0 0,I 0,I 0,.slice none 0 0,.bool wb.s,.slice wb.A wb.n wb.c]/\g2.le g/\LuT hq g o T M S bp bl bu k (Bo k (mtx (rvs la) k) j).p (Bo k (mtx (rvs la) k) j).L (fun a b=>if a<j then (Bo k (mtx (rvs la) k) j).R a b else 0)/\(∀ a b,j<=a->a<k->b<k->M a b=(elP (rvs la) k k j).M a b)/\(∀ a,a<k->S a=(elP (rvs la) k k j).S a)/\ZIr g wb (elP (rvs la) k k j).last/\∀ c',c'<j->O2 k c' (Bo k (mtx (rvs la) k) c')<k,fun L _=>k-(iAt L 0).toNat,
  ⟨0,g4,_,_,_,⟨zs1,zA,zn,zc⟩,by omega,rfl,l4,X4.congr (fun _ _ _ _=>rfl) (fun a b _ _=>by rw [if_neg (Nat.not_lt_zero a)]),fun _ _ _ _ _=>rfl,fun _ _=>rfl,by rw [hE0.2.2];exact iz,fun c' hc=>by omega⟩,?_⟩
 clear X0 X4 s4 iz
 rintro z x0 x1 x2A x2n x2c x3 x4 x5A x5n x5c y0 y1A y1n y1c hq1 ⟨j,g,o,M,S,wb,hj,eL,lg,X,eM,eS,iwb,hrow⟩
 simp only [List.cons.injEq,Value.int.injEq,Value.slice.injEq,Value.bool.injEq,true_and,and_true] at eL
 obtain ⟨rfl,rfl,rfl,⟨rfl,rfl,rfl⟩,rfl,rfl,⟨rfl,rfl,rfl⟩,rfl,rfl,rfl,rfl⟩:=eL
 have inv:=run j hj hrow
 have F:=facts j hj inv
 have Fn:=fnext j F
 have hstep:=hst j
 refine B7 (fun hlt=>?_) (fun hge=>?_)
 ·have hjk:j<k:=by omega
  obtain ⟨f1,f2,f3,f4⟩:=Mv (Bo k (mtx (rvs la) k) j) (show j<=k by omega)
  have frow:=F.row
  have hz:=inv.zero
  have lz:=inv.lz
  have pB:=p3 j hj
  have pB1:=p1 j
  have hB:=F.zM;have hBl:=F.zl;have hBS:=F.zS;have hval:=F.val;have hlast:=F.last;have hS0:=F.S;have hlen:=F.len
  have ill': ¬ O2 k j (Bo k (mtx (rvs la) k) j)<k->¬ ∀ c,c<k->O2 k c (Bo k (mtx (rvs la) k) c)<k:=fun h1 h2=>h1 (h2 j hjk)
  have invS:=fun hr=>inv.step hm1 hjk hr
  generalize hP1:elP (rvs la) k k (j+1)=P1 at *
  generalize hP:elP (rvs la) k k j=P at *
  have hsn:∀ hr:O2 k j (Bo k (mtx (rvs la) k) j)<k,True:=fun _=>trivial
  generalize hs1:Bo k (mtx (rvs la) k) (j+1)=s1 at *
  generalize hsk:Bo k (mtx (rvs la) k) j=sk at *
  generalize 3^j*bnd k m=B at *
  have bB:bnd k m<=3^k*bnd k m:=hb3
  generalize hQ:3^k*bnd k m=Q at *
  have ewk:B4 ((j:Int)+1)=((j+1:Nat):Int):=by rw [B6]<;>omega
  have ix:∀ a b:Nat,a<k->b<k->B4 (B4 ((a:Int)*(k:Int))+(b:Int))=((a*k+b:Nat):Int):=by
   intro a b ha hb
   have:=U1 ha hb
   rw [<- Int.natCast_mul,V9 (by omega)]
   exact V9 (n:=a*k+b) (by omega)
  have efnd:fnd (fun i=>decide (M i j≠0)) (T.rows-j) j=O2 k j sk:=by
   rw [<- frow,e1]
   unfold Ms
   rw [hlen]
   exact Kx _ _ fun i h1 h2=>by rw [eM i j h1 (by omega) hjk]
  refine A0n X.t (start:=j) (col:=j) (by omega) (by omega) (fun hx=>?_) (fun hx=>⟨_,_,rfl,A3r (ill (ill' (by omega)) none 0 none 0 none 0 _ (A0 lh2 (A0 lg X.t.sep.le)) RowV.nil RowV.nil RowV.nil)⟩)
  rw [efnd] at hx ⊢
  have hr:O2 k j sk<k:=by omega
  obtain ⟨n1,n2,n3⟩:=Fn hr
  have hxn:∀ i,i<k->xch j (O2 k j sk) i<k:=fun i hi=>Fu hjk hr hi
  have hxg:∀ i,j<=i->j<=xch j (O2 k j sk) i:=fun i hi=>A3s f1 hi
  have hxb:∀ i,i<j->xch j (O2 k j sk) i=i:=fun i hi=>Qi f1 hi
  have xk:xch j (O2 k j sk) j=O2 k j sk:=He _ _
  have hRn:s1.R=If (fun i=>sk.R (xch j (O2 k j sk) i)) j:=by rw [hstep];rfl
  have hLn:s1.L=Kd (fun i=>sk.R (xch j (O2 k j sk) i)) (fun i=>sk.L (xch j (O2 k j sk) i)) j:=by rw [hstep];rfl
  have hPn:s1.p=fun i=>sk.p (xch j (O2 k j sk) i):=by rw [hstep];rfl
  generalize hr0:O2 k j sk=r0 at *
  refine ⟨_,_,rfl,Br.nt ?_⟩
  refine ⟨fun L hq=>L=[]/\∃ (o':Heap) (M1:Nat->Nat->Int) (S1:Nat->Rat),LuT hq g o' T M1 S1 bp bl bu k (fun i=>sk.p (xch j r0 i)) (fun i=>sk.L (xch j r0 i)) (fun a b=>if a<j then sk.R a b else 0)/\(∀ a b,j<=a->a<k->b<k->M1 a b=P.M (xch j r0 a) b)/\(∀ a,a<k->S1 a=P.S (xch j r0 a)),?_,?_⟩
  ·refine L8 (fun hne=>?_) (fun heq=>?_)
   ·have hne':j≠r0:=by omega
    refine Zs X.t (i:=j) (k:=r0) (by omega) (by omega) hne' ?_
    intro h6 o6 t6 ko6
    have X6:=X.tab t6 (B3 _) (fun b hb=>ko6 b (fun e=>hb (.inr (.inl e))) (fun e=>hb (.inr (.inr e))))
    refine ⟨rfl,_,rfl,by omega,by omega,_,X6.pat hr,_,rfl,by omega,by omega,_,X6.pat hjk,_,rfl,by omega,by omega,?_⟩
    refine X6.storeP (i:=j) hjk ?_
    intro h7 o7 X7
    refine ⟨_,rfl,by omega,by omega,?_⟩
    refine X7.storeP (i:=r0) hr ?_
    intro h8 o8 X8
    have X8':LuT h8 g o8 T (fun a=>M (xch j r0 a)) (fun a=>S (xch j r0 a)) bp bl bu k (fun i=>sk.p (xch j r0 i)) sk.L (fun a b=>if a<j then sk.R a b else 0):=by
     refine ⟨X8.t,?_,X8.l,X8.u,X8.tp,X8.tl,X8.tu,X8.pl,X8.pu,X8.lu⟩
     obtain ⟨ps,r1,r2,r3⟩:=X8.p
     refine ⟨ps,r1,r2,fun i hi=>?_⟩
     rw [r3 i hi]
     congr 2
     show (if i=r0 then sk.p j else if i=j then sk.p r0 else sk.p i)=sk.p (xch j r0 i)
     unfold xch
     by_cases e1:i=j
     ·rw [if_neg (by omega),if_pos e1,if_pos e1]
     ·rw [if_neg e1,if_neg e1]
      by_cases e2:i=r0
      ·rw [if_pos e2,if_pos e2]
      ·rw [if_neg e2,if_neg e2]
    refine ⟨fun L hq=>∃ (b:Nat) (o':Heap),b<=j/\L=[I (b:Int)]/\LuT hq g o' T (fun a=>M (xch j r0 a)) (fun a=>S (xch j r0 a)) bp bl bu k (fun i=>sk.p (xch j r0 i)) (fun a c=>if c<b then sk.L (xch j r0 a) c else sk.L a c) (fun a b=>if a<j then sk.R a b else 0),fun L _=>j-(iAt L 0).toNat,⟨0,o8,by omega,rfl,X8'.congr (fun a c _ _=>by rw [if_neg (Nat.not_lt_zero c)]) (fun _ _ _ _=>rfl)⟩,?_⟩
    rintro z h9 ⟨b,o9,hbj,eL,X9⟩
    obtain rfl:z=(b:Int):=by simpa using eL
    refine B7 (fun hlt2=>?_) (fun hge2=>?_)
    ·have hbj':b<j:=by omega
     rw [ix r0 b hr (by omega),ix j b hjk (by omega)]
     have i1:=U1 hr (show b<k by omega)
     have i2:=U1 hjk (show b<k by omega)
     obtain ⟨w1,q1,c0,c1,c2,c3⟩:=X9.l.at hr (show b<k by omega)
     obtain ⟨w2,q2,d0,d1,d2,d3⟩:=X9.l.at hjk (show b<k by omega)
     rw [if_neg (Nat.lt_irrefl b)] at q1 q2
     have sp:=X9.t.sep
     refine ⟨_,rfl,by omega,by omega,_,_,_,_,_,_,_,_,sp.cell c0,sp.cell c1,sp.cell c2,sp.cell c3,_,rfl,by omega,by omega,_,_,_,_,_,_,_,_,sp.cell d0,sp.cell d1,sp.cell d2,sp.cell d3,_,rfl,by omega,by omega,?_⟩
     refine X9.storeL hjk (show b<k by omega) (w:=w1) q1 ?_
     intro h10 o10 X10
     refine ⟨_,rfl,by omega,by omega,?_⟩
     refine X10.storeL hr (show b<k by omega) (w:=w2) q2 ?_
     intro h11 o11 X11
     rw [show B4 ((b:Int)+1)=((b+1:Nat):Int) by rw [B6]<;>omega]
     refine ⟨⟨b+1,o11,by omega,rfl,X11.congr (fun a c _ _=>?_) (fun _ _ _ _=>rfl)⟩,by simp only [Fd];omega⟩
     unfold Wd
     show (if a=r0/\c=b then sk.L j b else if a=j/\c=b then sk.L r0 b else if c<b then sk.L (xch j r0 a) c else sk.L a c)=if c<b+1 then sk.L (xch j r0 a) c else sk.L a c
     unfold xch
     grind
    ·have:b=j:=by omega
     subst this
     refine ⟨rfl,o9,_,_,X9.congr (fun a c ha _=>?_) (fun _ _ _ _=>rfl),fun a b' ha1 ha2 hb'=>eM _ b' (hxg a ha1) (hxn a ha2) hb',fun a ha=>eS _ (hxn a ha)⟩
     by_cases e:c<b
     ·rw [if_pos e]
     ·rw [if_neg e,lz a c (by omega),lz _ c (by omega)]
   ·have heq':r0=j:=by omega
    have xid:∀ i,xch j r0 i=i:=fun i=>by rw [heq'];unfold xch;grind
    refine ⟨rfl,o,M,S,?_,fun a b ha1 ha2 hb'=>by rw [xid];exact eM a b ha1 ha2 hb',fun a ha=>by rw [xid];exact eS a ha⟩
    have:=X
    simp only [xid]
    exact this
  rintro hq2 ⟨_,o5,M1,S1,X5,eM1,eS1⟩
  clear X eM eS
  have hR1z:∀ b,b<j->sk.R r0 b=0:=fun b hb=>hz r0 b hr f1 hb
  refine Ao X5.t (i:=j) (by omega) ?_
  rw [e2]
  refine ⟨_,_,_,rfl,?_⟩
  have sS:∀ a,a<k->Sz Q (P.S a):=fun a ha=>(hBS a ha).mono bB
  have zM:∀ a b,a<k->b<k->ZB Q (P.M a b):=fun a b ha hb=>(hB a b ha hb).mono pB
  have zL:ZB Q P.last:=hBl.mono pB
  have Q1:1<=Q:=Nat.le_trans pB1 pB
  have hpv:=hval r0 j hr f1 hjk
  have hpne:P.M r0 j≠0:=by
   intro e
   rw [e] at hpv
   have h0:((0:Int):Rat)=0:=rfl
   rw [h0] at hpv
   rcases Rat.mul_eq_zero.1 hpv.symm with e1|e1
   ·exact P7 hlast e1
   ·rcases Rat.mul_eq_zero.1 e1 with e2|e2
    ·exact hS0 r0 hr e2
    ·exact f3 hr e2
  have lhg:=A0 lh2 lg
  refine ⟨fun L hq=>∃ (b:Nat) (g' o':Heap),j<=b/\b<=k/\L=[I (b:Int)]/\g.le g'/\LuT hq g' o' T M1 S1 bp bl bu k (fun i=>sk.p (xch j r0 i)) (fun i=>sk.L (xch j r0 i)) (fun a c=>if a<j then sk.R a c else if a=j/\c<b then sk.R r0 c else 0),fun L _=>k-(iAt L 0).toNat,⟨j,g,o5,Nat.le_refl _,by omega,rfl,B3 _,X5.congr (fun _ _ _ _=>rfl) (fun a c _ _=>?_)⟩,?_⟩
  ·by_cases e:a<j
   ·rw [if_pos e,if_pos e]
   ·rw [if_neg e,if_neg e]
    by_cases e2:a=j/\c<j
    ·rw [if_pos e2,hR1z c e2.2]
    ·rw [if_neg e2]
  rintro z h6 ⟨b,g6,o6,hb1,hb2,eL,l6,X6⟩
  obtain rfl:z=(b:Int):=by simpa using eL
  refine B7 (fun hlt3=>?_) (fun hge3=>?_)
  ·have hbk:b<k:=by omega
   obtain ⟨wv,zv,c0,c1⟩:=X6.t.at (i:=j) (j:=b) (by omega) (by omega)
   rw [e2] at c0 c1
   obtain ⟨ws,is,d0,d1,d2,d3⟩:=X6.t.sat (i:=j) (by omega)
   have em:=eM1 j b (Nat.le_refl _) hjk hbk
   have es:=eS1 j hjk
   rw [xk] at em es
   rw [em] at zv
   rw [es] at is
   refine ⟨_,rfl,by omega,by omega,_,_,_,_,c0,c1,_,rfl,_,_,_,X6.t.c2,_,rfl,by omega,by omega,_,_,_,_,_,_,_,_,d0,d1,d2,d3,?_⟩
   refine X6.t.sep.call (Q3 (m:=Q) (gl.mono (A0 lhg l6)).tz zv (Rf _ _ _ _ l6 iwb) (zM r0 b hr hbk) zL (by omega) ?_)
   intro w7 g7 l7 i7 h7 s7
   refine ⟨_,_,_,_,_,_,_,_,rfl,X6.t.sep.le_le s7 l7,?_⟩
   refine s7.call (My (m:=Q) (gl.mono (A0 lhg (A0 l6 l7))).tz i7 (S5 _ _ _ _ l7 is) (Z1 hlast (zM r0 b hr hbk) zL) (sS r0 hr) Q1 (by omega) ?_)
   intro w8 g8 l8 i8 h8 s8
   have ev:Rat.divInt (P.M r0 b) P.last/P.S r0=sk.R r0 b:=by
    rw [Rat.divInt_eq_div,hval r0 b hr f1 hbk]
    exact fr1 (P7 hlast) (hS0 r0 hr)
   rw [ev] at i8
   have i1:=U1 hjk hbk
   refine ⟨_,_,_,_,_,_,_,_,rfl,s7.le_le s8 l8,?_⟩
   rw [ix j b hjk hbk]
   refine ⟨_,rfl,by omega,by omega,?_⟩
   refine (X6.next s8 (A0 l7 l8)).storeU hjk hbk i8 ?_
   intro h9 o9 X9
   rw [show B4 ((b:Int)+1)=((b+1:Nat):Int) by rw [B6]<;>omega]
   refine ⟨⟨b+1,g8,o9,by omega,by omega,rfl,A0 l6 (A0 l7 l8),X9.congr (fun _ _ _ _=>rfl) (fun a c _ _=>?_)⟩,by simp only [Fd];omega⟩
   unfold Wd
   show (if a=j/\c=b then sk.R r0 b else if a<j then sk.R a c else if a=j/\c<b then sk.R r0 c else 0)=if a<j then sk.R a c else if a=j/\c<b+1 then sk.R r0 c else 0
   by_cases e:a=j/\c=b
   ·rw [if_pos e,if_neg (by omega),if_pos (by omega),e.2]
   ·rw [if_neg e]
    by_cases e2:a<j
    ·rw [if_pos e2,if_pos e2]
    ·rw [if_neg e2,if_neg e2]
     by_cases e3:a=j/\c<b
     ·rw [if_pos e3,if_pos (by omega)]
     ·rw [if_neg e3,if_neg (by omega)]
  have hbk:b=k:=by omega
  subst hbk
  refine X6.t.sep.call (Qo ⟨by omega,by omega⟩ ?_)
  intro w7 g7 l7 i7 h7 s7
  have one:((1:Int):Rat)=1:=rfl
  rw [one] at i7
  have i0:=U1 hjk hjk
  refine ⟨_,_,_,_,_,_,_,_,rfl,?_⟩
  rw [ix j j hjk hjk]
  refine ⟨_,rfl,by omega,by omega,?_⟩
  refine (X6.next s7 l7).storeL hjk hjk i7 ?_
  intro h8 o8 X8
  have l67:=A0 l6 l7
  have X8':=X8.congr (L':=Ig (fun i=>sk.R (xch j r0 i)) (fun i=>sk.L (xch j r0 i)) j (j+1)) (fun a c _ _=>Qu (fun i=>sk.R (xch j r0 i)) (fun i=>sk.L (xch j r0 i)) j (a:=a) (b:=c)) (fun _ _ _ _=>rfl)
  refine ⟨fun L hq=>∃ (i:Nat) (g' o':Heap) (M2:Nat->Nat->Int),j+1<=i/\i<=b/\L=[I (i:Int)]/\g7.le g'/\LuT hq g' o' T M2 S1 bp bl bu b (fun i=>sk.p (xch j r0 i)) (Ig (fun i=>sk.R (xch j r0 i)) (fun i=>sk.L (xch j r0 i)) j i) (fun a c=>if a<j then sk.R a c else if a=j/\c<b then sk.R r0 c else 0)/\(∀ a c,j<=a->a<b->c<b->M2 a c=if j<a/\a<i then P1.M a c else P.M (xch j r0 a) c),fun L _=>b-(iAt L 0).toNat,⟨j+1,g7,o8,M1,Nat.le_refl _,by omega,by rw [ewk],B3 _,X8',fun a c ha1 ha2 hc=>by rw [if_neg (by omega)];exact eM1 a c ha1 ha2 hc⟩,?_⟩
  clear X8 X8' X6 X5
  rintro z h10 ⟨i,g10,o10,M2,hi1,hi2,eL,l10,X10,eM2⟩
  obtain rfl:z=(i:Int):=by simpa using eL
  have lgg:=A0 l67 l10
  obtain ⟨wk,zk,k0,k1⟩:=X10.t.at (i:=j) (j:=j) (by omega) (by omega)
  rw [e2] at k0 k1
  have emj:∀ c,c<b->M2 j c=P.M r0 c:=fun c hc=>by
   have:=eM2 j c (Nat.le_refl _) hjk hc
   rw [if_neg (by omega),xk] at this
   exact this
  rw [emj j hjk] at zk
  refine B7 (fun hlt4=>?_) (fun hge4=>?_)
  ·have hib:i<b:=by omega
   have hxi:=hxn i hib
   have emi:∀ c,c<b->M2 i c=P.M (xch j r0 i) c:=fun c hc=>by
    have:=eM2 i c (by omega) hib hc
    rw [if_neg (by omega)] at this
    exact this
   obtain ⟨wi,zi,m0,m1⟩:=X10.t.at (i:=i) (j:=j) (by omega) (by omega)
   rw [e2] at m0 m1
   rw [emi j hjk] at zi
   refine ⟨_,rfl,by omega,by omega,_,_,_,_,k0,k1,?_⟩
   refine Ao X10.t (i:=i) (by omega) ?_
   rw [e2]
   refine ⟨_,_,_,rfl,B3 _,_,rfl,by omega,by omega,_,_,_,_,m0,m1,?_⟩
   refine X10.t.sep.call (Q3 (m:=Q) (gl.mono (A0 lhg lgg)).tz zi zk (zM _ j hxi hjk) (zM r0 j hr hjk) (by omega) ?_)
   intro w11 g11 l11 i11 h11 s11
   have X11:=X10.next s11 l11
   obtain ⟨wa,ia,a0,a1,a2,a3⟩:=X11.t.sat (i:=j) (by omega)
   obtain ⟨wc,ic,c0,c1,c2,c3⟩:=X11.t.sat (i:=i) (by omega)
   rw [eS1 j hjk,xk] at ia
   rw [eS1 i hib] at ic
   refine ⟨_,_,_,_,_,_,_,_,rfl,X10.t.sep.le_le s11 l11,_,rfl,_,_,_,X11.t.c2,_,rfl,by omega,by omega,_,_,_,_,_,_,_,_,a0,a1,a2,a3,_,rfl,_,_,_,X11.t.c2,_,rfl,by omega,by omega,_,_,_,_,_,_,_,_,c0,c1,c2,c3,?_⟩
   have sr:Sz Q (Rat.divInt (P.M (xch j r0 i) j) (P.M r0 j)):=Z1 hpne (zM _ j hxi hjk) (zM r0 j hr hjk)
   have lh11:=A0 lhg (A0 lgg l11)
   refine s11.call (Up (m:=Q) (gl.mono lh11).tz i11 ia sr (sS r0 hr) (by omega) ?_)
   intro w12 g12 l12 i12 h12 s12
   refine ⟨_,_,_,_,_,_,_,_,rfl,s11.le_le s12 l12,?_⟩
   refine s12.call (My (m:=Q+Q) (gl.mono (A0 lh11 l12)).tz i12 (S5 _ _ _ _ l12 ic) (sr.mul (sS r0 hr)) ((sS _ hxi).mono (by omega)) (by omega) (by omega) ?_)
   intro w13 g13 l13 i13 h13 s13
   have ev:Rat.divInt (P.M (xch j r0 i) j) (P.M r0 j)*P.S r0/P.S (xch j r0 i)=sk.R (xch j r0 i) j/sk.R (xch j r0 j) j:=by
    rw [Rat.divInt_eq_div,hval _ j hxi (hxg i (by omega)) hjk,hpv,xk]
    exact fr2 (P7 hlast) (hS0 _ hxi) (hS0 r0 hr)
   rw [ev] at i13
   have i1:=U1 hib hjk
   refine ⟨_,_,_,_,_,_,_,_,rfl,s12.le_le s13 l13,?_⟩
   rw [ix i j hib hjk]
   refine ⟨_,rfl,by omega,by omega,?_⟩
   have l1013:=A0 l11 (A0 l12 l13)
   refine (X11.next s13 (A0 l12 l13)).storeL hib hjk i13 ?_
   intro h14 o14 X14
   refine Vg (m:=Q) X14.t (i:=i) (p:=j) (c:=j) (wb:=wb) (d:=P.last) (by omega) (by omega) (by omega) (by omega) (Rf _ _ _ _ (A0 lgg l1013) iwb) hlast Q1 (by omega) (fun c hc=>by rw [emi c (by omega)];exact zM _ c hxi (by omega)) (fun c hc=>by rw [emj c (by omega)];exact zM r0 c hr (by omega)) zL ?_
   intro h15 g15 o15 l15 t15 ko15
   have X15:=X14.tab t15 l15 (fun y hy=>ko15 y (fun e=>hy (.inr (.inl e))))
   rw [show B4 ((i:Int)+1)=((i+1:Nat):Int) by rw [B6]<;>omega]
   refine ⟨rfl,⟨i+1,g15,o15,_,by omega,by omega,rfl,A0 l10 (A0 l1013 l15),X15.congr (fun a c _ _=>Uo (fun i=>sk.R (xch j r0 i)) (fun i=>sk.L (xch j r0 i)) (a:=a) (b:=c) (show j<i by omega)) (fun _ _ _ _=>rfl),fun a c ha1 ha2 hc=>?_⟩,by simp only [Fd];omega⟩
   show (if a=i then (M2 j j*M2 i c-M2 i j*M2 j c).tdiv P.last else M2 a c)=_
   by_cases e:a=i
   ·subst e
    rw [if_pos rfl,if_pos ⟨by omega,by omega⟩,emj j hjk,emj c hc,emi j hjk,emi c hc,n1]
    unfold clr
    rw [if_neg (by omega)]
    simp only [xk]
   ·rw [if_neg e,eM2 a c ha1 ha2 hc]
    by_cases e3:j<a/\a<i
    ·rw [if_pos e3,if_pos ⟨e3.1,by omega⟩]
    ·rw [if_neg e3,if_neg (by omega)]
  ·have:i=b:=by omega
   subst this
   refine ⟨_,rfl,by omega,by omega,_,_,_,_,k0,k1,?_⟩
   rw [ewk]
   refine ⟨⟨j+1,g10,o10,M2,S1,wk,by omega,rfl,A0 lg lgg,?_,fun a c ha1 ha2 hc=>?_,fun a ha=>?_,?_,fun c' hc'=>?_⟩,by simp only [Fd];omega⟩
   ·rw [hs1,hPn,hLn,hRn]
    refine X10.congr (fun a c ha _=>?_) (fun a c ha hc=>?_)
    ·by_cases e:c=j
     ·rw [e];exact Zz (fun i=>sk.R (xch j r0 i)) (fun i=>sk.L (xch j r0 i)) ha (fun i hi=>lz _ j (Nat.le_refl j))
     ·unfold Ig Kd
      rw [if_neg (fun x=>e x.1),if_neg e]
    ·unfold If
     by_cases e:a<j
     ·rw [if_pos e,if_pos (by omega),if_pos (.inl (by omega))]
      show sk.R a c=sk.R (xch j r0 a) c
      rw [hxb a e]
     ·rw [if_neg e]
      by_cases e2:a=j/\c<i
      ·rw [if_pos e2,if_pos (by omega),if_pos (.inl (by omega))]
       show sk.R r0 c=sk.R (xch j r0 a) c
       rw [e2.1,xk]
      ·rw [if_neg e2,if_neg (by omega)]
   ·rw [hP1,eM2 a c (by omega) ha2 hc,if_pos ⟨by omega,ha2⟩]
   ·rw [hP1,n2,eS1 a ha]
   ·rw [hP1,n3]
    exact zk
   ·by_cases e:c'=j
    ·rw [e,hsk,hr0];exact hr
    ·exact hrow c' (by omega)
 ·have:j=k:=by omega
  subst this
  have lhq:=A0 lh2 (A0 lg X.t.sep.le)
  have good':=good hrow
  have rvl:RowV RQr hq1 (some ⟨bl,0,none⟩) (j*j) (fun t=>(Bo j (mtx (rvs la) j) j).L (t/j) (t%j)):=X.l.row X.t.sep (by omega)
  have rvu0:=X.u.row X.t.sep (by omega)
  have rvu:RowV RQr hq1 (some ⟨bu,0,none⟩) (j*j) (fun t=>(Bo j (mtx (rvs la) j) j).R (t/j) (t%j)):=rvu0.congr fun t ht=>if_pos (Nat.div_lt_of_lt_mul ht)
  have rvp:RowV IIr hq1 (some ⟨bp,0,none⟩) j (fun i=>(((Bo j (mtx (rvs la) j) j).p i:Nat):Int)):=by
   obtain ⟨ps,r1,r2,r3⟩:=X.p
   exact ⟨ps,r1.slF X.t.sep.ole,r2,fun i hi=>⟨_,r3 i hi,rfl⟩⟩
  have dm:∀ t,t<j*j->t/j<j/\t%j<j:=fun t ht=>⟨Nat.div_lt_of_lt_mul ht,Nat.mod_lt t (by omega)⟩
  refine Eh (m:=7^j*m) (gl.mono lhq) rvl (by omega) (fun t ht=>inv.szL _ _ (dm t ht).1 (dm t ht).2) (by omega) ?_
  intro b5 h5 own5
  refine ⟨_,_,_,_,_,rfl,?_⟩
  have l5:=own5.le
  refine Eh (m:=7^j*m) (gl.mono (A0 lhq l5)) (rvu.mono S5 l5) (by omega) (fun t ht=>inv.szR _ _ (dm t ht).1 (dm t ht).2) (by omega) ?_
  intro b6 h6 own6
  exact ⟨_,_,_,_,_,rfl,good' (some ⟨bp,0,none⟩) _ _ _ _ _ h6 (A0 lhq (A0 l5 own6.le)) (rvp.mono B7u (A0 l5 own6.le)) ((own5.vis Bq).mono Bq own6.le) (own6.vis Bq)⟩
end
structure VV where
 A:Option Addr
 n:Nat
 c:Nat
 s:Bool
 B:Option Addr
 bn:Nat
 bc:Nat
abbrev VV.v(w:VV):Value:=.agg #[.slice w.A w.n w.c,.bool w.s,.slice w.B w.bn w.bc]
instance:Enc VV:=⟨⟨fun w=>[.slice w.A w.n w.c,.bool w.s,.slice w.B w.bn w.bc],3,fun _=>rfl,fun w v hv=>by
 simp only [List.mem_cons,List.not_mem_nil,or_false] at hv
 rcases hv with rfl|rfl|rfl<;>rfl⟩⟩
def VQr(w:Nat):Heap->VV->(Nat->Rat)->Prop:=fun h v f=>v.n=w/\ZI h v.s v.B v.bn v.bc (Jq f w:Int)/\RowV ZIr h v.A w (fun j=>scl (f j) (Jq f w:Int))
section
variable {h:Heap} {K:Value->Heap->Prop} {A B:Option Addr} {n cap m w:Nat} {f f2:Nat->Rat}
end
section
variable {h:Heap} {K:Value->Heap->Prop} {A:Option Addr} {cap m rows cols:Nat} {E:Nat->Rat}
end
section
variable {h:Heap} {K:Value->Heap->Prop} {A B:Option Addr} {n w cap cap2 m:Nat} {f f2:Nat->Rat} {R:Nat->Nat->Rat}
end
structure VOut where
 n:Nat
 f:Nat->List UInt8
 e:Int
def noV(e:Int):VOut:=⟨0,fun _=>[],e⟩
def ApplO(r c:Int)(n:Nat)(la:Nat->List UInt8)(n2:Nat)(lx:Nat->List UInt8)(o:VOut):Prop:=
 (¬ (Mx r c n la/\∀ i,i<n2->IsNum (lx i))/\o=noV 1)\/(Mx r c n la/\(∀ i,i<n2->IsNum (lx i))/\(n2:Int)≠c/\o=noV 4)\/(∃ rows cols,MOk r c n la rows cols/\(∀ i,i<n2->IsNum (lx i))/\(n2:Int)=c/\o=⟨rows,fun i=>N5 (sm cols (fun j=>mtx (rvs la) cols i j*rv (lx j))),0⟩)
theorem ApplO.eq{r c:Int}{n n2:Nat}{la lx:Nat->List UInt8}{o p:VOut}(x:ApplO r c n la n2 lx o)(y:ApplO r c n la n2 lx p):o=p:=by
 rcases x with ⟨h1,rfl⟩|⟨h1,h2,h3,rfl⟩|⟨r1,c1,h1,h2,h3,rfl⟩<;>rcases y with ⟨g1,rfl⟩|⟨g1,g2,g3,rfl⟩|⟨r2,c2,g1,g2,g3,rfl⟩
 ·rfl
 ·exact absurd ⟨g1,g2⟩ h1
 ·exact absurd ⟨⟨_,_,g1⟩,g2⟩ h1
 ·exact absurd ⟨h1,h2⟩ g1
 ·rfl
 ·exact absurd g3 h3
 ·exact absurd ⟨⟨_,_,h1⟩,h2⟩ g1
 ·exact absurd h3 g3
 ·obtain rfl:r2=r1:=by have:=h1.er;have:=g1.er;omega
  obtain rfl:c2=c1:=by have:=h1.ec;have:=g1.ec;omega
  rfl
section
variable {h:Heap} {K:Value->Heap->Prop} {A B:Option Addr} {n n2 cap cap2 m:Nat} {r c:Int} {la lx:Nat->List UInt8}
end
section
variable {h:Heap} {K:Value->Heap->Prop} {A B:Option Addr} {n n2 cap cap2 m:Nat} {r c:Int} {la lx:Nat->List UInt8}
end
def MulO(r c:Int)(n:Nat)(la:Nat->List UInt8)(r2 c2:Int)(n2:Nat)(lb:Nat->List UInt8)(o:MOut):Prop:=
 (¬ (Mx r c n la/\Mx r2 c2 n2 lb)/\o=noM 1)\/(Mx r c n la/\Mx r2 c2 n2 lb/\c≠r2/\o=noM 4)\/(∃ rows mid cols,MOk r c n la rows mid/\MOk r2 c2 n2 lb mid cols/\o=⟨r,c2,rows*cols,fun k=>N5 (sm mid (fun j=>mtx (rvs la) mid (k/cols) j*mtx (rvs lb) cols j (k%cols))),0⟩)
theorem MulO.n_le{r c r2 c2:Int}{n n2:Nat}{la lb:Nat->List UInt8}{o:MOut}(x:MulO r c n la r2 c2 n2 lb o):o.n<=4096:=by
 rcases x with ⟨_,rfl⟩|⟨_,_,_,rfl⟩|⟨a1,b1,c1,h1,h2,rfl⟩
 ·exact Nat.zero_le _
 ·exact Nat.zero_le _
 ·have:a1*c1<=64*64:=Nat.mul_le_mul h1.r2 h2.c2
  exact this
theorem A5t{f f':Nat->Rat}: ∀ n,(∀ i,i<n->f i=f' i)->Jq f n=Jq f' n:=by
 intro n
 induction n with
 | zero=>intro _;rfl
 | succ n ih=>
  intro e
  show Nat.lcm (Jq f n) (f n).den=Nat.lcm (Jq f' n) (f' n).den
  rw [ih fun i hi=>e i (by omega),e n (by omega)]
theorem VQr.congr{h:Heap}{w:Nat}{v:VV}{f f':Nat->Rat}(x:VQr w h v f)(e:∀ i,i<w->f i=f' i):VQr w h v f':=by
 have hd:Jq f w=Jq f' w:=A5t w e
 obtain ⟨a,b,c⟩:=x
 rw [hd] at b c
 exact ⟨a,b,c.congr fun j hj=>by rw [e j hj]⟩
section
variable {h:Heap} {K:Value->Heap->Prop} {A B:Option Addr} {n n2 cap cap2 m:Nat} {r c r2 c2:Int} {la lb:Nat->List UInt8} {E:Nat->Rat}
end
def T8(E:Nat->Rat)(n:Nat):Nat->Rat:=fun k=>if k%(n+n)<n then E (k/(n+n)*n+k%(n+n)) else if k%(n+n)=n+k/(n+n) then 1 else 0
theorem Wc(E:Nat->Rat){n i j:Nat}(hj:j<n+n):T8 E n (i*(n+n)+j)=if j<n then E (i*n+j) else if j=n+i then 1 else 0:=by
 have e1:(i*(n+n)+j)/(n+n)=i:=by rw [Nat.add_comm,Nat.add_mul_div_right _ _ (by omega),Nat.div_eq_of_lt hj,Nat.zero_add]
 have e2:(i*(n+n)+j)%(n+n)=j:=by rw [Nat.add_comm,Nat.add_mul_mod_self_right,Nat.mod_eq_of_lt hj]
 unfold T8
 rw [e1,e2]
theorem Wb{E:Nat->Rat}{n m:Nat}(hm:1<=m)(hs:∀ i,i<n*n->Sz m (E i)):∀ i,i<n*(n+n)->Sz m (T8 E n i):=by
 intro i hi
 have h1:i/(n+n)<n:=Nat.div_lt_of_lt_mul (by rw [Nat.mul_comm];exact hi)
 unfold T8
 split
 ·rename_i h;exact hs _ (U1 h1 h)
 ·split
  ·exact ⟨ZB.one hm,ZB.one hm⟩
  ·exact Sz.zero hm
def A6t(E:Nat->Rat)(n:Nat):Prop:=(elE (T8 E n) n (n+n) n).cs.length=n
def A4e(E:Nat->Rat)(n:Nat):Nat->Nat->Rat:=fun i j=>(elE (T8 E n) n (n+n) n).R i (n+j)
def InvO(r c:Int)(n:Nat)(la:Nat->List UInt8)(o:MOut):Prop:=
 (¬ Mx r c n la/\o=noM 1)\/(Mx r c n la/\r≠c/\o=noM 4)\/(∃ q,MOk r c n la q q/\((A6t (rvs la) q/\o=⟨r,r,q*q,Nm (A4e (rvs la) q) q,0⟩)\/(¬ A6t (rvs la) q/\o=noM 7)))
theorem InvO.eq{r c:Int}{n:Nat}{la:Nat->List UInt8}{o p:MOut}(x:InvO r c n la o)(y:InvO r c n la p):o=p:=by
 rcases x with ⟨h1,rfl⟩|⟨h1,h2,rfl⟩|⟨q1,h1,h4⟩<;>rcases y with ⟨g1,rfl⟩|⟨g1,g2,rfl⟩|⟨q2,g1,g4⟩
 ·rfl
 ·exact absurd g1 h1
 ·exact absurd ⟨_,_,g1⟩ h1
 ·exact absurd h1 g1
 ·rfl
 ·exact absurd (by rw [g1.er,g1.ec]) h2
 ·exact absurd ⟨_,_,h1⟩ g1
 ·exact absurd (by rw [h1.er,h1.ec]) g2
 ·obtain rfl:q2=q1:=by have:=h1.er;have:=g1.er;omega
  rcases h4 with ⟨a,rfl⟩|⟨a,rfl⟩<;>rcases g4 with ⟨b,rfl⟩|⟨b,rfl⟩
  ·rfl
  ·exact absurd a b
  ·exact absurd b a
  ·rfl
theorem InvO.n_le{r c:Int}{n:Nat}{la:Nat->List UInt8}{o:MOut}(x:InvO r c n la o):o.n<=4096:=by
 rcases x with ⟨_,rfl⟩|⟨_,_,rfl⟩|⟨q,h1,⟨_,rfl⟩|⟨_,rfl⟩⟩
 ·exact Nat.zero_le _
 ·exact Nat.zero_le _
 ·have:q*q<=64*64:=Nat.mul_le_mul h1.r2 h1.r2
  exact this
 ·exact Nat.zero_le _
section
variable {h:Heap} {K:Value->Heap->Prop} {A:Option Addr} {n cap m:Nat} {r c:Int} {la:Nat->List UInt8}
theorem Ww(gl:Gl h)(ra:RowV SSr h A n la)(hn:n<=1000000)(hl:∀ i,i<n->(la i).length<=100000000)(hs:∀ i,i<n->Sz m (rv (la i)))(hm1:1<=m)(hb:∀ q,MOk r c n la q q->2*(3^q*bnd (q+q) m)+1<=40000000)
 (hK:∀ o,InvO r c n la o->∀ A' cap' h',h.le h'->RowV SSr h' A' o.n o.f->K (.tuple #[Nh o.r o.c A' o.n cap',I o.e]) h'):FCall Tryz.prog Nt #[Nh r c A n cap] h K:=by
 refine A3l _ _ _ _ _ ?_
 unfold A51
 refine Ho gl ra hn hl (fun rows cols mk b1 h1 own=>?_) (fun hno h1 l1=>⟨_,_,_,_,rfl,A3r (hK (noM 1) (.inl ⟨hno,rfl⟩) none 0 h1 l1 RowV.nil)⟩)
 have l1:=own.le
 refine ⟨_,_,_,_,rfl,Br.nt (L8 (fun e=>hK (noM 4) (.inr (.inl ⟨⟨_,_,mk⟩,e,rfl⟩)) none 0 h1 l1 RowV.nil) (fun e=>?_))⟩
 obtain rfl:rows=cols:=by have:=mk.er;have:=mk.ec;omega
 have good:=fun x=>hK ⟨r,r,rows*rows,Nm (A4e (rvs la) rows) rows,0⟩ (.inr (.inr ⟨rows,mk,.inl ⟨x,rfl⟩⟩))
 have ill:=fun x=>hK (noM 7) (.inr (.inr ⟨rows,mk,.inr ⟨x,rfl⟩⟩))
 have hb':=hb rows mk
 have:=mk.r1;have:=mk.r2
 obtain ⟨rfl,rfl,_,_,_,_,rfl,_⟩:=id mk
 clear e
 have ra1:=own.vis S5
 have hqq:rows*rows<=64*64:=Nat.mul_le_mul (by omega) (by omega)
 have hqw:rows*(rows+rows)<=64*128:=Nat.mul_le_mul (by omega) (by omega)
 refine ⟨fun L hp=>∃ (k:Nat) (g o:Heap) (xs:List QV) (A':Option Addr) (c':Nat),k<=rows/\L=[.slice A' (k*(rows+rows)) c',I (k:Int)]/\h1.le g/\Sep hp g o/\OwnSl o I3 A' c' xs/\xs.length=k*(rows+rows)/\Row RQr g xs (k*(rows+rows)) (T8 (rvs la) rows),fun L _=>rows-(iAt L 1).toNat,
  ⟨0,h1,Ch,[],none,0,by omega,by rw [Nat.zero_mul];rfl,B3 _,Sep.refl h1,OwnSl.nil,by simp,by rw [Nat.zero_mul];exact Row.nil⟩,?_⟩
 rintro wA wn wc z hp ⟨k,g,o,xs,A',c',hk,eL,lg,s,ow,hxl,rr⟩
 simp only [List.cons.injEq,Value.int.injEq,Value.slice.injEq,true_and,and_true] at eL
 obtain ⟨⟨rfl,rfl,rfl⟩,rfl⟩:=eL
 refine B7 (fun hlt=>?_) (fun hge=>?_)
 ·have hkr:k<rows:=by omega
  have h2:(k+1)*rows<=rows*rows:=Nat.mul_le_mul_right _ hkr
  have h3:(k+1)*rows=k*rows+rows:=by rw [Nat.add_mul,Nat.one_mul]
  have h4:(k+1)*(rows+rows)=k*(rows+rows)+rows+rows:=by rw [Nat.add_mul,Nat.one_mul];omega
  have h5:(k+1)*(rows+rows)<=rows*(rows+rows):=Nat.mul_le_mul_right _ hkr
  have e0:B4 ((k:Int)+1)=((k+1:Nat):Int):=B6 (by omega) (by omega)
  have e1:B4 ((k:Int)*(rows:Int))=((k*rows:Nat):Int):=by rw [<- Int.natCast_mul];exact V9 (by omega)
  have e2:B4 (B4 ((k:Int)+1)*(rows:Int))=(((k+1)*rows:Nat):Int):=by rw [e0,<- Int.natCast_mul];exact V9 (by omega)
  rw [e1,e2,e0]
  refine ⟨⟨by omega,by omega⟩,⟨by omega,by simp only [Int.toNat_natCast];omega⟩,?_⟩
  simp only [Int.toNat_natCast]
  have e5:(k+1)*rows-k*rows=rows:=by omega
  rw [e5]
  have row:RowV RQr h1 (I8 (some ⟨b1,0,none⟩) (rows*rows) (k*rows) 4) rows (fun j=>rvs la (k*rows+j)):=ra1.cut (c:=rows*rows) (l:=k*rows) (k:=rows) (by omega) (Nat.le_refl _)
  obtain ⟨ys,sy,hyl,qy⟩:=row
  refine OwnSl.app (ty:=Bm) A7l s ow hxl.symm hyl.symm (by rintro rfl;simp at hyl;omega) (sy.mono (A0 lg s.le)) (by rw [hxl,hyl];omega) (by rw [hxl,hyl];omega) ?_
  intro A2 c2 h2' g2 o2 l2 s2 ow2 _
  have lh2:=A0 lg l2
  have hl2:(xs++ys).length=k*(rows+rows)+rows:=by rw [List.length_append,hxl,hyl]
  have r1:Row RQr g2 (xs++ys) (k*(rows+rows)+rows) (T8 (rvs la) rows):=by
   refine Row.app hxl (rr.mono S5 l2) ((qy.mono S5 lh2).congr fun j hj=>?_)
   rw [Wc (rvs la) (by omega),if_pos hj]
  refine ⟨_,_,_,rfl,?_⟩
  rw [hxl]
  refine N9 A7l (zx:=Aj) rfl (by omega) (by omega) (by omega) (by omega) ?_
  intro b3 hb3
  simp only [Int.toNat_natCast]
  have ob:∀ q x,o2 q=some x->q≠b3:=by
   rintro q x e rfl
   rw [s2.own q x e] at hb3;cases hb3
  refine ⟨_,_,_,rfl,Sep.call (s2.new hb3 _) (Qo ⟨by omega,by omega⟩ ?_)⟩
  intro wd g4 l4 id4 h4' s4
  have one:((1:Int):Rat)=1:=rfl
  rw [one] at id4
  refine ⟨_,_,_,_,_,_,_,_,rfl,_,rfl,by omega,by omega,?_⟩
  refine Dv Kb (y:=wd) rfl s4 RowX.mk (i:=k) (by rw [List.length_replicate];exact hkr) ?_
  intro h5' o5 x5 eo5 s5 rx5
  have keep5:∀ k,k≠b3->o5 k=o2 k:=fun k hk=>by rw [eo5,B5 _ _ hk,B5 _ _ hk]
  have r0:Row RQr g4 (List.replicate rows Aj) rows (fun _=>0):=fun i hi=>⟨Aj,by rw [List.getElem?_replicate,if_pos hi],RQ.zero⟩
  have ru:Row RQr g4 ((List.replicate rows Aj).set k wd) rows (fun i=>if i=k then 1 else 0):=r0.upd (by rw [List.length_replicate];exact hkr) id4
  obtain ⟨g8,l8,s8⟩:=s5.give (o2:=o2) (fun k x e=>by rw [keep5 k (ob k x e)];exact e)
  have ob0:o2 b3=none:=by
   cases hx:o2 b3 with
   | none=>rfl
   | some y=>exact absurd rfl (ob b3 y hx)
  have rx8:RowX g8 b3 ((List.replicate rows Aj).set k wd):=rx5.keep fun x e=>by rw [<- s8.rest b3 ob0];exact s5.own b3 x e
  have hul:((List.replicate rows Aj).set k wd).length=rows:=by rw [List.length_set,List.length_replicate]
  generalize (List.replicate rows Aj).set k wd=us at *
  refine OwnSl.app (ty:=Bm) A7l s8 ow2 hl2.symm hul.symm (by rintro rfl;simp at hul;omega) ((rx8.rowB.slF (B3 _)).mono s8.le) (by rw [hl2,hul];omega) (by rw [hl2,hul];omega) ?_
  intro A9 c9 h9 g9 o9 l9 s9 ow9 _
  rw [hl2]
  have l29:=A0 l4 (A0 l8 l9)
  refine ⟨_,_,_,rfl,⟨k+1,g9,o9,_,A9,c9,by omega,by rw [h4],A0 lh2 l29,s9,ow9,by rw [List.length_append,hl2,hul,h4],?_⟩,?_⟩
  ·rw [h4]
   refine Row.app hl2 (r1.mono S5 l29) ((ru.mono S5 (A0 l8 l9)).congr fun j hj=>?_)
   have ej:k*(rows+rows)+rows+j=k*(rows+rows)+(rows+j):=by omega
   rw [ej,Wc (rvs la) (i:=k) (j:=rows+j) (by omega),if_neg (show ¬ rows+j<rows by omega)]
   by_cases e:j=k
   ·rw [if_pos e,if_pos (by omega)]
   ·rw [if_neg e,if_neg (by omega)]
  ·show rows-((k+1:Nat):Int).toNat<rows-(k:Int).toNat
   omega
 have hkr:k=rows:=by omega
 subst hkr
 have ew:B4 (2*(k:Int))=((k+k:Nat):Int):=by rw [B6]<;>omega
 rw [ew]
 have lhp:=A0 l1 (A0 lg s.le)
 have rq:RowV RQr hp wA (k*(k+k)) (T8 (rvs la) k):=⟨xs,ow.slF s.ole,hxl,rr.mono S5 s.le⟩
 have hsw:=Wb hm1 hs
 refine Ir (E:=T8 (rvs la) k) (cc:=k) (m:=m) (gl.mono lhp) rq (by have:=ow.1;omega) (by omega) (by omega) (by omega) (by omega) (by omega) hsw (by omega) ?_
 intro T h2 hred l2 e1 e2
 refine ⟨_,rfl,FCall.mono hred ?_⟩
 rintro r3 h3 ⟨g3,o3,A3,cap3,w,l3,t3,ow3,ap3,iw3,rfl⟩
 refine ⟨_,_,_,_,_,_,_,_,rfl,?_⟩
 have hzb:=A4k (E:=T8 (rvs la) k) (rows:=k) (cols:=k+k) (c:=k) hsw (by omega)
 have hbd:=Yb (T8 (rvs la) k) k (k+k) k (bnd (k+k) m)
 have hlast:=A91 (T8 (rvs la) k) k (k+k) k
 have hdiv:(elE (T8 (rvs la) k) k (k+k) k).cs.length=k->∀ i j,i<k->j<k->Rat.divInt ((elP (T8 (rvs la) k) k (k+k) k).M i (k+j)) (elP (T8 (rvs la) k) k (k+k) k).last=A4e (rvs la) k i j:=fun hlen i j hi hj=>B4g (T8 (rvs la) k) (by omega) hi (by omega) (.inl (by omega))
 have hlen:(elE (T8 (rvs la) k) k (k+k) k).cs.length<=k/\(elE (T8 (rvs la) k) k (k+k) k).cs.length<=k:=Yc _ k k
 rw [B2i _ (by omega)]
 have lh3:h.le h3:=A0 lhp (A0 l3 t3.sep.le)
 refine B7 (fun hlt=>ill (fun hx=>by unfold A6t at hx;omega) none 0 h3 lh3 RowV.nil) (fun hge=>?_)
 have hfull:(elE (T8 (rvs la) k) k (k+k) k).cs.length=k:=by omega
 have hdv:=hdiv hfull
 have good':=good hfull
 clear hdiv
 generalize elP (T8 (rvs la) k) k (k+k) k=st at *
 have hzM:=hzb.M
 have hzL:=hzb.last
 clear hzb
 generalize 3^st.cs.length*bnd (k+k) m=bb at hzM hzL hbd
 have iw:ZIr h3 w st.last:=Rf _ _ _ _ t3.sep.le iw3
 have tabIn:∀ g',h3.le g'->∃ gT,Tab g' gT o3 T st.M st.S:=fun g' l=>by
  obtain ⟨gT,l',s'⟩:=t3.sep.after l
  exact ⟨gT,t3.next s' l'⟩
 clear t3 ow3 ap3 iw3 hred
 have ewm:B4 ((k:Int)*(k:Int))=((k*k:Nat):Int):=by rw [<- Int.natCast_mul];exact V9 (by omega)
 rw [ewm]
 refine N9 A7l (zx:=Aj) rfl (by omega) (by omega) (by omega) (by omega) ?_
 intro b4 hb4
 simp only [Int.toNat_natCast]
 refine ⟨_,_,_,rfl,fun L hp=>∃ (i:Nat) (g o:Heap) (xs:List QV) (A':Option Addr) (c':Nat),i<=k/\L=[.slice A' (i*k) c',I (i:Int)]/\h3.le g/\Sep hp g o/\OwnSl o I3 A' c' xs/\xs.length=i*k/\Row RQr g xs (i*k) (fun t=>A4e (rvs la) k (t/k) (t%k)),fun L _=>k-(iAt L 1).toNat,
  ⟨0,h3,Ch.put b4 _,[],some ⟨b4,0,none⟩,k*k,by omega,by rw [Nat.zero_mul];rfl,B3 _,Ib hb4,A6j,by simp,by rw [Nat.zero_mul];exact Row.nil⟩,?_⟩
 rintro vA vn vc z hp5 ⟨i,g5,o5,xs5,A5,c5,hi,eL,lg5,s5,ow5,hxl5,rr5⟩
 simp only [List.cons.injEq,Value.int.injEq,Value.slice.injEq,true_and,and_true] at eL
 obtain ⟨⟨rfl,rfl,rfl⟩,rfl⟩:=eL
 refine B7 (fun hlt=>?_) (fun hge2=>?_)
 ·have hik:i<k:=by omega
  have hi1:(i+1)*k=i*k+k:=by rw [Nat.add_mul,Nat.one_mul]
  have hi2:(i+1)*k<=k*k:=Nat.mul_le_mul_right _ hik
  obtain ⟨gT,tT⟩:=tabIn g5 lg5
  refine s5.call (Ao tT (i:=i) (by omega) ?_)
  intro h6 s6
  have l63:=A0 lg5 s6.le
  rw [e2]
  refine ⟨_,_,_,rfl,⟨by omega,by omega⟩,?_⟩
  simp only [Int.toNat_natCast,Nat.add_sub_cancel]
  refine ⟨fun L hp=>∃ (j:Nat) (g o:Heap) (xs:List QV) (A':Option Addr) (c':Nat),j<=k/\L=[.slice A' (i*k+j) c',I (j:Int)]/\g5.le g/\Sep hp g o/\OwnSl o I3 A' c' xs/\xs.length=i*k+j/\Row RQr g xs (i*k+j) (fun t=>A4e (rvs la) k (t/k) (t%k)),fun L _=>k-(iAt L 1).toNat,
   ⟨0,g5,o5,xs5,_,_,by omega,rfl,B3 _,s6,ow5,hxl5,rr5⟩,?_⟩
  rintro qA qn qc z hp7 ⟨j,g7,o7,ys,A7,c7,hj,eL,lg7,s7,ow7,hyl,rr7⟩
  simp only [List.cons.injEq,Value.int.injEq,Value.slice.injEq,true_and,and_true] at eL
  obtain ⟨⟨rfl,rfl,rfl⟩,rfl⟩:=eL
  refine B7 (fun hlt2=>?_) (fun hge2=>?_)
  ·have hjk:j<k:=by omega
   obtain ⟨gT7,tT7⟩:=tabIn g7 (A0 lg5 lg7)
   obtain ⟨wv,zv,c0,c1⟩:=tT7.at (i:=i) (j:=k+j) (by omega) (by omega)
   rw [D8,D8,e2] at c0 c1
   have hcE:k<T.cE-i*(k+k):=by
    have h1:=tT7.cE
    rw [e1,e2] at h1
    have h2:(i+1)*(k+k)<=k*(k+k):=Nat.mul_le_mul_right _ hik
    rw [Nat.add_mul,Nat.one_mul] at h2
    omega
   rw [Sj hcE]
   have ead:∀ x,Addr.add (Addr.add (Addr.add ⟨T.bE,i*(k+k)*2,none⟩ (k*2)) (j*2)) x=⟨T.bE,i*(k+k)*2+(k+j)*2+x,none⟩:=fun x=>by rw [D8,D8,D8];congr 1;omega
   refine ⟨_,rfl,by omega,by omega,_,_,_,_,by simp only [Int.toNat_natCast];rw [ead];exact C6 s7.le c0,by simp only [Int.toNat_natCast];rw [ead];exact C6 s7.le c1,?_⟩
   refine s7.call (Q3 (gl.mono (A0 lh3 (A0 lg5 lg7))).tz (Rf _ _ _ _ tT7.sep.le zv) (Rf _ _ _ _ (A0 lg5 lg7) iw) (hzM _ _ (by omega) (by omega)) hzL (by omega) ?_)
   intro w9 g9 l9 i9 h9 s9
   rw [hdv i j hik hjk] at i9
   refine ⟨_,_,_,_,_,_,_,_,rfl,?_⟩
   refine V6 (ty:=Bm) A7l s9 ow7 hyl.symm (y:=w9) rfl (by decide) (by rw [hyl];omega) (by rw [hyl];omega) ?_
   intro A8 c8 h8 g8 o8 l8 s8 ow8 _
   rw [hyl,show B4 ((j:Int)+1)=((j+1:Nat):Int) by rw [B6]<;>omega]
   refine ⟨⟨j+1,g8,o8,_,A8,c8,by omega,by rw [Nat.add_assoc],A0 lg7 (A0 l9 l8),s8,ow8,by rw [List.length_append,hyl];rfl,?_⟩,?_⟩
   ·have rB:=Row.push (R:=RQr) (g:=g8) (xs:=ys) (f:=fun t=>A4e (rvs la) k (t/k) (t%k)) (by rw [hyl];exact rr7.mono S5 (A0 l9 l8)) (w:=w9) (by
     show RQ g8 w9 (A4e (rvs la) k (ys.length/k) (ys.length%k))
     rw [hyl,Nat.add_comm (i*k) j,Nat.add_mul_mod_self_right,Nat.mod_eq_of_lt hjk,Nat.add_mul_div_right _ _ (by omega),Nat.div_eq_of_lt hjk,Nat.zero_add]
     exact S5 _ _ _ _ l8 i9)
    rw [List.length_append,hyl] at rB
    exact rB
   ·show k-((j+1:Nat):Int).toNat<k-(j:Int).toNat
    omega
  ·have:j=k:=by omega
   subst this
   rw [show B4 ((i:Int)+1)=((i+1:Nat):Int) by rw [B6]<;>omega,<- hi1]
   rw [<- hi1] at hyl rr7
   refine ⟨⟨i+1,g7,o7,ys,qA,qc,by omega,rfl,A0 lg5 lg7,s7,ow7,hyl,rr7⟩,?_⟩
   show j-((i+1:Nat):Int).toNat<j-(i:Int).toNat
   omega
 ·have:i=k:=by omega
  subst this
  have lh6:=A0 lh3 (A0 lg5 s5.le)
  have rq6:RowV RQr hp5 vA (i*i) (fun t=>A4e (rvs la) i (t/i) (t%i)):=⟨xs5,ow5.slF s5.ole,hxl5,rr5.mono S5 s5.le⟩
  refine Eh (m:=bb) (gl.mono lh6) rq6 (by omega) (fun t ht=>?_) (by omega) ?_
  ·have h1:t/i<i:=Nat.div_lt_of_lt_mul ht
   have h2:=Nat.mod_lt t (show 0<i by omega)
   rw [<- hdv _ _ h1 h2]
   exact Z1 hlast (hzM _ _ (by omega) (by omega)) hzL
  intro b9 h9 own9
  exact ⟨_,_,_,_,_,rfl,good' _ _ h9 (A0 lh6 own9.le) (own9.vis Bq)⟩
end
section
variable {h g o:Heap} {wA B:Option Addr} {wc be m d:Nat} {hd:List HV} {xs ys:List QV}
theorem Sep.free(s:Sep h g o){b:Nat}(hb:h b=none):g b=none:=by
 cases hx:g b with
 | none=>rfl
 | some y=>rw [s.le _ _ hx] at hb;cases hb
theorem In{α:Type}[E:Enc α]{e:TypeId}{A:Option Addr}{c:Nat}{zs:List α}(s:Sep h g o)(w:OwnSl o e A c zs)(hb:h be=none):A≠some ⟨be,0,none⟩:=by
 rcases w.2 with ⟨_,h0⟩|⟨b,arr,hA,hb',_⟩
 ·rw [h0];simp
 ·rw [hA]
  intro e
  simp only [Option.some.injEq,Addr.mk.injEq,and_true] at e
  subst e
  rw [s.own _ _ hb'] at hb;cases hb
theorem A2f(s:Sep h g o)(hb:o be=some (.cells #[] F7))(ow:OwnSl o G0 wA wc hd)(hne:wA≠some ⟨be,0,none⟩)(sx:SlF h B xs)(hx:xs≠[])(hm:m=xs.length)(hl:xs.length<=10000){K:Value->Heap->Prop}
 (x:∀ A2 c2 h2 g2 o2,g.le g2->Sep h2 g2 o2->OwnSl o2 F7 A2 c2 xs->OwnSl o2 G0 wA wc hd->(∀ b,wA=some ⟨b,0,none⟩->A2≠wA)->K (.slice A2 m c2) h2):wpH Tryz.prog (Builtin.append_ #[Am,Am] Am #[.slice (some ⟨be,0,none⟩) 0 0,.slice B m d]) K h:=by
 have w0:OwnSl o F7 (some ⟨be,0,none⟩) 0 ([]:List QV):=⟨Nat.le_refl _,.inr ⟨be,[],rfl,hb,by simp,rfl⟩⟩
 refine OwnSl.app (ty:=Am) Zr s w0 (n:=0) rfl hm hx sx (by simp;omega) (by simp;omega) ?_
 intro A2 c2 h2 g2 o2 l2 s2 ow2 kp
 rw [List.nil_append] at ow2
 have kq:∀ b y,wA=some ⟨b,0,none⟩->o b=some y->o2 b=some y/\A2≠some ⟨b,0,none⟩:=fun b y e hy=>kp b y hy (fun e2=>hne (by rw [e];exact e2.symm))
 have:=x A2 c2 h2 g2 o2 l2 s2 ow2 (ow.keep fun b y e hy=>(kq b y e hy).1) (fun b e=>by
  rcases ow.2 with ⟨_,h0⟩|⟨b',arr,hA,hb',_⟩
  ·rw [h0] at e;cases e
  ·rw [hA] at e
   simp only [Option.some.injEq,Addr.mk.injEq,and_true] at e
   subst e
   rw [hA]
   exact (kq _ _ hA hb').2)
 simpa using this
theorem A2d{A2:Option Addr}{c2 n1 wn:Nat}(s:Sep h g o)(ow2:OwnSl o F7 A2 c2 xs)(ow:OwnSl o G0 wA wc hd)(ha:∀ b,wA=some ⟨b,0,none⟩->A2≠wA)(sy:SlF h B ys)(hy:ys≠[])(hn1:n1=xs.length)(hm:m=ys.length)(hwn:wn=hd.length)(hl:xs.length<=10000)(hl2:ys.length<=10000)(hl3:hd.length<=10000){K:Option Addr->Nat->Nat->Heap->Prop}
 (x:∀ A3 c3 A9 c9 h9 g9 o9,g.le g9->Sep h9 g9 o9->xs.length+ys.length<=c3->SlF g9 A3 (xs++ys)->OwnSl o9 G0 A9 c9 (hd++[(⟨A3,xs.length+ys.length,c3⟩:HV)])->K A9 (hd.length+1) c9 h9):
 wpH Tryz.prog (Builtin.append_ #[Am,Am] Am #[.slice A2 n1 c2,.slice B m d]) (fun v3 hp4=>∃ (a:Option Addr) (b c:Nat),v3= .slice a b c/\wpH Tryz.prog (Instr.buildSlice Fw 1 #[(0,.slice a b c)]) (fun v4 hp5=>∃ (a2:Option Addr) (b2 c2:Nat),v4= .slice a2 b2 c2/\Heap.le hp4 hp5/\wpH Tryz.prog (Builtin.append_ #[Fw,Fw] Fw #[.slice wA wn wc,.slice a2 b2 c2]) (fun v5 hp6=>∃ (a3:Option Addr) (b3 c3:Nat),v5= .slice a3 b3 c3/\K a3 b3 c3 hp6) hp5) hp4) h:=by
 subst hwn
 refine OwnSl.app (ty:=Am) Zr s ow2 hn1 hm hy sy (by omega) (by omega) ?_
 intro A3 c3 h3 g3 o3 l3 s3 ow3 kp
 have kq:∀ b y,wA=some ⟨b,0,none⟩->o b=some y->o3 b=some y/\A3≠some ⟨b,0,none⟩:=fun b y e hy=>kp b y hy (fun e2=>ha b e (by rw [e];exact e2))
 have ow':OwnSl o3 G0 wA wc hd:=ow.keep fun b y e hy=>(kq b y e hy).1
 have hA3:∀ b,wA=some ⟨b,0,none⟩->A3≠wA:=fun b e=>by
  rcases ow.2 with ⟨_,h0⟩|⟨b',arr,hA,hb',_⟩
  ·rw [h0] at e;cases e
  ·rw [hA] at e
   simp only [Option.some.injEq,Addr.mk.injEq,and_true] at e
   subst e
   rw [hA]
   exact (kq _ _ hA hb').2
 obtain ⟨g4,l4,s4⟩:=s3.give (A06 o3 wA)
 have sl:SlF g4 A3 (xs++ys):=by
  obtain ⟨b3,rfl,e3,ex3,hb3⟩:=ow3.rowB (by simp [hy])
  have hn3:Rd o3 wA b3=none:=Rc o3 (fun e=>hA3 b3 e e.symm)
  have hg4:g4 b3=some (.cells ((xs++ys).flatMap enc++ex3).toArray e3):=by
   rw [<- s4.rest b3 hn3]
   exact s3.own _ _ hb3
  exact RowB.slF (o:=g4) ⟨e3,ex3,hg4⟩ (B3 _)
 have hcap:=ow3.1
 rw [List.length_append] at hcap
 rw [hm]
 refine ⟨_,_,_,rfl,?_⟩
 refine OwnSl.push (ty:=Fw) B7k s4 ow'.only (y:=(⟨A3,xs.length+ys.length,c3⟩:HV)) (K1:=fun hp5=>Heap.le h3 hp5) rfl (by decide) (by omega) (by omega) (fun h1 l1=>l1) ?_
 intro A9 c9 h9 g9 o9 l9 s9 ow9 _
 exact x A3 c3 A9 c9 h9 g9 o9 (A0 l3 (A0 l4 l9)) s9 hcap (sl.mono l9) ow9
end
def B1b(k:Nat):Nat->Nat->Rat:=fun a b=>if a=b/\a<k then 1 else 0
section
variable {h:Heap} {K:Value->Heap->Prop} {A B:Option Addr} {n cap m:Nat} {r c:Int} {la:Nat->List UInt8} {E:Nat->Rat}
theorem A5v(hn:n<=10000)
 (hK:∀ bo h',h.le h'->RowsV h' (some ⟨bo,0,none⟩) n n (fun a b=>if a=b then 1 else 0)->K (.slice (some ⟨bo,0,none⟩) n n) h'):FCall Tryz.prog A30 #[I (n:Int)] h K:=by
 refine B3l _ ?_
 unfold B95
 refine Rp hn hn ?_
 intro h1 g1 o1 bo rb l1 t1
 refine ⟨_,_,_,rfl,fun L hp=>∃ (k:Nat) (g o:Heap),k<=n/\L=[I (k:Int)]/\h.le g/\Mt hp g o bo rb n n (B1b k),fun L _=>n-(iAt L 0).toNat,⟨0,g1,o1,by omega,rfl,l1,t1.congr fun a b _ _=>by unfold B1b;rw [if_neg (by omega)]⟩,?_⟩
 rintro z hp ⟨k,g,o,hk,eL,lg,t⟩
 obtain rfl:z=(k:Int):=by simpa using eL
 refine B7 (fun hlt=>?_) (fun hge=>?_)
 ·have hkn:k<n:=by omega
  obtain ⟨cc,hcc,hh⟩:=t.head hkn
  refine ⟨_,rfl,by omega,by omega,_,_,_,t.sep.cell hh,?_⟩
  refine t.sep.call (A7x ⟨by omega,by omega⟩ ?_)
  intro w7 g7 l7 i7 h7 s7
  have one:((1:Int):Rat)=1:=rfl
  rw [one] at i7
  refine ⟨_,_,_,_,_,_,_,_,rfl,t.sep.le_le s7 l7,_,rfl,by omega,by omega,?_⟩
  refine (t.next s7 l7).store hkn hkn i7 ?_
  intro h9 o9 t9 _
  rw [show B4 ((k:Int)+1)=((k+1:Nat):Int) by rw [B6]<;>omega]
  refine ⟨⟨k+1,g7,o9,by omega,rfl,A0 lg l7,t9.congr fun a b _ _=>?_⟩,by simp only [Fd];omega⟩
  unfold Wd B1b
  by_cases e:a=k/\b=k
  ·rw [if_pos e,if_pos (by omega)]
  ·rw [if_neg e]
   by_cases e2:a=b/\a<k
   ·rw [if_pos e2,if_pos (by omega)]
   ·rw [if_neg e2,if_neg (by omega)]
 ·have:k=n:=by omega
  subst this
  exact hK bo hp (A0 lg t.sep.le) ((t.rowsV).congr fun a b ha _=>by
   unfold B1b
   by_cases e:a=b
   ·rw [if_pos ⟨e,ha⟩,if_pos e]
   ·rw [if_neg (fun x=>e x.1),if_neg e])
theorem A0m(rs:RowsV h A n n (mtx E n))(hn1:1<=n)(hn:n<=1000)(hm1:1<=m)(hs:∀ i,i<n*n->Sz m (E i))(hm:7^n*m<=100000000)
 (hK1:A6t E n->∀ A' c' h',h.le h'->RowsV h' A' n n (A4e E n)->K (.tuple #[.slice A' n c',.bool true]) h')
 (hK0:¬ A6t E n->∀ h',h.le h'->K (.tuple #[.slice none 0 0,.bool false]) h'):FCall Tryz.prog Rz #[.slice A n cap] h K:=by
 refine A6u _ _ _ ?_
 unfold B0t
 refine A5v (by omega) ?_
 intro bu h0 l0 ru
 refine ⟨_,_,_,rfl,?_⟩
 have wM:∀ k,k<n->∀ j,j<n+n->mtx (T8 E n) (n+n) k j=if j<n then mtx E n k j else if j=n+k then 1 else 0:=fun k _ j hj=>Wc E hj
 refine ⟨fun L hp=>∃ (k:Nat) (g o:Heap) (hd:List HV) (A':Option Addr) (c':Nat),k<=n/\L=[.slice A' k c',I (k:Int)]/\h0.le g/\Sep hp g o/\OwnSl o G0 A' c' hd/\hd.length=k/\Row (RWr (n+n)) g hd k (mtx (T8 E n) (n+n)),fun L _=>n-(iAt L 1).toNat,
  ⟨0,h0,Ch,[],none,0,by omega,rfl,B3 _,Sep.refl h0,OwnSl.nil,rfl,Row.nil⟩,?_⟩
 rintro wA wn wc z hp ⟨k,g,o,hd,A',c',hk,eL,lg,s,ow,hhd,rr⟩
 simp only [List.cons.injEq,Value.int.injEq,Value.slice.injEq,true_and,and_true] at eL
 obtain ⟨⟨rfl,rfl,rfl⟩,rfl⟩:=eL
 refine B7 (fun hlt=>?_) (fun hge=>?_)
 ·have hkn:wn<n:=by omega
  obtain ⟨a1,s1,ea1,f1,f2,hc1,xs,sx,hxl,qx⟩:=(RowsV.mono l0 rs).at hkn
  obtain ⟨a2,s2,ea2,f3,f4,hc2,ys,sy,hyl,qy⟩:=ru.at hkn
  have hxne:xs≠[]:=by rintro rfl;simp at hxl;omega
  have hyne:ys≠[]:=by rintro rfl;simp at hyl;omega
  have done:∀ {A3:Option Addr} {c3:Nat} {A9:Option Addr} {c9:Nat} {h9 g9 o9:Heap},g.le g9->Sep h9 g9 o9->xs.length+ys.length<=c3->SlF g9 A3 (xs++ys)->OwnSl o9 G0 A9 c9 (hd++[(⟨A3,xs.length+ys.length,c3⟩:HV)])->
   ((∃ (k:Nat) (g o:Heap) (hd':List HV) (A':Option Addr) (c':Nat),k<=n/\[Value.slice A9 (hd.length+1) c9,I (B4 ((wn:Int)+1))]=[.slice A' k c',I (k:Int)]/\h0.le g/\Sep h9 g o/\OwnSl o G0 A' c' hd'/\hd'.length=k/\Row (RWr (n+n)) g hd' k (mtx (T8 E n) (n+n)))/\n-(iAt [Value.slice A9 (hd.length+1) c9,I (B4 ((wn:Int)+1))] 1).toNat<n-(iAt [Value.slice wA wn wc,I (wn:Int)] 1).toNat):=by
   intro A3 c3 A9 c9 h9 g9 o9 l9 s9 hc3 sl ow9
   rw [hhd,show B4 ((wn:Int)+1)=((wn+1:Nat):Int) by rw [B6]<;>omega]
   refine ⟨⟨wn+1,g9,o9,_,A9,c9,by omega,rfl,A0 lg l9,s9,ow9,by rw [List.length_append,hhd];rfl,?_⟩,?_⟩
   ·have rA:Row (RWr (n+n)) g9 hd hd.length (mtx (T8 E n) (n+n)):=by rw [hhd];exact rr.mono (A5q (n+n)) l9
    have rB:=rA.push (w:=(⟨A3,xs.length+ys.length,c3⟩:HV)) (by
     rw [hhd]
     refine ⟨by rw [hxl,hyl],by rw [hxl,hyl] at hc3;exact hc3,xs++ys,sl,by rw [List.length_append,hxl,hyl],?_⟩
     refine Row.app hxl ((qx.mono Iv (A0 lg l9)).congr fun j hj=>by rw [wM wn hkn j (by omega),if_pos hj]) ((qy.mono Iv (A0 lg l9)).congr fun j hj=>?_)
     rw [wM wn hkn (n+j) (by omega),if_neg (show ¬ n+j<n by omega)]
     by_cases e:wn=j
     ·rw [if_pos e,if_pos (by omega)]
     ·rw [if_neg e,if_neg (by omega)])
    rw [List.length_append,hhd] at rB
    exact rB
   ·show n-((wn+1:Nat):Int).toNat<n-(wn:Int).toNat
    omega
  have lhp:h0.le hp:=A0 lg s.le
  have hl1:xs.length<=10000:=by omega
  have hl2:ys.length<=10000:=by omega
  have hl3:hd.length<=10000:=by omega
  refine ⟨a1,ea1,by omega,by omega,_,_,_,C6 lhp hc1,a2,ea2,by omega,by omega,?_,?_⟩
  ·refine ⟨_,_,_,C6 lhp hc2,Ri Zr ?_⟩
   intro be hbe
   have hne:=In s ow hbe
   have ow1:OwnSl (o.put be (.cells #[] F7)) G0 wA wc hd:=ow.keep fun b y e hy=>by rw [B5 _ _ (fun e2=>hne (by rw [e,e2]))];exact hy
   have s1':=s.new hbe (.cells #[] F7)
   refine ⟨_,_,_,rfl,Heap.le_put _ hbe,?_⟩
   refine A2f s1' (B9 _ _ _) ow1 hne (sx.mono (A0 lg s1'.le)) hxne (by omega) hl1 ?_
   intro A2 c2 h2 g2 o2 l2 s2' owr oww ha
   exact ⟨_,_,_,rfl,A2d s2' owr oww ha (sy.mono (A0 lg (A0 l2 s2'.le))) hyne (by omega) (by omega) hhd.symm hl1 hl2 hl3 fun A3 c3 A9 c9 h9 g9 o9 l9 s9 hc3 sl ow9=>done (A0 l2 l9) s9 hc3 sl ow9⟩
  ·refine Ri Zr ?_
   intro be hbe
   have hne:=In s ow hbe
   have ow1:OwnSl (o.put be (.cells #[] F7)) G0 wA wc hd:=ow.keep fun b y e hy=>by rw [B5 _ _ (fun e2=>hne (by rw [e,e2]))];exact hy
   have s1':=s.new hbe (.cells #[] F7)
   refine ⟨_,_,_,rfl,Heap.le_put _ hbe,?_,?_⟩
   ·refine ⟨_,_,_,C6 (A0 lhp (Heap.le_put _ hbe)) hc2,?_⟩
    refine A2f s1' (B9 _ _ _) ow1 hne (sx.mono (A0 lg s1'.le)) hxne (by omega) hl1 ?_
    intro A2 c2 h2 g2 o2 l2 s2' owr oww ha
    exact ⟨_,_,_,rfl,A2d s2' owr oww ha (sy.mono (A0 lg (A0 l2 s2'.le))) hyne (by omega) (by omega) hhd.symm hl1 hl2 hl3 fun A3 c3 A9 c9 h9 g9 o9 l9 s9 hc3 sl ow9=>done (A0 l2 l9) s9 hc3 sl ow9⟩
   ·refine A2f s1' (B9 _ _ _) ow1 hne (sx.mono (A0 lg s1'.le)) hxne (by omega) hl1 ?_
    intro A2 c2 h2 g2 o2 l2 s2' owr oww ha
    exact ⟨_,_,_,rfl,_,_,_,C6 (A0 lg (A0 l2 s2'.le)) hc2,A2d s2' owr oww ha (sy.mono (A0 lg (A0 l2 s2'.le))) hyne (by omega) (by omega) hhd.symm hl1 hl2 hl3 fun A3 c3 A9 c9 h9 g9 o9 l9 s9 hc3 sl ow9=>done (A0 l2 l9) s9 hc3 sl ow9⟩
 have hkn:wn=n:=by omega
 subst hkn
 have rsw:RowsV hp wA wn (wn+wn) (mtx (T8 E wn) (wn+wn)):=RowsV.of ⟨hd,ow.slF s.ole,hhd,rr.mono (A5q (wn+wn)) s.le⟩
 have hsw:=A09 (Wb hm1 hs)
 have lhp:h.le hp:=A0 l0 (A0 lg s.le)
 refine Ky (m:=m) rsw hn1 (by omega) (by omega) (by omega) (by omega) hm1 hsw hm ?_
 intro h2 g2 o2 bo rb' c2 A2 cap2' wd l2 t owp ap iq
 refine ⟨_,_,_,_,_,_,_,_,_,_,_,_,_,_,rfl,?_⟩
 have hlen:(ecE (mtx (T8 E wn) (wn+wn)) wn wn).cs.length<=wn:=(Yc _ wn wn).1
 have hok:A6t E wn↔(ecE (mtx (T8 E wn) (wn+wn)) wn wn).cs.length=wn:=Iff.rfl
 have rv2:=t.rowsV
 have lh:=A0 lhp (A0 l2 t.sep.le)
 refine B7 (fun hlt=>hK0 (fun hx=>by have:=hok.1 hx;omega) _ lh) (fun hge=>?_)
 have hk1:=hK1 (hok.2 (by omega))
 clear t owp ap iq
 refine ⟨fun L hp=>∃ (k:Nat) (g o:Heap) (hd:List HV) (A':Option Addr) (c':Nat),k<=wn/\L=[.slice A' k c',I (k:Int)]/\h2.le g/\Sep hp g o/\OwnSl o G0 A' c' hd/\hd.length=k/\Row (RWr wn) g hd k (A4e E wn),fun L _=>wn-(iAt L 1).toNat,
  ⟨0,h2,Ch,[],none,0,by omega,rfl,B3 _,Sep.refl h2,OwnSl.nil,rfl,Row.nil⟩,?_⟩
 rintro vA vn vc z q ⟨k,g5,o5,hd5,A',c',hk,eL,lg5,s5,ow5,hhd5,rr5⟩
 simp only [List.cons.injEq,Value.int.injEq,Value.slice.injEq,true_and,and_true] at eL
 obtain ⟨⟨rfl,rfl,rfl⟩,rfl⟩:=eL
 refine B7 (fun hlt=>?_) (fun hge2=>?_)
 ·have hkn:vn<wn:=by omega
  obtain ⟨a1,s1,ea1,f1,f2,hc1,row1⟩:=rv2.at hkn
  refine ⟨a1,ea1,by omega,by omega,_,_,_,C6 (A0 lg5 s5.le) hc1,⟨by omega,by omega⟩,?_⟩
  simp only [Int.toNat_natCast]
  rw [f1]
  have ep:wn+wn-wn=wn:=by omega
  rw [ep]
  have cut:RowV NQr h2 (I8 s1.A s1.c wn 4) wn (A4e E wn vn):=by
   obtain ⟨xs,sx,hx,rx⟩:=row1
   refine ⟨(xs.drop wn).take (wn+wn-wn),sx.cut (l:=wn) (m:=wn+wn) (by omega) (by omega) (by omega),by simp;omega,fun i hi=>?_⟩
   obtain ⟨w,e1,hw⟩:=rx (wn+i) (by omega)
   exact ⟨w,by rw [List.getElem?_take,if_pos (by omega),List.getElem?_drop];exact e1,hw⟩
  refine V6 (ty:=Fw) B7k s5 ow5 hhd5.symm (y:=(⟨I8 s1.A s1.c wn 4,wn,s1.c-wn⟩:HV)) rfl (by decide) (by rw [hhd5];omega) (by rw [hhd5];omega) ?_
  intro A9 c9 h9 g9 o9 l9 s9 ow9 _
  rw [hhd5,show B4 ((vn:Int)+1)=((vn+1:Nat):Int) by rw [B6]<;>omega]
  refine ⟨⟨vn+1,g9,o9,_,A9,c9,by omega,rfl,A0 lg5 l9,s9,ow9,by rw [List.length_append,hhd5];rfl,?_⟩,?_⟩
  ·have rA:Row (RWr wn) g9 hd5 hd5.length (A4e E wn):=by rw [hhd5];exact rr5.mono (A5q wn) l9
   have rB:=rA.push (w:=(⟨I8 s1.A s1.c wn 4,wn,s1.c-wn⟩:HV)) (by
    rw [hhd5]
    exact ⟨rfl,by show wn<=s1.c-wn;omega,cut.mono Iv (A0 lg5 l9)⟩)
   rw [List.length_append,hhd5] at rB
   exact rB
  ·show wn-((vn+1:Nat):Int).toNat<wn-(vn:Int).toNat
   omega
 ·have:vn=wn:=by omega
  subst this
  exact hk1 vA vc q (A0 lh (A0 lg5 s5.le)) (RowsV.of ⟨hd5,ow5.slF s5.ole,hhd5,rr5.mono (A5q vn) s5.le⟩)
theorem Xd(ra:RowV SSr h A n la)(hn:n<=1000000)(hl:∀ i,i<n->(la i).length<=100000000)(hs:∀ i,i<n->Sz m (rv (la i)))(hm1:1<=m)(hb:∀ q,MOk r c n la q q->7^q*m<=100000000)
 (hK:∀ o,InvO r c n la o->∀ A' cap' h',h.le h'->RowV SSr h' A' o.n o.f->K (.tuple #[Nh o.r o.c A' o.n cap',I o.e]) h'):FCall Tryz.prog Nu #[Nh r c A n cap] h K:=by
 refine A3o _ _ _ _ _ ?_
 unfold A54
 refine Nk ra hn hl (fun rows cols mk b1 h1 l1 rs=>⟨_,_,_,_,rfl,Br.nt ?_⟩) (fun hno h1 l1=>⟨_,_,_,_,rfl,A3r (hK (noM 1) (.inl ⟨hno,rfl⟩) none 0 h1 l1 RowV.nil)⟩)
 refine L8 (fun e=>hK (noM 4) (.inr (.inl ⟨⟨_,_,mk⟩,e,rfl⟩)) none 0 h1 l1 RowV.nil) (fun e=>?_)
 obtain rfl:rows=cols:=by have:=mk.er;have:=mk.ec;omega
 have good:=fun x=>hK ⟨r,r,rows*rows,Nm (A4e (rvs la) rows) rows,0⟩ (.inr (.inr ⟨rows,mk,.inl ⟨x,rfl⟩⟩))
 have ill:=fun x=>hK (noM 7) (.inr (.inr ⟨rows,mk,.inr ⟨x,rfl⟩⟩))
 have hb':=hb rows mk
 have:=mk.r1;have:=mk.r2
 obtain ⟨rfl,rfl,_,_,_,_,rfl,_⟩:=id mk
 refine A0m (m:=m) rs (by omega) (by omega) hm1 hs hb' (fun hok A' c' h2 l2 r2=>⟨_,_,_,_,rfl,Br.nt ?_⟩) (fun hno h2 l2=>⟨_,_,_,_,rfl,A3r (ill hno none 0 h2 (A0 l1 l2) RowV.nil)⟩)
 have hsz:∀ i j,i<rows->j<rows->Sz (7^rows*m) (A4e (rvs la) rows i j):=fun i j hi hj=>(B4h (n:=rows) (w:=rows+rows) (c:=rows) (A09 (Wb hm1 hs)) hm1 (by omega) (Nat.le_refl _)).1 i (rows+j) hi (by omega)
 refine Nl (m:=7^rows*m) r2 (by omega) (by omega) (by omega) (by omega) hsz (by omega) ?_
 intro A3 c3 h3 l3 hc3 r3
 exact ⟨_,_,_,_,_,rfl,good hok A3 c3 h3 (A0 l1 (A0 l2 l3)) r3⟩
end
theorem C1r{X Y:Prop}(x:X):Br true X Y:=x
section
variable {h:Heap} {A:Option Addr} {n cap:Nat} {r c:Int} {ls:Nat->List UInt8}
theorem B1r{m:Nat}(sm:Small r c n ls 6 12)(hm:m=48):(∀ i,i<n->(ls i).length<=100000000)/\(∀ i,i<n->Sz m (rv (ls i)))/\n<=1000000/\∀ rows cols,MOk r c n ls rows cols->rows<=6/\cols<=6:=by
 subst hm
 refine ⟨fun i hi=>by have:=sm.hl i hi;omega,fun i hi=>B5n (k:=12) (by have:=sm.hl i hi;omega) (by omega),by have:=sm.hn;omega,fun rows cols mk=>⟨by have:=mk.er;have:=sm.hr;omega,by have:=mk.ec;have:=sm.hc;omega⟩⟩
theorem B5v{cols:Nat}(h:cols<=6):7^cols*48<=6000000:=Nat.le_trans (Nat.mul_le_mul_right 48 (Nat.pow_le_pow_right (show 7>0 by decide) h)) (by decide)
theorem B5w{cols:Nat}(h:cols<=6):3^cols*bnd cols 48<=300000:=by
 have h1:bnd cols 48<=337:=by unfold bnd;omega
 exact Nat.le_trans (Nat.mul_le_mul (Nat.pow_le_pow_right (show 3>0 by decide) h) h1) (by decide)
end
theorem B0w{X Y:Prop}(x:X):Br true X Y:=x
section
variable {h:Heap} {K:Value->Heap->Prop} {A B:Option Addr} {n n2 cap cap2 m:Nat} {r c r2 c2:Int} {la lb:Nat->List UInt8}
def TransO(r c:Int)(n:Nat)(ls:Nat->List UInt8)(o:MOut):Prop:=
 (∃ rows cols,MOk r c n ls rows cols/\o=⟨c,r,n,fun k=>ls (k%rows*cols+k/rows),0⟩)\/(¬ Mx r c n ls/\o=noM 1)
theorem TransO.eq{o p:MOut}(x:TransO r c n la o)(y:TransO r c n la p):o=p:=by
 rcases x with ⟨r1,c1,m1,rfl⟩|⟨h1,rfl⟩<;>rcases y with ⟨r2,c2,m2,rfl⟩|⟨g1,rfl⟩
 ·obtain rfl:r2=r1:=by have:=m1.er;have:=m2.er;omega
  obtain rfl:c2=c1:=by have:=m1.ec;have:=m2.ec;omega
  rfl
 ·exact absurd ⟨_,_,m1⟩ g1
 ·exact absurd ⟨_,_,m2⟩ h1
 ·rfl
theorem TransO.n_le{o:MOut}(x:TransO r c n la o):o.n<=n:=by
 rcases x with ⟨_,_,_,rfl⟩|⟨_,rfl⟩
 ·exact Nat.le_refl _
 ·exact Nat.zero_le _
theorem CombO.n_le{q:Rat}{o:MOut}(x:CombO r c n la r2 c2 n2 lb q o):o.n<=n:=by
 rcases x with ⟨_,rfl⟩|⟨_,_,_,rfl⟩|⟨_,_,_,_,rfl⟩
 ·exact Nat.zero_le _
 ·exact Nat.zero_le _
 ·exact Nat.le_refl _
theorem ScalO.n_le{s:List UInt8}{o:MOut}(x:ScalO s r c n la o):o.n<=n:=by
 rcases x with ⟨_,rfl⟩|⟨_,_,rfl⟩
 ·exact Nat.zero_le _
 ·exact Nat.le_refl _
end
def DetO(r c:Int)(n:Nat)(la:Nat->List UInt8)(s:List UInt8)(e:Int):Prop:=
 (¬ Mx r c n la/\s=[]/\e=1)\/(Mx r c n la/\r≠c/\s=[]/\e=4)\/(∃ q,MOk r c n la q q/\s=N5 (B2m (rvs la) q)/\e=0)
theorem DetO.eq{r c:Int}{n:Nat}{la:Nat->List UInt8}{s s':List UInt8}{e e':Int}(x:DetO r c n la s e)(y:DetO r c n la s' e'):s=s'/\e=e':=by
 rcases x with ⟨h1,rfl,rfl⟩|⟨h1,h2,rfl,rfl⟩|⟨q1,h1,rfl,rfl⟩<;>rcases y with ⟨g1,rfl,rfl⟩|⟨g1,g2,rfl,rfl⟩|⟨q2,g1,rfl,rfl⟩
 ·exact ⟨rfl,rfl⟩
 ·exact absurd g1 h1
 ·exact absurd ⟨_,_,g1⟩ h1
 ·exact absurd h1 g1
 ·exact ⟨rfl,rfl⟩
 ·exact absurd (by rw [g1.er,g1.ec]) h2
 ·exact absurd ⟨_,_,h1⟩ g1
 ·exact absurd (by rw [h1.er,h1.ec]) g2
 ·obtain rfl:q2=q1:=by have:=h1.er;have:=g1.er;omega
  exact ⟨rfl,rfl⟩
theorem B5p{xs ys:List Int}{h h':Heap}{n:Nat}{f:Nat->Int}(hx:xs.length=n)(hy:ys.length=n)(r:Row IIr h xs n f)(s:Row IIr h' ys n f):xs=ys:=by
 refine List.ext_getElem? fun i=>?_
 by_cases hi:i<n
 ·obtain ⟨w,e1,h1⟩:=r i hi
  obtain ⟨v,e2,h2⟩:=s i hi
  have h1':w=f i:=h1
  have h2':v=f i:=h2
  rw [e1,e2,h1',h2']
 ·rw [List.getElem?_eq_none (by omega),List.getElem?_eq_none (by omega)]
section
variable {h:Heap} {K:Value->Heap->Prop} {A:Option Addr} {n cap m:Nat} {r c:Int} {la:Nat->List UInt8}
theorem A5r(gl:Gl h)(rv':RowV SSr h A n la)(hn:n<=1000000)(hl:∀ i,i<n->(la i).length<=100000000)(hs:∀ i,i<n->Sz m (rv (la i)))(hb:∀ rows cols,MOk r c n la rows cols->70*(3^cols*bnd cols m)+100<=40000000)
 (hK:∀ s e,DetO r c n la s e->∀ h',h.le h'->K (.tuple #[.string (bs s),I e]) h'):FCall Tryz.prog A0q #[Nh r c A n cap] h K:=
 A0c gl rv' hn hl hs hb (fun q mk h' l=>hK _ _ (.inr (.inr ⟨q,mk,rfl,rfl⟩)) h' l) (fun hx hne h' l=>hK _ _ (.inr (.inl ⟨hx,hne,rfl,rfl⟩)) h' l) (fun hno h' l=>hK _ _ (.inl ⟨hno,rfl,rfl⟩) h' l)
theorem A5w(rv':RowV SSr h A n la)(hn:n<=1000000)(hl:∀ i,i<n->(la i).length<=100000000)(hs:∀ i,i<n->Sz m (rv (la i)))(hm1:1<=m)(hb:∀ rows cols,MOk r c n la rows cols->7^cols*m<=100000000)
 (hK:∀ s e,DetO r c n la s e->∀ h',h.le h'->K (.tuple #[.string (bs s),I e]) h'):FCall Tryz.prog A4i #[Nh r c A n cap] h K:=
 A8r rv' hn hl hs hm1 hb (fun q mk h' l=>hK _ _ (.inr (.inr ⟨q,mk,rfl,rfl⟩)) h' l) (fun hx hne h' l=>hK [] 4 (.inr (.inl ⟨hx,hne,rfl,rfl⟩)) h' l) (fun hno h' l=>hK [] 1 (.inl ⟨hno,rfl,rfl⟩) h' l)
theorem law_matrixInverse(gl:Gl h)(s0:RowV SSr h A n la):FCall Tryz.prog Fe #[Nh r c A n cap] h (C0j h):=by
 refine Oi _ _ _ _ _ ?_
 unfold Io
 have aw:∀ h',h.le h'->FCall Tryz.prog Ll #[] h' (fun r hp=>∃ t,r= .bool t/\C0j h (.bool t) hp):=fun h' l=>A65 (gl.mono l) fun h'' l''=>⟨_,rfl,rfl,A0 l l''⟩
 refine A2q s0 (fun sm=>⟨_,rfl,Br.nt ?_⟩) (fun _=>⟨_,rfl,A3r (aw h (B3 _))⟩)
 obtain ⟨hl,hs,hn,hrc⟩:=B1r sm rfl
 have b3:∀ rows cols,MOk r c n la rows cols->3^cols*bnd cols 48<=300000:=fun rows cols mk=>B5w (hrc rows cols mk).2
 have b7:∀ rows cols,MOk r c n la rows cols->7^cols*48<=6000000:=fun rows cols mk=>B5v (hrc rows cols mk).2
 have b6:∀ q,MOk r c n la q q->3^q*bnd (q+q) 48<=455625:=fun q mk=>by
  have hq:=(hrc q q mk).2
  have h1:bnd (q+q) 48<=625:=by unfold bnd;omega
  exact Nat.le_trans (Nat.mul_le_mul (Nat.pow_le_pow_right (show 3>0 by decide) hq) h1) (by decide)
 refine A5r gl s0 hn hl hs (fun rows cols mk=>by have:=b3 rows cols mk;omega) ?_
 intro d1 e1 hd1 h1 l1
 refine ⟨_,_,rfl,?_⟩
 refine A5w (m:=48) (s0.mono Bq l1) hn hl hs (by omega) (fun rows cols mk=>by have:=b7 rows cols mk;omega) ?_
 intro d2 e2 hd2 h2 l2
 obtain ⟨rfl,rfl⟩:=hd1.eq hd2
 refine ⟨_,_,rfl,?_⟩
 have l02:=A0 l1 l2
 refine Ww (m:=48) (gl.mono l02) (s0.mono Bq l02) hn hl hs (by omega) (fun q mk=>by have:=b6 q mk;omega) ?_
 intro o1 ho1 A3 c3 h3 l3 r3
 refine ⟨_,_,_,_,_,_,rfl,?_⟩
 have l03:=A0 l02 l3
 refine Xd (m:=48) (s0.mono Bq l03) hn hl hs (by omega) (fun q mk=>by have:=b7 q q mk;omega) ?_
 intro o2 ho2 A4 c4 h4 l4 r4
 obtain rfl:=ho1.eq ho2
 refine ⟨_,_,_,_,_,_,rfl,?_⟩
 have l04:=A0 l03 l4
 refine B23 (m:=48) (gl.mono l04) (s0.mono Bq l04) hn hl hs (by omega) (fun q mk=>by have:=b3 q q mk;have:=b7 q q mk;exact ⟨by omega,by omega⟩) ?_
 intro o5 ho5 Ap cp Al cl Au cu h5 l5 rp rl ru
 refine ⟨_,_,_,_,_,_,_,_,_,_,_,_,_,_,rfl,?_⟩
 have l05:=A0 l04 l5
 refine B2b (m:=48) (s0.mono Bq l05) hn hl hs (by omega) (fun q mk=>by have:=b7 q q mk;omega) ?_
 intro o6 ho6 Bp dp Bl dl Bu du h6 l6 rp' rl' ru'
 obtain rfl:=ho5.eq ho6
 refine ⟨_,_,_,_,_,_,_,_,_,_,_,_,_,_,rfl,?_⟩
 have l06:=A0 l05 l6
 have l46:=A0 l5 l6
 obtain ⟨n1,n2⟩:=ho5.n_le
 rw [show (ByteArray.toList (bs d1)==ByteArray.toList (bs d1))=true from beq_self_eq_true _]
 refine B0w (D9 (fun _=>?_) (fun e=>absurd rfl e))
 refine Cu (r3.mono Bq (A0 l4 l46)) (r4.mono Bq l46) (by have:=ho1.n_le;omega) (fun _ _ _ _=>⟨_,rfl,B0w ?_⟩) (fun hno=>absurd ⟨rfl,rfl,rfl,fun _ _=>rfl⟩ hno)
 refine D9 (fun _=>?_) (fun e=>absurd rfl e)
 obtain ⟨xs,sx,hx,rx⟩:=rp
 obtain ⟨ys,sy,hy,ry⟩:=rp'
 refine Uw (sx.mono l6) sy hx.symm hy.symm (by omega) (fun _=>⟨_,rfl,B0w ?_⟩) (fun hno=>absurd (B5p hx hy rx ry) hno)
 refine Cu (rl.mono Bq l6) rl' (by omega) (fun _ _ _ _=>⟨_,rfl,B0w ?_⟩) (fun hno=>absurd ⟨rfl,rfl,rfl,fun _ _=>rfl⟩ hno)
 refine Cu (ru.mono Bq l6) ru' (by omega) (fun _ _ _ _=>⟨_,rfl,B0w ?_⟩) (fun hno=>absurd ⟨rfl,rfl,rfl,fun _ _=>rfl⟩ hno)
 refine D9 (fun _=>?_) (fun e=>absurd rfl e)
 exact aw h6 l06
end
end Go.Proofs.YthilnfgnpdeofaaGreatDoor
namespace Go.Proofs.YthilnfgnpdeofaaGreatDoor
set_option maxRecDepth 20000
open Go Go.RowKit
theorem B8e(s:ByteArray):bs s.data.toList=s:=by
 cases s;simp [bs]
theorem A86{H:Type}{enc:TypeId × Value->H}{P:Program}{W:World}{base:Nat}{sp:Nat->Bool}{held:Bool}{t e:TypeId}{fuel:Nat}{A:Option Addr}{len cap:Nat}{x:DataW H × List MemPlace}(ht:P.underlying t=some (.slice e))(he:P.underlying e=some .string)(hc:P.cellsOf e=1)
 (hf:DataW.trod enc P W base sp held fuel t [.slice A len cap]=some x):∃ ls:Nat->List UInt8,RowV SSr (memOf W) A len ls/\len<=maxLen:=by
 rcases Deep.open_strs ht he hc hf with ⟨hcs,_⟩|⟨a,l,c,m,Sx,hcs,_,hl,hm,hmm,_,hcell⟩
 ·simp at hcs
  obtain ⟨rfl,rfl,rfl⟩:=hcs
  exact ⟨fun _=>[],RowV.nil,Nat.zero_le _⟩
 ·simp at hcs
  obtain ⟨rfl,rfl,rfl⟩:=hcs
  have hlm:len<=m:=by rw [hmm];split<;>omega
  have sl:SlV (memOf W) (some a) (((List.range len).map fun i=>(Sx i).data.toList).map fun l=>Value.string (bs l)):=by
   refine .inr ⟨a,rfl,fun i v hv=>?_⟩
   rw [List.getElem?_map,List.getElem?_map] at hv
   by_cases hi:i<len
   ·rw [List.getElem?_range hi] at hv
    simp only [Option.map_some,Option.some.injEq,B8e] at hv
    rw [<- hv]
    exact Ng (hcell i (by omega)).1
   ·rw [List.getElem?_eq_none (by simpa using hi)] at hv;cases hv
  have:=Ki sl
  rw [List.length_map,List.length_range] at this
  exact ⟨_,this,by omega⟩
theorem open_mat{H:Type}{enc:TypeId × Value->H}{P:Program}{W:World}{base:Nat}{sp:Nat->Bool}{held:Bool}{r:Reach}{b0:Nat}{t e:TypeId}{f0 f1 f2:Field}{v:Value}{d:DataW H}{ps:List MemPlace}(ht:P.underlying t=some (.struct #[f0,f1,f2]))(u0:P.underlying f0.type=some (.int .i64))(u1:P.underlying f1.type=some (.int .i64))(u2:P.underlying f2.type=some (.slice e))(ue:P.underlying e=some .string)
 (hoff:f0.offset=0/\f1.offset=1/\f2.offset=2/\P.cellsOf f0.type=1/\P.cellsOf f1.type=1/\P.cellsOf f2.type=1/\P.cellsOf t=3/\P.cellsOf e=1)
 (hval:Value.okWide P W r b0 t v) (hd:DataW.Trod enc P W base sp held t v d ps):∃ (x y:Int) (A:Option Addr) (len cap:Nat) (ls:Nat->List UInt8),v= .agg #[.int .i64 x,.int .i64 y,.slice A len cap]/\RowV SSr (memOf W) A len ls/\len<=maxLen:=by
 obtain ⟨o0,o1,o2,c0,c1,c2,ct,ce⟩:=hoff
 obtain ⟨cs,rfl,hcs⟩:=WideShapes.okWide_struct ht hval
 obtain ⟨fuel,hf⟩:=hd
 obtain ⟨y0,y1,y2,n,hx,hl,g0,g1,g2⟩:=Deep.trod_struct3 ht hf
 rw [o0,c0] at g0
 rw [o1,c1] at g1
 rw [o2,c2] at g2
 obtain ⟨s0,e0,_,_⟩:=DataW.trod_int u0 g0
 obtain ⟨s1,e1,_,_⟩:=DataW.trod_int u1 g1
 rw [ct] at hcs
 have hlen:cs.toList.length=3:=by simpa using hcs
 obtain ⟨p,q,z,hm⟩:∃ p q z,cs.toList=[p,q,z]:=by
  match h:cs.toList,hlen with
  | [p,q,z],_=>exact ⟨p,q,z,rfl⟩
 simp only [Value.cells] at e0 e1 g2
 rw [hm] at e0 e1 g2
 simp at e0 e1 g2
 have hA:∃ A len cap,z= .slice A len cap:=by
  rcases Deep.open_strs u2 ue ce g2 with ⟨hcs,_⟩|⟨a,l,c,m,Sx,hcs,_⟩
  ·simp at hcs;exact ⟨_,_,_,hcs⟩
  ·simp at hcs;exact ⟨_,_,_,hcs⟩
 obtain ⟨A,len,cap,rfl⟩:=hA
 obtain ⟨ls,hr,hml⟩:=A86 u2 ue ce g2
 have:cs=#[.int .i64 s0,.int .i64 s1,.slice A len cap]:=by rw [<- Array.toArray_toList (xs:=cs),hm,e0,e1]
 exact ⟨s0,s1,A,len,cap,ls,by rw [this],hr,hml⟩
end Go.Proofs.YthilnfgnpdeofaaGreatDoor
