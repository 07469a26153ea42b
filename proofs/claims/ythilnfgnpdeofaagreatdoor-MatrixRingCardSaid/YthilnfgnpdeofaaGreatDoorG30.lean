/-
  Texts of this proof, merged by a program of ours.
-/
import Derived.Test.YthilnfgnpdeofaaGreatDoorG29
import Derived.Test.YthilnfgnpdeofaaGreatDoorG21
import Derived.Test.YthilnfgnpdeofaaGreatDoorG22
import Derived.Deep.Strs
namespace Go.Proofs.YthilnfgnpdeofaaGreatDoor
set_option maxRecDepth 20000
open Go
section
variable {h:Heap} {K:Value->Heap->Prop} {A B:Option Addr} {n m a b:Nat} {r c r2 c2:Int} {ls ls2:Nat->List UInt8}
theorem Ya{k:Int}(r:RowV SSr h A n ls)(hn:n<=1000000000)(hK1:(∀ i,i<n->((ls i).length:Int)<=k)->K (.bool true) h)(hK0:¬ (∀ i,i<n->((ls i).length:Int)<=k)->K (.bool false) h):FCall Tryz.prog St #[I k,.slice A n a] h K:=by
 refine A5g _ _ _ _ ?_
 unfold A8u
 refine ⟨fun L hp=>∃ i:Nat,i<=n/\L=[I (i:Int)]/\hp=h/\∀ j,j<i->((ls j).length:Int)<=k,fun L _=>n-(iAt L 0).toNat,⟨0,by omega,rfl,rfl,fun j hj=>by omega⟩,?_⟩
 rintro z hp ⟨i,hi,eL,rfl,hh⟩
 obtain rfl:z=(i:Int):=by simpa using eL
 refine B8 (fun hlt=>?_) (fun hge=>?_)
 ·have hin:i<n:=by omega
  obtain ⟨x,rfl,hc⟩:=r.sat hin
  refine ⟨x,rfl,by omega,by omega,_,hc,?_⟩
  rw [O6]
  refine B8 (fun e=>hK0 fun hx=>by have:=hx i hin;omega) (fun e=>?_)
  rw [show B4 ((i:Int)+1)=((i+1:Nat):Int) by rw [B6]<;>omega]
  refine ⟨⟨i+1,by omega,rfl,rfl,fun j hj=>?_⟩,by simp only [Pe];omega⟩
  by_cases e2:j=i
  ·subst e2;omega
  ·exact hh j (by omega)
 ·have:i=n:=by omega
  subst this
  exact hK1 hh
theorem Hv(x:RowV SSr h A n ls)(y:RowV SSr h B m ls2)(hn:n<=1000000000)(hK1:n=m->(∀ i,i<n->ls i=ls2 i)->K (.bool true) h)(hK0:¬ (n=m/\∀ i,i<n->ls i=ls2 i)->K (.bool false) h):FCall Tryz.prog Ff #[.slice A n a,.slice B m b] h K:=by
 refine Za _ _ _ _ _ _ ?_
 unfold A0g
 refine L4 (fun e=>hK0 fun hx=>e (by omega)) (fun e=>?_)
 have e:n=m:=by omega
 subst e
 refine ⟨fun L hp=>∃ i:Nat,i<=n/\L=[I (i:Int)]/\hp=h/\∀ j,j<i->ls j=ls2 j,fun L _=>n-(iAt L 0).toNat,⟨0,by omega,rfl,rfl,fun j hj=>by omega⟩,?_⟩
 rintro z hp ⟨i,hi,eL,rfl,hh⟩
 obtain rfl:z=(i:Int):=by simpa using eL
 refine B8 (fun hlt=>?_) (fun hge=>?_)
 ·have hin:i<n:=by omega
  obtain ⟨u,rfl,hc⟩:=x.sat hin
  obtain ⟨v,rfl,hd⟩:=y.sat hin
  refine ⟨u,rfl,by omega,by omega,_,hc,v,rfl,by omega,by omega,_,hd,?_⟩
  rw [Qw]
  refine Bi (B8 (fun e=>?_) (fun e=>hK0 fun hx=>e (hx.2 i hin)))
  rw [show B4 ((i:Int)+1)=((i+1:Nat):Int) by rw [B6]<;>omega]
  refine ⟨⟨i+1,by omega,rfl,rfl,fun j hj=>?_⟩,by simp only [Pe];omega⟩
  by_cases e2:j=i
  ·subst e2;exact e
  ·exact hh j (by omega)
 ·have:i=n:=by omega
  subst this
  exact hK1 rfl hh
theorem A52{xs:List Int}(s:SlF h A xs){i:Nat}(hi:i<xs.length):∃ x,A=some x/\h.cell? (Addr.add x (i*1))=some (I xs[i]):=by
 obtain ⟨x,e,hc⟩:=SlF.at (by decide) s hi
 have:=hc 0 _ rfl
 rw [Il] at this
 exact ⟨x,e,this⟩
theorem A12{xs ys:List Int}(x:SlF h A xs)(y:SlF h B ys)(hn:n=xs.length)(hm:m=ys.length)(hb:n<=1000000000)(hK1:xs=ys->K (.bool true) h)(hK0:xs≠ys->K (.bool false) h):FCall Tryz.prog Yf #[.slice A n a,.slice B m b] h K:=by
 refine A7f _ _ _ _ _ _ ?_
 unfold B2o
 refine L4 (fun e=>hK0 fun hx=>e (by rw [hn,hm,hx])) (fun e=>?_)
 have e:n=m:=by omega
 subst e
 refine ⟨fun L hp=>∃ i:Nat,i<=n/\L=[I (i:Int)]/\hp=h/\∀ j,j<i->xs[j]? = ys[j]?,fun L _=>n-(iAt L 0).toNat,⟨0,by omega,rfl,rfl,fun j hj=>by omega⟩,?_⟩
 rintro z hp ⟨i,hi,eL,rfl,hh⟩
 obtain rfl:z=(i:Int):=by simpa using eL
 refine B8 (fun hlt=>?_) (fun hge=>?_)
 ·have h1:i<xs.length:=by omega
  have h2:i<ys.length:=by omega
  obtain ⟨u,rfl,hc⟩:=A52 x h1
  obtain ⟨v,rfl,hd⟩:=A52 y h2
  refine ⟨u,rfl,by omega,by omega,_,hc,v,rfl,by omega,by omega,_,hd,?_⟩
  refine L4 (fun e=>hK0 fun hx=>e (by simp only [hx])) (fun e=>?_)
  rw [show B4 ((i:Int)+1)=((i+1:Nat):Int) by rw [B6]<;>omega]
  refine ⟨⟨i+1,by omega,rfl,rfl,fun j hj=>?_⟩,by simp only [Pe];omega⟩
  by_cases e2:j=i
  ·subst e2;rw [List.getElem?_eq_getElem h1,List.getElem?_eq_getElem h2,e]
  ·exact hh j (by omega)
 ·have:i=n:=by omega
  subst this
  refine hK1 (List.ext_getElem? fun j=>?_)
  by_cases hj:j<i
  ·exact hh j hj
  ·rw [List.getElem?_eq_none (by omega),List.getElem?_eq_none (by omega)]
theorem Fo(x:RowV SSr h A n ls)(y:RowV SSr h B m ls2)(hn:n<=1000000000)(hK1:r=r2->c=c2->n=m->(∀ i,i<n->ls i=ls2 i)->K (.bool true) h)(hK0:¬ (r=r2/\c=c2/\n=m/\∀ i,i<n->ls i=ls2 i)->K (.bool false) h):FCall Tryz.prog P5 #[Kg r c A n a,Kg r2 c2 B m b] h K:=by
 refine Wo _ _ _ _ _ _ _ _ _ _ ?_
 unfold Wp
 refine D8 (fun e1=>D8 (fun e2=>?_) (fun e=>hK0 fun hx=>e hx.2.1)) (fun e=>hK0 fun hx=>e hx.1)
 exact Hv x y hn (fun h1 h2=>⟨_,rfl,hK1 e1 e2 h1 h2⟩) (fun hx=>⟨_,rfl,hK0 fun hy=>hx hy.2.2⟩)
structure Small (r c:Int) (n:Nat) (ls:Nat->List UInt8) (k d:Int):Prop where
 hr:r<=k
 hc:c<=k
 hn:(n:Int)<=k*k+2
 hl:∀ i,i<n->((ls i).length:Int)<=d
theorem Ge{k d:Int}(x:RowV SSr h A n ls)(hk:0<=k/\k<=1000)(hK1:Small r c n ls k d->K (.bool true) h)(hK0:¬ Small r c n ls k d->K (.bool false) h):FCall Tryz.prog O9 #[Kg r c A n a,I k,I d] h K:=by
 refine Pa _ _ _ _ _ _ _ ?_
 unfold Ku
 have hkk:k*k<=1000*1000:=Int.mul_le_mul hk.2 hk.2 hk.1 (by omega)
 have hkk0:0<=k*k:=Int.mul_nonneg hk.1 hk.1
 have e1:B4 (k*k)=k*k:=B6 (by omega) (by omega)
 have e2:B4 (k*k+2)=k*k+2:=B6 (by omega) (by omega)
 rw [e1,e2]
 refine B8 (fun h1=>B8 (fun h2=>B8 (fun h3=>?_) (fun e=>hK0 fun x=>e x.hn)) (fun e=>hK0 fun x=>e x.hc)) (fun e=>hK0 fun x=>e x.hr)
 exact Ya x (by omega) (fun hx=>⟨_,rfl,hK1 ⟨h1,h2,h3,hx⟩⟩) (fun hx=>⟨_,rfl,hK0 fun y=>hx y.hl⟩)
end
theorem A6r(ls:List (List UInt8)):(ls.flatMap fun l=>[Value.string (bs l)])=ls.map fun l=>Value.string (bs l):=by
 induction ls with
 | nil=>rfl
 | cons x l ih=>rw [List.flatMap_cons,ih];rfl
theorem Hm{h:Heap}{A:Option Addr}{ls:List (List UInt8)}(s:SlV h A (ls.map fun l=>Value.string (bs l))):RowV SSr h A ls.length (fun i=>ls.getD i []):=by
 refine ⟨ls,?_,rfl,fun i hi=>⟨ls[i],List.getElem?_eq_getElem hi,?_⟩⟩
 ·show SlV h A (ls.flatMap fun l=>[Value.string (bs l)])
  rw [A6r];exact s
 ·show ls[i]=ls.getD i []
  simp [hi]
theorem Rv(l:List Rat):rvs (fun i=>(l.map P4).getD i [])=fun i=>l.getD i 0:=by
 funext i
 show rv ((l.map P4).getD i [])=_
 by_cases hi:i<l.length
 ·rw [List.getD_eq_getElem?_getD,List.getD_eq_getElem?_getD,List.getElem?_map,List.getElem?_eq_getElem hi]
  exact Ml _
 ·rw [List.getD_eq_getElem?_getD,List.getD_eq_getElem?_getD,List.getElem?_map,List.getElem?_eq_none (by omega)]
  exact A7n (by rintro ⟨q,hq⟩;exact absurd hq.symm (by
   have:=A2a q
   obtain ⟨c,r,e,_⟩:=this
   rw [e];simp))
theorem B17:P4 1=[49]:=by
 have:L9 1=[49]:=by decide +kernel
 simp [P4,Mh,this]
theorem B16:P4 2=[50]:=by
 have:L9 2=[50]:=by decide +kernel
 have h1:(2:Rat).den=1:=by decide +kernel
 have h2:(2:Rat).num=2:=by decide +kernel
 simp [P4,Mh,this,h1,h2]
theorem B4k:P4 3=[51]:=by
 have:L9 3=[51]:=by decide +kernel
 have h1:(3:Rat).den=1:=by decide +kernel
 have h2:(3:Rat).num=3:=by decide +kernel
 simp [P4,Mh,this,h1,h2]
theorem B2u:P4 4=[52]:=by
 have:L9 4=[52]:=by decide +kernel
 have h1:(4:Rat).den=1:=by decide +kernel
 have h2:(4:Rat).num=4:=by decide +kernel
 simp [P4,Mh,this,h1,h2]
theorem B3k:P4 (-2)=[45,50]:=by
 have:L9 2=[50]:=by decide +kernel
 have h1:(-2:Rat).den=1:=by decide +kernel
 have h2:(-2:Rat).num= -2:=by decide +kernel
 simp [P4,Mh,this,h1,h2]
theorem aw1:(elE (fun i=>([2,4,1,2]:List Rat).getD i 0) 2 2 2).cs=[0]:=by decide +kernel
theorem aw2:∀ k,k<4->A9d (fun i=>([2,4,1,2]:List Rat).getD i 0) 2 2 k=([1,2,0,0]:List Rat).getD k 0:=by decide +kernel
theorem aw3:B10 (fun i=>([1,2,3,4]:List Rat).getD i 0) 2= -2:=by decide +kernel
theorem Qx{h:Heap}{K:Value->Heap->Prop}(gl:Gl h)(hK:∀ h',h.le h'->K (.bool true) h'):FCall Tryz.prog J9 #[] h K:=by
 refine A5f ?_
 unfold A8t
 have sz:∀ (ls:List (List UInt8)),(∀ x∈ls,x.length<=1)->∀ i,i<ls.length->(ls.getD i []).length<=1:=by
  intro ls h i hi
  rw [List.getD_eq_getElem?_getD,List.getElem?_eq_getElem hi]
  exact h _ (List.getElem_mem hi)
 refine Xz Ev (ls:=[2,4,1,2].map P4) rfl (by simp) (by rw [show ([2,4,1,2]:List Rat).map P4=[[50],[52],[49],[50]] by simp [B17,B16,B2u]];rfl) ?_
 intro b1 h1 l1 s1
 have r1:=Hm s1
 have z1:=sz (([2,4,1,2]:List Rat).map P4) (by simp [B17,B16,B2u])
 refine ⟨_,_,_,rfl,?_⟩
 have hb:∀ rows cols,MOk 2 2 4 (fun i=>(([2,4,1,2]:List Rat).map P4).getD i []) rows cols->2*(3^cols*bnd cols 4)+1<=40000000:=by
  intro rows cols mk
  have:=mk.ec
  have:cols=2:=by omega
  subst this
  decide
 refine Vb (m:=4) (gl.mono l1) r1 (by simp) (fun i hi=>Nat.le_trans (z1 i hi) (by omega)) (fun i hi=>Xl (k:=1) (z1 i hi) (by omega)) hb ?_ ?_
 ·intro rows cols mk b2 h2 A' cap' own
  have e1:=mk.er;have e2:=mk.ec
  have:rows=2:=by omega
  subst this
  have:cols=2:=by omega
  subst this
  have lo:=own.le
  have so:=own.strs
  have io:=own.ints
  rw [Rv] at so io
  rw [aw1] at io
  refine ⟨_,_,_,_,_,_,_,_,_,rfl,?_⟩
  rw [Rv,aw1]
  refine Xz Ev (ls:=[1,2,3,4].map P4) rfl (by simp) (by rw [show ([1,2,3,4]:List Rat).map P4=[[49],[50],[51],[52]] by simp [B17,B16,B4k,B2u]];rfl) ?_
  intro b3 h3 l3 s3
  have r3:=Hm s3
  have z3:=sz (([1,2,3,4]:List Rat).map P4) (by simp [B17,B16,B4k,B2u])
  refine ⟨_,_,_,rfl,?_⟩
  have l13:=A0 l1 (A0 lo l3)
  have num3:Mx 2 2 4 (fun i=>(([1,2,3,4]:List Rat).map P4).getD i []):=by
   refine Ow.2 ⟨⟨by omega,by omega,by omega,by omega,by omega⟩,fun i hi=>?_⟩
   have hi':i<([1,2,3,4]:List Rat).length:=hi
   exact ⟨([1,2,3,4]:List Rat)[i],by rw [List.getD_eq_getElem?_getD,List.getElem?_map,List.getElem?_eq_getElem hi'];rfl⟩
  refine A39 (m:=4) (gl.mono l13) r3 (by simp) (fun i hi=>Nat.le_trans (z3 i hi) (by omega)) (fun i hi=>Xl (k:=1) (z3 i hi) (by omega)) ?_ ?_ (fun _ e=>absurd rfl e) (fun hno=>absurd num3 hno)
  ·intro rows cols mk
   have:=mk.ec
   have:cols=2:=by omega
   subst this
   decide
  ·intro q mk h4 l4
   have:q=2:=by have:=mk.er;omega
   subst this
   rw [Rv,aw3]
   refine ⟨_,_,rfl,D8 (fun _=>?_) (fun e=>absurd rfl e)⟩
   refine Xz Ev (ls:=[1,2,0,0].map P4) rfl (by simp) (by rw [show ([1,2,0,0]:List Rat).map P4=[[49],[50],[48],[48]] by simp [B17,B16,Uj]];rfl) ?_
   intro b5 h5 l5 s5
   have r5:=Hm s5
   refine ⟨_,_,_,rfl,?_⟩
   have l25:=A0 l3 (A0 l4 l5)
   refine Hv (so.mono X8 l25) r5 (by simp) (fun _ _=>⟨_,rfl,?_⟩) (fun hno=>absurd ⟨rfl,fun i hi=>?_⟩ hno)
   ·refine Ae B19 rfl ?_
    intro b6 h6
    refine ⟨_,_,_,rfl,?_⟩
    have l6:=Heap.le_put (.cells #[I (0:Int)] I9) h6
    refine A12 (io.1.mono (A0 l25 l6)) (Yp I9 h5 b6 ([0]:List Int)) rfl rfl (by simp) (fun _=>⟨_,rfl,?_⟩) (fun hno=>absurd rfl hno)
    have:(ByteArray.toList (bs (P4 (-2)))==ByteArray.toList ({ data:=#[45,50] }:ByteArray))=true:=by
     rw [B3k]
     exact (Qw _ _).trans (by decide)
    rw [this]
    have:=hK _ (A0 l13 (A0 l4 (A0 l5 l6)))
    exact this
   ·show P4 (A9d (fun i=>([2,4,1,2]:List Rat).getD i 0) 2 2 i)=(([1,2,0,0]:List Rat).map P4).getD i []
    have hi':i<([1,2,0,0]:List Rat).length:=hi
    rw [aw2 i hi,List.getD_eq_getElem?_getD,List.getD_eq_getElem?_getD,List.getElem?_map,List.getElem?_eq_getElem hi']
    rfl
 ·intro hno
  exfalso
  refine hno (Ow.2 ⟨⟨by omega,by omega,by omega,by omega,by simp⟩,fun i hi=>?_⟩)
  have hi':i<([2,4,1,2]:List Rat).length:=hi
  exact ⟨([2,4,1,2]:List Rat)[i],by rw [List.getD_eq_getElem?_getD,List.getElem?_map,List.getElem?_eq_getElem hi'];rfl⟩
section
variable {h:Heap} {K:Value->Heap->Prop} {A B:Option Addr} {n cap m:Nat} {r c:Int} {ls:Nat->List UInt8}
theorem A7t{E:Nat->Rat}{rows cols:Nat}(hs:∀ i,i<rows*cols->Sz m (E i)):∀ i j,i<rows->j<cols->Sz m (mtx E cols i j):=fun _ _ hi hj=>hs _ (V1 hi hj)
end
section
variable {h:Heap} {K:Value->Heap->Prop} {A:Option Addr} {n cap m w:Nat} {r c:Int} {ls:Nat->List UInt8} {M:Nat->Nat->Rat}
end
section
variable {h:Heap} {K:Value->Heap->Prop} {A:Option Addr} {n cap m w:Nat} {r c:Int} {ls:Nat->List UInt8} {R:Nat->Nat->Rat}
theorem Jy{α:Type}[E:Enc α]{o:Heap}{b:Nat}{e:TypeId}{c:Nat}{zx:α}:OwnSl (o.put b (.cells ((List.replicate c zx).flatMap enc).toArray e)) e (some ⟨b,0,none⟩) c ([]:List α):=
 ⟨Nat.zero_le _,.inr ⟨b,_,rfl,C1 _ _ _,by rw [I8,List.length_replicate],by simp⟩⟩
theorem Uz{rows cols:Nat}(rv':RowV SSr h A (rows*cols) ls)(hr:rows<=10000)(hc:cols<=10000)
 (hK:∀ A' c' h' g' o' xs,h.le g'->Sep h' g' o'->OwnSl o' K7 A' c' xs->xs.length=rows*cols->Row SSr g' xs (rows*cols) (fun k=>ls (k%rows*cols+k/rows))->K (.slice A' (rows*cols) c') h'):FCall Tryz.prog Cf #[.slice A (rows*cols) cap,I (rows:Int),I (cols:Int)] h K:=by
 refine Px _ _ _ _ _ ?_
 unfold Ox
 have hrc:rows*cols<=10000*10000:=Nat.mul_le_mul hr hc
 refine Bw Ev (zx:=([]:List UInt8)) rfl (by omega) (by omega) (by omega) (by omega) ?_
 intro b hb
 simp only [Int.toNat_natCast]
 refine ⟨_,_,_,rfl,fun L hp=>∃ (j:Nat) (g o:Heap) (xs:List (List UInt8)) (A':Option Addr) (c':Nat),j<=cols/\L=[.slice A' (j*rows) c',I (j:Int)]/\h.le g/\Sep hp g o/\OwnSl o K7 A' c' xs/\xs.length=j*rows/\Row SSr g xs (j*rows) (fun k=>ls (k%rows*cols+k/rows)),fun L _=>cols-(iAt L 1).toNat,
  ⟨0,h,Kf.put b _,[],some ⟨b,0,none⟩,rows*cols,by omega,by rw [Nat.zero_mul];rfl,B3 _,Fk hb,Jy,by simp,by rw [Nat.zero_mul];exact Row.nil⟩,?_⟩
 rintro rA rn rc z hp ⟨j,g,o,xs,A',c',hj,eL,lg,s,ow,hxl,rr⟩
 simp only [List.cons.injEq,Value.int.injEq,Value.slice.injEq,true_and,and_true] at eL
 obtain ⟨⟨rfl,rfl,rfl⟩,rfl⟩:=eL
 refine B8 (fun hlt=>?_) (fun hge=>?_)
 ·have hjc:j<cols:=by omega
  have hj1:(j+1)*rows=j*rows+rows:=by rw [Nat.add_mul,Nat.one_mul]
  have hjr:(j+1)*rows<=cols*rows:=Nat.mul_le_mul_right _ hjc
  rw [Nat.mul_comm cols rows] at hjr
  refine ⟨fun L hp=>∃ (i:Nat) (g o:Heap) (xs:List (List UInt8)) (A':Option Addr) (c':Nat),i<=rows/\L=[.slice A' (j*rows+i) c',I (i:Int)]/\h.le g/\Sep hp g o/\OwnSl o K7 A' c' xs/\xs.length=j*rows+i/\Row SSr g xs (j*rows+i) (fun k=>ls (k%rows*cols+k/rows)),fun L _=>rows-(iAt L 1).toNat,
   ⟨0,g,o,xs,rA,rc,by omega,rfl,lg,s,ow,hxl,rr⟩,?_⟩
  rintro qA qn qc z hp2 ⟨i,g2,o2,ys,A2,c2,hi,eL,lg2,s2,ow2,hyl,rr2⟩
  simp only [List.cons.injEq,Value.int.injEq,Value.slice.injEq,true_and,and_true] at eL
  obtain ⟨⟨rfl,rfl,rfl⟩,rfl⟩:=eL
  refine B8 (fun hlt2=>?_) (fun hge2=>?_)
  ·have hir:i<rows:=by omega
   have hidx:=V1 hir hjc
   have ew:B4 (B4 ((i:Int)*(cols:Int))+(j:Int))=((i*cols+j:Nat):Int):=by
    rw [<- Int.natCast_mul,Bk (by omega)]
    exact Bk (n:=i*cols+j) (by omega)
   rw [ew]
   obtain ⟨a,ea,hc1⟩:=(rv'.mono X8 (A0 lg2 s2.le)).sat hidx
   refine ⟨a,ea,by omega,by omega,_,hc1,?_⟩
   refine Cq (ty:=Me) Ev s2 ow2 hyl.symm (y:=ls (i*cols+j)) rfl (by decide) (by rw [hyl];omega) (by rw [hyl];omega) ?_
   intro A3 c3 h3 g3 o3 l3 s3 ow3 _
   rw [hyl,show B4 ((i:Int)+1)=((i+1:Nat):Int) by rw [B6]<;>omega]
   refine ⟨⟨i+1,g3,o3,_,A3,c3,by omega,by rw [Nat.add_assoc],A0 lg2 l3,s3,ow3,by rw [List.length_append,hyl];rfl,?_⟩,?_⟩
   ·have rB:=Row.push (R:=SSr) (g:=g3) (xs:=ys) (f:=fun k=>ls (k%rows*cols+k/rows)) (by rw [hyl];exact rr2.mono X8 l3) (w:=ls (i*cols+j)) (by
     show ls (i*cols+j)=ls (ys.length%rows*cols+ys.length/rows)
     rw [hyl,Nat.add_comm (j*rows) i,Nat.add_mul_mod_self_right,Nat.mod_eq_of_lt hir,Nat.add_mul_div_right _ _ (by omega),Nat.div_eq_of_lt hir,Nat.zero_add])
    rw [List.length_append,hyl] at rB
    exact rB
   ·show rows-((i+1:Nat):Int).toNat<rows-(i:Int).toNat
    omega
  ·have:i=rows:=by omega
   subst this
   rw [show B4 ((j:Int)+1)=((j+1:Nat):Int) by rw [B6]<;>omega,<- hj1]
   rw [<- hj1] at hyl rr2
   refine ⟨⟨j+1,g2,o2,ys,qA,qc,by omega,rfl,lg2,s2,ow2,hyl,rr2⟩,?_⟩
   show cols-((j+1:Nat):Int).toNat<cols-(j:Int).toNat
   omega
 ·have:j=cols:=by omega
  subst this
  rw [Nat.mul_comm j rows] at hxl rr ⊢
  exact hK rA rc hp g o xs lg s ow hxl rr
def OwnS(h h':Heap)(A:Option Addr)(c n:Nat)(f:Nat->List UInt8):Prop:=∃ g o xs,h.le g/\Sep h' g o/\OwnSl o K7 A c xs/\xs.length=n/\Row SSr g xs n f
theorem OwnS.le{h h':Heap}{c n:Nat}{f:Nat->List UInt8}(w:OwnS h h' A c n f):h.le h':=by
 obtain ⟨g,o,xs,lg,s,_⟩:=w
 exact A0 lg s.le
theorem OwnS.vis{h h':Heap}{c n:Nat}{f:Nat->List UInt8}(w:OwnS h h' A c n f):RowV SSr h' A n f:=by
 obtain ⟨g,o,xs,lg,s,ow,e,q⟩:=w
 exact ⟨xs,ow.slF s.ole,e,q.mono X8 s.le⟩
theorem OwnS.weak{h0 h h':Heap}{c n:Nat}{f:Nat->List UInt8}(l:h0.le h)(w:OwnS h h' A c n f):OwnS h0 h' A c n f:=by
 obtain ⟨g,o,xs,lg,x⟩:=w
 exact ⟨g,o,xs,A0 l lg,x⟩
theorem Nd(gl:Gl h)(rv':RowV SSr h A n ls)(hn:n<=1000000)(hl:∀ i,i<n->(ls i).length<=100000000)
 (hK1:∀ rows cols,MOk r c n ls rows cols->∀ h' A' c',OwnS h h' A' c' n (fun k=>ls (k%rows*cols+k/rows))->K (.tuple #[Kg c r A' n c',I 0]) h')
 (hK0:¬ Mx r c n ls->∀ h',h.le h'->K (.tuple #[Kg 0 0 none 0 0,I 1]) h'):FCall Tryz.prog E5 #[Kg r c A n cap] h K:=by
 refine Tt _ _ _ _ _ ?_
 unfold Ri
 refine Bv gl rv' hn hl (fun hx=>⟨_,rfl,?_⟩) (fun hno=>⟨_,rfl,hK0 hno h (B3 _)⟩)
 obtain ⟨rows,cols,mk⟩:=hx
 have hk:=hK1 rows cols mk
 obtain ⟨rfl,rfl,_,_,_,_,rfl,_⟩:=id mk
 have:=mk.r2;have:=mk.c2
 refine Uz rv' (by omega) (by omega) ?_
 intro A2 c2 h2 g2 o2 xs l2 s2 ow hxl rr
 exact ⟨_,_,_,rfl,A0 l2 s2.le,hk h2 A2 c2 ⟨g2,o2,xs,l2,s2,ow,hxl,rr⟩⟩
end
theorem Br.nt{X Y:Prop}(y:Y):Br (!true) X Y:=y
theorem Ua{X Y:Prop}(x:X):Br (!false) X Y:=x
structure MOut where
 r:Int
 c:Int
 n:Nat
 f:Nat->List UInt8
 e:Int
def noM(e:Int):MOut:=⟨0,0,0,fun _=>[],e⟩
def CombO(r c:Int)(n:Nat)(la:Nat->List UInt8)(r2 c2:Int)(n2:Nat)(lb:Nat->List UInt8)(q:Rat)(o:MOut):Prop:=
 (¬ (Mx r c n la/\Mx r2 c2 n2 lb)/\o=noM 1)\/(Mx r c n la/\Mx r2 c2 n2 lb/\(r≠r2\/c≠c2)/\o=noM 4)\/(Mx r c n la/\Mx r2 c2 n2 lb/\r=r2/\c=c2/\o=⟨r,c,n,fun k=>P4 (rv (la k)+q*rv (lb k)),0⟩)
theorem CombO.eq{r c r2 c2:Int}{n n2:Nat}{la lb:Nat->List UInt8}{q:Rat}{o p:MOut}(x:CombO r c n la r2 c2 n2 lb q o)(y:CombO r c n la r2 c2 n2 lb q p):o=p:=by
 rcases x with ⟨h1,rfl⟩|⟨h1,h2,h3,rfl⟩|⟨h1,h2,h3,h4,rfl⟩<;>rcases y with ⟨g1,rfl⟩|⟨g1,g2,g3,rfl⟩|⟨g1,g2,g3,g4,rfl⟩<;>first|rfl|(exfalso;exact h1 ⟨g1,g2⟩)|(exfalso;exact g1 ⟨h1,h2⟩)|(exfalso;omega)
def ScalO(s:List UInt8)(r c:Int)(n:Nat)(la:Nat->List UInt8)(o:MOut):Prop:=
 (¬ (IsNum s/\Mx r c n la)/\o=noM 1)\/(IsNum s/\Mx r c n la/\o=⟨r,c,n,fun k=>P4 (rv s*rv (la k)),0⟩)
theorem ScalO.eq{s:List UInt8}{r c:Int}{n:Nat}{la:Nat->List UInt8}{o p:MOut}(x:ScalO s r c n la o)(y:ScalO s r c n la p):o=p:=by
 rcases x with ⟨h1,rfl⟩|⟨h1,h2,rfl⟩<;>rcases y with ⟨g1,rfl⟩|⟨g1,g2,rfl⟩<;>first|rfl|(exfalso;exact h1 ⟨g1,g2⟩)|(exfalso;exact g1 ⟨h1,h2⟩)
section
variable {h:Heap} {K:Value->Heap->Prop} {A B:Option Addr} {n n2 cap cap2 m w:Nat} {r c r2 c2:Int} {la lb:Nat->List UInt8}
end
structure VV where
 A:Option Addr
 n:Nat
 c:Nat
 s:Bool
 B:Option Addr
 bn:Nat
 bc:Nat
abbrev VV.v(w:VV):Value:=.agg #[.slice w.A w.n w.c,.bool w.s,.slice w.B w.bn w.bc]
instance:Enc VV:=⟨⟨fun w=>[.slice w.A w.n w.c,.bool w.s,.slice w.B w.bn w.bc],3,fun _=>rfl,fun w v hv=>by
 simp only [List.mem_cons,List.not_mem_nil,or_false] at hv
 rcases hv with rfl|rfl|rfl<;>rfl⟩⟩
def VQr(w:Nat):Heap->VV->(Nat->Rat)->Prop:=fun h v f=>v.n=w/\ZI h v.s v.B v.bn v.bc (U9 f w:Int)/\RowV ZIr h v.A w (fun j=>scl (f j) (U9 f w:Int))
theorem A0z(w:Nat):Mon (VQr w):=fun _ _ _ _ l i=>⟨i.1,i.2.1.mono l,i.2.2.mono Jj l⟩
section
variable {h:Heap} {K:Value->Heap->Prop} {A B:Option Addr} {n cap m w:Nat} {f f2:Nat->Rat}
theorem Xx(gl:Gl h)(r:RowV RQr h A n f)(hn:n<=10000)(hs:∀ i,i<n->Sz m (f i))(hm:1+n*m+m<=6400000000)
 (hK:∀ v h',h.le h'->VQr n h' v f->K v.v h'):FCall Tryz.prog Dv #[.slice A n cap] h K:=by
 refine Tu _ _ _ ?_
 unfold Rj
 have hd:=Gd (f:=f) n hs
 refine ⟨?_,?_⟩
 ·refine Bw tZs (zx:=(⟨false,none,0,0⟩:IV)) rfl (by omega) (by omega) (by omega) (by omega) ?_
  intro b hb
  simp only [Int.toNat_natCast]
  have s0:=(Sep.refl h).new hb (.cells ((List.replicate n (⟨false,none,0,0⟩:IV)).flatMap enc).toArray Bn)
  refine ⟨_,_,_,rfl,s0.le,s0.call (Af gl r (by omega) hs hm ?_)⟩
  intro sd Bd bn bc g1 l1 id h1 s1
  refine ⟨_,_,_,_,rfl,s0.le_le s1 l1,?_⟩
  refine ⟨fun L hp=>∃ (k:Nat) (g o:Heap) (ys:List IV),k<=n/\L=[I (k:Int)]/\g1.le g/\Sep hp g o/\RowX o b ys/\ys.length=n/\Row ZIr g ys k (fun j=>scl (f j) (U9 f n:Int)),fun L _=>n-(iAt L 0).toNat,⟨0,g1,_,List.replicate n ⟨false,none,0,0⟩,by omega,rfl,B3 _,s1,RowX.mk,List.length_replicate,Row.nil⟩,?_⟩
  rintro z hp ⟨k,g,o,ys,hk,eL,lg,s,rx,hy,rr⟩
  obtain rfl:z=(k:Int):=by simpa using eL
  refine B8 (fun hlt=>?_) (fun hge=>?_)
  ·have hkn:k<n:=by omega
   obtain ⟨a,w,ea,iw,c0,c1,c2,c3⟩:=(r.mono R3 (A0 l1 lg)).qat hkn
   refine ⟨a,ea,by omega,by omega,_,_,_,_,_,_,_,_,C0 s.le c0,C0 s.le c1,C0 s.le c2,C0 s.le c3,?_⟩
   refine s.call (Fy (m:=1+n*m+m) iw (id.mono lg) ((hs k hkn).mono (by omega)) (hd.mono (by omega)) hm ?_)
   intro s2 A2 n2 c2 g2 l2 i2 h2 sp2
   refine ⟨_,_,_,_,rfl,s.le_le sp2 l2,_,rfl,by omega,by omega,?_⟩
   refine Fj Rq (y:=(⟨s2,A2,n2,c2⟩:IV)) rfl sp2 rx (i:=k) (by omega) ?_
   intro h7 o7 x7 eo s7 rx7
   rw [show B4 ((k:Int)+1)=((k+1:Nat):Int) by rw [B6]<;>omega]
   exact ⟨⟨k+1,g2,o7,_,by omega,rfl,A0 lg l2,s7,rx7,by rw [List.length_set];exact hy,(rr.mono Jj l2).set (by omega) i2⟩,by simp only [Pe];omega⟩
  ·have:k=n:=by omega
   subst this
   exact hK ⟨some ⟨b,0,none⟩,k,k,sd,Bd,bn,bc⟩ hp (A0 l1 (A0 lg s.le)) ⟨rfl,id.mono (A0 lg s.le),ys,rx.rowB.slF s.ole,hy,rr.mono Jj s.le⟩
 ·refine Af gl r (by omega) hs hm ?_
  intro sd Bd bn bc g1 l1 id
  refine ⟨_,_,_,_,rfl,l1,Bw tZs (zx:=(⟨false,none,0,0⟩:IV)) rfl (by omega) (by omega) (by omega) (by omega) ?_⟩
  intro b hb
  simp only [Int.toNat_natCast]
  have s1:=(Sep.refl g1).new hb (.cells ((List.replicate n (⟨false,none,0,0⟩:IV)).flatMap enc).toArray Bn)
  refine ⟨_,_,_,rfl,s1.le,?_⟩
  refine ⟨fun L hp=>∃ (k:Nat) (g o:Heap) (ys:List IV),k<=n/\L=[I (k:Int)]/\g1.le g/\Sep hp g o/\RowX o b ys/\ys.length=n/\Row ZIr g ys k (fun j=>scl (f j) (U9 f n:Int)),fun L _=>n-(iAt L 0).toNat,⟨0,g1,_,List.replicate n ⟨false,none,0,0⟩,by omega,rfl,B3 _,s1,RowX.mk,List.length_replicate,Row.nil⟩,?_⟩
  rintro z hp ⟨k,g,o,ys,hk,eL,lg,s,rx,hy,rr⟩
  obtain rfl:z=(k:Int):=by simpa using eL
  refine B8 (fun hlt=>?_) (fun hge=>?_)
  ·have hkn:k<n:=by omega
   obtain ⟨a,w,ea,iw,c0,c1,c2,c3⟩:=(r.mono R3 (A0 l1 lg)).qat hkn
   refine ⟨a,ea,by omega,by omega,_,_,_,_,_,_,_,_,C0 s.le c0,C0 s.le c1,C0 s.le c2,C0 s.le c3,?_⟩
   refine s.call (Fy (m:=1+n*m+m) iw (id.mono lg) ((hs k hkn).mono (by omega)) (hd.mono (by omega)) hm ?_)
   intro s2 A2 n2 c2 g2 l2 i2 h2 sp2
   refine ⟨_,_,_,_,rfl,s.le_le sp2 l2,_,rfl,by omega,by omega,?_⟩
   refine Fj Rq (y:=(⟨s2,A2,n2,c2⟩:IV)) rfl sp2 rx (i:=k) (by omega) ?_
   intro h7 o7 x7 eo s7 rx7
   rw [show B4 ((k:Int)+1)=((k+1:Nat):Int) by rw [B6]<;>omega]
   exact ⟨⟨k+1,g2,o7,_,by omega,rfl,A0 lg l2,s7,rx7,by rw [List.length_set];exact hy,(rr.mono Jj l2).set (by omega) i2⟩,by simp only [Pe];omega⟩
  ·have:k=n:=by omega
   subst this
   exact hK ⟨some ⟨b,0,none⟩,k,k,sd,Bd,bn,bc⟩ hp (A0 l1 (A0 lg s.le)) ⟨rfl,id.mono (A0 lg s.le),ys,rx.rowB.slF s.ole,hy,rr.mono Jj s.le⟩
def smZ(x y:Nat->Int):Nat->Int
 | 0=>0
 | k+1=>smZ x y k+x k*y k
def smA(x y:Nat->Int):Nat->Int
 | 0=>0
 | k+1=>smA x y k+(x k*y k).natAbs
theorem A7m{x y:Nat->Int}{m w:Nat}(hx:∀ j,j<w->ZB m (x j))(hy:∀ j,j<w->ZB m (y j)):∀ k,k<=w->smA x y k<=k*2^(2*m):=by
 intro k
 induction k with
 | zero=>intro _;simp [smA]
 | succ k ih=>
  intro hk
  have h1:=ih (by omega)
  have h2:=Xt (hx k (by omega)) (hy k (by omega))
  have h3:((k+1:Nat):Int)*2^(2*m)=(k:Int)*2^(2*m)+2^(2*m):=by rw [Int.natCast_add,Int.add_mul];simp
  show smA x y k+((x k*y k).natAbs:Int)<=_
  rw [h3]
  omega
theorem A9a(x y:Nat->Int):∀ k,((smZ x y k).natAbs:Int)<=smA x y k:=by
 intro k
 induction k with
 | zero=>exact Int.le_refl _
 | succ k ih=>
  show ((smZ x y k+x k*y k).natAbs:Int)<=smA x y k+((x k*y k).natAbs:Int)
  omega
theorem B1c{x y:Nat->Int}{m w:Nat}(hx:∀ j,j<w->ZB m (x j))(hy:∀ j,j<w->ZB m (y j))(hw:w<=10000):ZB (2*m+14) (smZ x y w):=by
 have h1:=A7m hx hy w (Nat.le_refl _)
 have h2:=A9a x y w
 have e:(2:Int)^(2*m)=((2^(2*m):Nat):Int):=by simp
 rw [e,<- Int.natCast_mul] at h1
 have h3:w*2^(2*m)<=10000*2^(2*m):=Nat.mul_le_mul_right _ hw
 have h4:2^(2*m+14)=2^(2*m)*16384:=by rw [Nat.pow_add]
 have h5:0<2^(2*m):=Nat.pow_pos (by decide)
 unfold ZB
 rw [h4]
 omega
theorem B1d{p q:Nat->Rat}{x y:Nat->Int}{d e:Int}{w:Nat}(hx:∀ j,j<w->(x j:Rat)=p j*d)(hy:∀ j,j<w->(y j:Rat)=q j*e):∀ k,k<=w->(smZ x y k:Rat)=sm k (fun j=>p j*q j)*((d*e:Int):Rat):=by
 intro k
 induction k with
 | zero=>intro _;show ((0:Int):Rat)=0*_;rw [Rat.zero_mul];rfl
 | succ k ih=>
  intro hk
  show ((smZ x y k+x k*y k:Int):Rat)=(sm k (fun j=>p j*q j)+p k*q k)*((d*e:Int):Rat)
  rw [Rat.intCast_add,ih (by omega),Rat.intCast_mul d e,Rat.intCast_mul (x k) (y k),hx k (by omega),hy k (by omega)]
  grind
theorem A0m{v u:VV}(gl:Gl h)(iv:VQr w h v f)(iu:VQr w h u f2)(hw:w<=10000)(hs:∀ i,i<w->Sz m (f i))(hs2:∀ i,i<w->Sz m (f2 i))(hm1:1<=m)(hm:2*(1+w*m+m)+14<=100000000)
 (hK:∀ q h',h.le h'->RQ h' q (sm w (fun j=>f j*f2 j))->K q.v h'):FCall Tryz.prog Ss #[v.v,u.v] h K:=by
 refine A5b _ _ _ _ _ _ _ _ _ _ _ _ _ _ ?_
 unfold A8r
 obtain ⟨en1,id1,rz1⟩:=iv
 obtain ⟨en2,id2,rz2⟩:=iu
 have hd1:=Gd (f:=f) w hs
 have hd2:=Gd (f:=f2) w hs2
 have hx:∀ j,j<w->ZB (1+w*m+m) (scl (f j) (U9 f w:Int)):=fun j hj=>(A2q (hs j hj) hd1).mono (by omega)
 have hy:∀ j,j<w->ZB (1+w*m+m) (scl (f2 j) (U9 f2 w:Int)):=fun j hj=>(A2q (hs2 j hj) hd2).mono (by omega)
 refine Cn Zn ?_
 intro bs hbs
 have Z0:SumS (h.put bs (.cells #[.slice none 0 0,.slice none 0 0] Fw)) h bs Fw 200000001 0 0:=SumS.zero hbs
 refine ⟨_,rfl,fun L hp=>∃ (k:Nat) (g:Heap),k<=w/\L=[I (k:Int)]/\h.le g/\SumS hp g bs Fw 200000001 (smA (fun j=>scl (f j) (U9 f w:Int)) (fun j=>scl (f2 j) (U9 f2 w:Int)) k) (smZ (fun j=>scl (f j) (U9 f w:Int)) (fun j=>scl (f2 j) (U9 f2 w:Int)) k),fun L _=>w-(iAt L 0).toNat,⟨0,h,by omega,rfl,B3 _,Z0⟩,?_⟩
 rintro z hp ⟨k,g,hk,eL,lg,Z⟩
 obtain rfl:z=(k:Int):=by simpa using eL
 refine B8 (fun hlt=>?_) (fun hge=>?_)
 ·have hkw:k<w:=by omega
  obtain ⟨a,x1,ea,zx,c0,c1⟩:=(rz1.mono Jj lg).zat hkw
  obtain ⟨a2,y1,ea2,zy,d0,d1⟩:=(rz2.mono Jj lg).zat hkw
  refine ⟨a,ea,by omega,by omega,_,_,_,_,C0 Z.le c0,C0 Z.le c1,a2,ea2,by omega,by omega,_,_,_,_,C0 Z.le d0,C0 Z.le d1,?_⟩
  have lx:x1.n<=100000000:=ZI.len zx (hx k hkw) (by omega)
  have ly:y1.n<=100000000:=ZI.len zy (hy k hkw) (by omega)
  have hA:=A7m hx hy (k+1) hkw
  have hbig:=A2u (m:=1+w*m+m) (k:=k+1) (by omega) (by omega)
  refine T8 Z zx zy (by omega) (by omega) (N1:=1+w*m+m) (by show smA _ _ (k+1)<_;omega) (by omega) ?_
  intro h3 g3 l3 Z3
  rw [show B4 ((k:Int)+1)=((k+1:Nat):Int) by rw [B6]<;>omega]
  exact ⟨rfl,⟨k+1,g3,by omega,rfl,A0 lg l3,Z3⟩,by simp only [Pe];omega⟩
 ·have:k=w:=by omega
  subst this
  refine Hi Z (by omega) ?_
  intro sv Av nv cv h5 l5 z5
  have l05:=A0 lg (A0 Z.le l5)
  refine ⟨_,_,_,_,rfl,l5,?_⟩
  refine Aj (m:=1+k*m+m) (id1.mono l05) (id2.mono l05) (hd1.mono (by omega)) (hd2.mono (by omega)) (by omega) ?_
  intro s6 A6 n6 c6 h6 l6 z6
  refine ⟨_,_,_,_,rfl,l6,?_⟩
  have l06:=A0 l05 l6
  have e1:∀ j,j<k->(scl (f j) (U9 f k:Int):Rat)=f j*((U9 f k:Int):Rat):=fun j hj=>A2r (Int.natCast_dvd_natCast.2 (Sh f k j hj))
  have e2:∀ j,j<k->(scl (f2 j) (U9 f2 k:Int):Rat)=f2 j*((U9 f2 k:Int):Rat):=fun j hj=>A2r (Int.natCast_dvd_natCast.2 (Sh f2 k j hj))
  have es:=B1d e1 e2 k (Nat.le_refl _)
  have hp1:=Sg f k
  have hp2:=Sg f2 k
  have hne:((U9 f k:Int)*(U9 f2 k:Int))≠0:=Int.mul_ne_zero (by omega) (by omega)
  have zb:ZB (2*(1+k*m+m)+14) (smZ (fun j=>scl (f j) (U9 f k:Int)) (fun j=>scl (f2 j) (U9 f2 k:Int)) k):=B1c hx hy (by omega)
  refine V6 (m:=2*(1+k*m+m)+14) (gl.mono l06).tz (z5.mono l6) z6 zb ((hd1.mul hd2).mono (by omega)) (by omega) ?_
  intro q h7 l7 i7
  refine ⟨_,_,_,_,_,_,_,_,rfl,l7,hK q h7 (A0 l06 l7) ?_⟩
  have:Rat.divInt (smZ (fun j=>scl (f j) (U9 f k:Int)) (fun j=>scl (f2 j) (U9 f2 k:Int)) k) ((U9 f k:Int)*(U9 f2 k:Int))=sm k (fun j=>f j*f2 j):=by
   rw [Rat.divInt_eq_div,es]
   exact Rat.mul_div_cancel (X3 hne)
  rw [this] at i7
  exact i7
end
theorem A6a:Tryz.prog.cellsOf He=1/\(Tryz.prog.info? He).isSome=true:=by constructor<;>kernel_rfl
section
variable {h:Heap} {K:Value->Heap->Prop} {A:Option Addr} {cap m rows cols:Nat} {E:Nat->Rat}
theorem Ka(gl:Gl h)(r:RowV RQr h A (rows*cols) E)(hcap:rows*cols<=cap)(hr2:rows<=10000)(hc:1<=cols)(hc2:cols<=10000)(hs:∀ i,i<rows*cols->Sz m (E i))(hm:1+cols*m+m<=6400000000)
 (hK:∀ A' c' h',h.le h'->RowV (VQr cols) h' A' rows (Ur E cols)->K (.slice A' rows c') h'):FCall Tryz.prog Fd #[.slice A (rows*cols) cap,I (cols:Int)] h K:=by
 refine Yz _ _ _ _ ?_
 unfold A0f
 have hrc:rows*cols<=100000000:=by
  have:rows*cols<=10000*10000:=Nat.mul_le_mul hr2 hc2
  omega
 refine Cn (z:=.slice none 0 0) (by kernel_rfl) ?_
 intro bp hbp
 refine ⟨_,rfl,?_⟩
 have s0:=(Sep.refl h).new hbp (.cells #[.slice none 0 0] He)
 refine s0.call (Qu hc ?_)
 intro v g0 l0 ic hp3 s3
 have bound:∀ k,k<rows->∀ j,j<cols->Sz m (E (k*cols+j)):=fun k hk j hj=>hs _ (V1 hk hj)
 refine ⟨_,rfl,Ms ic hc (by omega) hcap (fun k hp=>∃ (g1 o1:Heap) (vs:List VV) (A1:Option Addr) (c1:Nat),g0.le g1/\Sep hp g1 o1/\(∃ e,o1 bp=some (.cells #[.slice A1 k c1] e))/\OwnSl o1 Qf A1 c1 vs/\A1≠some ⟨bp,0,none⟩/\vs.length=k/\Row (VQr cols) g1 vs k (Ur E cols)) ?_ ?_ ?_ ?_⟩
 ·exact ⟨g0,_,[],none,0,B3 _,s3,⟨_,C1 _ _ _⟩,OwnSl.nil,by simp,rfl,Row.nil⟩
 ·rintro k hp ⟨g1,o1,vs,A1,c1,lg,s1,_⟩
  exact A0 lg s1.le
 ·rintro k hp4 hkr ⟨g1,o1,vs,A1,c1,lg1,s4,⟨e,hbo⟩,ow,ha,hvl,rr⟩
  have bk:=bound k hkr
  have hkc:(k+1)*cols<=rows*cols:=Nat.mul_le_mul_right _ hkr
  have hk1:(k+1)*cols=k*cols+cols:=by rw [Nat.add_mul,Nat.one_mul]
  have lh1:=A0 l0 lg1
  have row0:RowV RQr h A ((k+1)*cols) E:=by
   have:=r.cut (c:=cap) (l:=0) (k:=(k+1)*cols) (by omega) hcap
   rw [J4] at this
   exact this.congr fun i _=>by rw [Nat.zero_add]
  have row1:RowV RQr h (J5 A ((k+1)*cols) (k*cols) 4) cols (Ur E cols k):=row0.cut (c:=(k+1)*cols) (l:=k*cols) (k:=cols) (by omega) (Nat.le_refl _)
  have cp:hp4.cell? ⟨bp,0,none⟩=some (.slice A1 k c1):=s4.cell (by unfold Heap.cell?;simp only [hbo];rfl)
  refine ⟨_,_,_,rfl,_,_,_,cp,s4.call (Xx (gl.mono lh1) (row1.mono R3 lh1) (by omega) bk hm ?_)⟩
  intro w g2 l2 iw hp5 s5
  refine ⟨_,_,_,_,_,_,_,rfl,s4.le_le s5 l2,?_⟩
  subst hvl
  refine OwnSl.push (ty:=He) B3n s5 ow (y:=w) (v:=w.v) rfl (by decide) (by omega) (by omega) (K1:=fun hq=>hp5.le hq) (fun _ l=>l) ?_
  intro A3 c3 h6 g6 o6 l6 s6 ow6 kp
  have k2:=kp bp _ hbo ha
  show wpH _ (Instr.storeAt _ (.pointer (some (Addr.add ⟨bp,0,none⟩ 0))) _) _ _
  refine Tn A6a rfl rfl s6 k2.1 (by simp) ?_
  intro h7 o7 s7 eo
  exact ⟨g6,o7,vs++[w],A3,c3,A0 lg1 (A0 l2 l6),s7,⟨e,by rw [eo,C1];simp⟩,ow6.keep fun b y hb he=>by rw [eo,B5 _ _ (fun e=>k2.2 (by rw [<- e];exact hb))];exact he,k2.2,by simp,by
   have:=(Row.push (rr.mono (A0z cols) (A0 l2 l6)) (A0z cols _ _ _ _ l6 iw))
   simpa using this⟩
 ·rintro hp4 ⟨g1,o1,vs,A1,c1,lg1,s4,⟨e,hbo⟩,ow,ha,hvl,rr⟩
  have cp:hp4.cell? ⟨bp,0,none⟩=some (.slice A1 rows c1):=s4.cell (by unfold Heap.cell?;simp only [hbo];rfl)
  exact ⟨_,_,_,cp,hK A1 c1 hp4 (A0 l0 (A0 lg1 s4.le)) ⟨vs,ow.slF s4.ole,hvl,rr.mono (A0z cols) s4.le⟩⟩
end
section
variable {h:Heap} {K:Value->Heap->Prop} {A B:Option Addr} {n n2 cap cap2 m:Nat} {r c r2 c2:Int} {la lb:Nat->List UInt8} {w:QV} {q:Rat}
end
section
variable {h:Heap} {K:Value->Heap->Prop} {A B:Option Addr} {n w cap cap2 m:Nat} {f f2:Nat->Rat} {R:Nat->Nat->Rat}
theorem B1a(hs:∀ i,i<w->Sz m (f i))(hs2:∀ i,i<w->Sz m (f2 i)):∀ k,k<=w->Sz (1+k*(2*m+1)) (sm k (fun j=>f j*f2 j)):=by
 intro k
 induction k with
 | zero=>intro _;exact Sz.zero (by omega)
 | succ k ih=>
  intro hk
  have h1:=ih (by omega)
  have h2:=(hs k (by omega)).mul (hs2 k (by omega))
  have e:1+(k+1)*(2*m+1)=1+k*(2*m+1)+(m+m)+1:=by rw [Nat.add_mul];omega
  rw [e]
  exact h1.add h2
end
structure VOut where
 n:Nat
 f:Nat->List UInt8
 e:Int
def noV(e:Int):VOut:=⟨0,fun _=>[],e⟩
def ApplO(r c:Int)(n:Nat)(la:Nat->List UInt8)(n2:Nat)(lx:Nat->List UInt8)(o:VOut):Prop:=
 (¬ (Mx r c n la/\∀ i,i<n2->IsNum (lx i))/\o=noV 1)\/(Mx r c n la/\(∀ i,i<n2->IsNum (lx i))/\(n2:Int)≠c/\o=noV 4)\/(∃ rows cols,MOk r c n la rows cols/\(∀ i,i<n2->IsNum (lx i))/\(n2:Int)=c/\o=⟨rows,fun i=>P4 (sm cols (fun j=>mtx (rvs la) cols i j*rv (lx j))),0⟩)
theorem ApplO.eq{r c:Int}{n n2:Nat}{la lx:Nat->List UInt8}{o p:VOut}(x:ApplO r c n la n2 lx o)(y:ApplO r c n la n2 lx p):o=p:=by
 rcases x with ⟨h1,rfl⟩|⟨h1,h2,h3,rfl⟩|⟨r1,c1,h1,h2,h3,rfl⟩<;>rcases y with ⟨g1,rfl⟩|⟨g1,g2,g3,rfl⟩|⟨r2,c2,g1,g2,g3,rfl⟩
 ·rfl
 ·exact absurd ⟨g1,g2⟩ h1
 ·exact absurd ⟨⟨_,_,g1⟩,g2⟩ h1
 ·exact absurd ⟨h1,h2⟩ g1
 ·rfl
 ·exact absurd g3 h3
 ·exact absurd ⟨⟨_,_,h1⟩,h2⟩ g1
 ·exact absurd h3 g3
 ·obtain rfl:r2=r1:=by have:=h1.er;have:=g1.er;omega
  obtain rfl:c2=c1:=by have:=h1.ec;have:=g1.ec;omega
  rfl
section
variable {h:Heap} {K:Value->Heap->Prop} {A B:Option Addr} {n n2 cap cap2 m:Nat} {r c:Int} {la lx:Nat->List UInt8}
end
section
variable {h:Heap} {K:Value->Heap->Prop} {A B:Option Addr} {n n2 cap cap2 m:Nat} {r c:Int} {la lx:Nat->List UInt8}
theorem RowV.vat{w n:Nat}{f:Nat->Nat->Rat}(r:RowV (VQr w) h A n f){i:Nat}(hi:i<n):∃ a v,A=some a/\VQr w h v (f i)/\h.cell? (Addr.add (Addr.add a (i*3)) 0)=some (.slice v.A v.n v.c)/\h.cell? (Addr.add (Addr.add a (i*3)) 1)=some (.bool v.s)/\h.cell? (Addr.add (Addr.add a (i*3)) 2)=some (.slice v.B v.bn v.bc):=by
 obtain ⟨a,v,e,q,hc⟩:=RowV.at (by decide) r hi
 exact ⟨a,v,e,q,hc 0 _ rfl,hc 1 _ rfl,hc 2 _ rfl⟩
end
def MulO(r c:Int)(n:Nat)(la:Nat->List UInt8)(r2 c2:Int)(n2:Nat)(lb:Nat->List UInt8)(o:MOut):Prop:=
 (¬ (Mx r c n la/\Mx r2 c2 n2 lb)/\o=noM 1)\/(Mx r c n la/\Mx r2 c2 n2 lb/\c≠r2/\o=noM 4)\/(∃ rows mid cols,MOk r c n la rows mid/\MOk r2 c2 n2 lb mid cols/\o=⟨r,c2,rows*cols,fun k=>P4 (sm mid (fun j=>mtx (rvs la) mid (k/cols) j*mtx (rvs lb) cols j (k%cols))),0⟩)
theorem A11{f f':Nat->Rat}: ∀ n,(∀ i,i<n->f i=f' i)->U9 f n=U9 f' n:=by
 intro n
 induction n with
 | zero=>intro _;rfl
 | succ n ih=>
  intro e
  show Nat.lcm (U9 f n) (f n).den=Nat.lcm (U9 f' n) (f' n).den
  rw [ih fun i hi=>e i (by omega),e n (by omega)]
theorem VQr.congr{h:Heap}{w:Nat}{v:VV}{f f':Nat->Rat}(x:VQr w h v f)(e:∀ i,i<w->f i=f' i):VQr w h v f':=by
 have hd:U9 f w=U9 f' w:=A11 w e
 obtain ⟨a,b,c⟩:=x
 rw [hd] at b c
 exact ⟨a,b,c.congr fun j hj=>by rw [e j hj]⟩
section
variable {h:Heap} {K:Value->Heap->Prop} {A B:Option Addr} {n n2 cap cap2 m:Nat} {r c r2 c2:Int} {la lb:Nat->List UInt8} {E:Nat->Rat}
theorem Se{rows cols:Nat}(rv':RowV RQr h A (rows*cols) E)(hr:rows<=10000)(hc:cols<=10000)
 (hK:∀ A' c' h' g' o' xs,h.le g'->Sep h' g' o'->OwnSl o' L0 A' c' xs->xs.length=rows*cols->Row RQr g' xs (rows*cols) (fun k=>E (k%rows*cols+k/rows))->K (.slice A' (rows*cols) c') h'):FCall Tryz.prog W5 #[.slice A (rows*cols) cap,I (rows:Int),I (cols:Int)] h K:=by
 refine Py _ _ _ _ _ ?_
 unfold Oy
 have hrc:rows*cols<=10000*10000:=Nat.mul_le_mul hr hc
 refine Bw B0r (zx:=A91) rfl (by omega) (by omega) (by omega) (by omega) ?_
 intro b hb
 simp only [Int.toNat_natCast]
 refine ⟨_,_,_,rfl,fun L hp=>∃ (j:Nat) (g o:Heap) (xs:List QV) (A':Option Addr) (c':Nat),j<=cols/\L=[.slice A' (j*rows) c',I (j:Int)]/\h.le g/\Sep hp g o/\OwnSl o L0 A' c' xs/\xs.length=j*rows/\Row RQr g xs (j*rows) (fun k=>E (k%rows*cols+k/rows)),fun L _=>cols-(iAt L 1).toNat,
  ⟨0,h,Kf.put b _,[],some ⟨b,0,none⟩,rows*cols,by omega,by rw [Nat.zero_mul];rfl,B3 _,Fk hb,Jy,by simp,by rw [Nat.zero_mul];exact Row.nil⟩,?_⟩
 rintro rA rn rc z hp ⟨j,g,o,xs,A',c',hj,eL,lg,s,ow,hxl,rr⟩
 simp only [List.cons.injEq,Value.int.injEq,Value.slice.injEq,true_and,and_true] at eL
 obtain ⟨⟨rfl,rfl,rfl⟩,rfl⟩:=eL
 refine B8 (fun hlt=>?_) (fun hge=>?_)
 ·have hjc:j<cols:=by omega
  have hj1:(j+1)*rows=j*rows+rows:=by rw [Nat.add_mul,Nat.one_mul]
  have hjr:(j+1)*rows<=cols*rows:=Nat.mul_le_mul_right _ hjc
  rw [Nat.mul_comm cols rows] at hjr
  refine ⟨fun L hp=>∃ (i:Nat) (g o:Heap) (xs:List QV) (A':Option Addr) (c':Nat),i<=rows/\L=[.slice A' (j*rows+i) c',I (i:Int)]/\h.le g/\Sep hp g o/\OwnSl o L0 A' c' xs/\xs.length=j*rows+i/\Row RQr g xs (j*rows+i) (fun k=>E (k%rows*cols+k/rows)),fun L _=>rows-(iAt L 1).toNat,
   ⟨0,g,o,xs,rA,rc,by omega,rfl,lg,s,ow,hxl,rr⟩,?_⟩
  rintro qA qn qc z hp2 ⟨i,g2,o2,ys,A2,c2,hi,eL,lg2,s2,ow2,hyl,rr2⟩
  simp only [List.cons.injEq,Value.int.injEq,Value.slice.injEq,true_and,and_true] at eL
  obtain ⟨⟨rfl,rfl,rfl⟩,rfl⟩:=eL
  refine B8 (fun hlt2=>?_) (fun hge2=>?_)
  ·have hir:i<rows:=by omega
   have hidx:=V1 hir hjc
   have ew:B4 (B4 ((i:Int)*(cols:Int))+(j:Int))=((i*cols+j:Nat):Int):=by
    rw [<- Int.natCast_mul,Bk (by omega)]
    exact Bk (n:=i*cols+j) (by omega)
   rw [ew]
   obtain ⟨a,w,ea,iw,c0,c1,c2',c3⟩:=(rv'.mono R3 lg2).qat hidx
   refine ⟨a,ea,by omega,by omega,_,_,_,_,_,_,_,_,C0 s2.le c0,C0 s2.le c1,C0 s2.le c2',C0 s2.le c3,?_⟩
   refine Cq (ty:=Ab) B0r s2 ow2 hyl.symm (y:=w) rfl (by decide) (by rw [hyl];omega) (by rw [hyl];omega) ?_
   intro A3 c3 h3 g3 o3 l3 s3 ow3 _
   rw [hyl,show B4 ((i:Int)+1)=((i+1:Nat):Int) by rw [B6]<;>omega]
   refine ⟨⟨i+1,g3,o3,_,A3,c3,by omega,by rw [Nat.add_assoc],A0 lg2 l3,s3,ow3,by rw [List.length_append,hyl];rfl,?_⟩,?_⟩
   ·have rB:=Row.push (R:=RQr) (g:=g3) (xs:=ys) (f:=fun k=>E (k%rows*cols+k/rows)) (by rw [hyl];exact rr2.mono R3 l3) (w:=w) (by
     show RQ g3 w (E (ys.length%rows*cols+ys.length/rows))
     rw [hyl,Nat.add_comm (j*rows) i,Nat.add_mul_mod_self_right,Nat.mod_eq_of_lt hir,Nat.add_mul_div_right _ _ (by omega),Nat.div_eq_of_lt hir,Nat.zero_add]
     exact R3 _ _ _ _ l3 iw)
    rw [List.length_append,hyl] at rB
    exact rB
   ·show rows-((i+1:Nat):Int).toNat<rows-(i:Int).toNat
    omega
  ·have:i=rows:=by omega
   subst this
   rw [show B4 ((j:Int)+1)=((j+1:Nat):Int) by rw [B6]<;>omega,<- hj1]
   rw [<- hj1] at hyl rr2
   refine ⟨⟨j+1,g2,o2,ys,qA,qc,by omega,rfl,lg2,s2,ow2,hyl,rr2⟩,?_⟩
   show cols-((j+1:Nat):Int).toNat<cols-(j:Int).toNat
   omega
 ·have:j=cols:=by omega
  subst this
  rw [Nat.mul_comm j rows] at hxl rr ⊢
  exact hK rA rc hp g o xs lg s ow hxl rr
theorem Va{rows cols:Nat}(rv':RowV RQr h A (rows*cols) E)(hr:rows<=10000)(hc:cols<=10000)
 (hK:∀ A' c' h',h.le h'->rows*cols<=c'->RowV RQr h' A' (rows*cols) (fun k=>E (k%rows*cols+k/rows))->K (.slice A' (rows*cols) c') h'):FCall Tryz.prog W5 #[.slice A (rows*cols) cap,I (rows:Int),I (cols:Int)] h K:=
 Se rv' hr hc fun A' c' h' _ _ xs lg s ow hxl rr=>hK A' c' h' (A0 lg s.le) (by have:=ow.1;omega) ⟨xs,ow.slF s.ole,hxl,rr.mono R3 s.le⟩
theorem Do(gl:Gl h)(ra:RowV SSr h A n la)(rb:RowV SSr h B n2 lb)(hn:n<=1000000)(hn2:n2<=1000000)(hl:∀ i,i<n->(la i).length<=100000000)(hl2:∀ i,i<n2->(lb i).length<=100000000)(hs:∀ i,i<n->Sz m (rv (la i)))(hs2:∀ i,i<n2->Sz m (rv (lb i)))(hm1:1<=m)(hm:2*(1+64*(2*m+1)+2*m)+14<=40000000)
 (hK:∀ o,MulO r c n la r2 c2 n2 lb o->∀ A' cap' h',h.le h'->RowV SSr h' A' o.n o.f->K (.tuple #[Kg o.r o.c A' o.n cap',I o.e]) h'):FCall Tryz.prog Fp #[Kg r c A n cap,Kg r2 c2 B n2 cap2] h K:=by
 refine B0k _ _ _ _ _ _ _ _ _ _ ?_
 unfold B5g
 have bad:¬ (Mx r c n la/\Mx r2 c2 n2 lb)->∀ h',h.le h'->K (.tuple #[Kg 0 0 none 0 0,I 1]) h':=fun hx h' l=>hK (noM 1) (.inl ⟨hx,rfl⟩) none 0 h' l RowV.nil
 refine Au gl ra hn hl (fun rows mid mk b1 h1 own=>?_) (fun hno h1 l1=>⟨_,_,_,_,rfl,?_⟩)
 ·have l1:=own.le
  refine ⟨_,_,_,_,rfl,Au (gl.mono l1) (rb.mono X8 l1) hn2 hl2 (fun mid2 cols mk2 b2 h2 own2=>⟨_,_,_,_,rfl,Br.nt (Br.nt ?_)⟩) (fun hno h2 l2=>⟨_,_,_,_,rfl,Br.nt (Ua (bad (fun x=>hno x.2) h2 (A0 l1 l2)))⟩)⟩
  have l2:=own2.le
  have lh2:=A0 l1 l2
  refine L4 (fun e=>hK (noM 4) (.inr (.inl ⟨⟨_,_,mk⟩,⟨_,_,mk2⟩,e,rfl⟩)) none 0 h2 lh2 RowV.nil) (fun e=>?_)
  obtain rfl:mid2=mid:=by have:=mk.ec;have:=mk2.er;omega
  have good:=hK _ (.inr (.inr ⟨rows,mid2,cols,mk,mk2,rfl⟩))
  have:=mk.r1;have:=mk.r2;have:=mk.c1;have:=mk.c2;have:=mk2.c1;have:=mk2.c2
  obtain ⟨rfl,rfl,_,_,_,_,rfl,_⟩:=id mk
  obtain ⟨rfl,rfl,_,_,_,_,rfl,_⟩:=id mk2
  clear e
  have ms:=A7t hs
  have ms2:=A7t hs2
  have hkm:mid2*(2*m+1)<=64*(2*m+1):=Nat.mul_le_mul_right _ mk.c2
  have hkm2:mid2*m<=64*m:=Nat.mul_le_mul_right _ mk.c2
  have hrc:rows*cols<=64*64:=Nat.mul_le_mul (by omega) (by omega)
  refine Ka (m:=m) (gl.mono lh2) ((own.vis R3).mono R3 l2) (Nat.le_refl _) (by omega) (by omega) (by omega) hs (by omega) ?_
  intro A3 c3 h3 l3 rv3
  refine ⟨_,_,_,rfl,?_⟩
  refine Va ((own2.vis R3).mono R3 l3) (by omega) (by omega) ?_
  intro A4 c4 h4 l4 hc4 rv4
  refine ⟨_,_,_,rfl,l4,?_⟩
  have lh4:=A0 lh2 (A0 l3 l4)
  rw [Nat.mul_comm mid2 cols] at rv4 hc4 ⊢
  refine Ka (m:=m) (gl.mono lh4) rv4 hc4 (by omega) (by omega) (by omega) (fun i hi=>?_) (by omega) ?_
  ·have hi2:i/mid2<cols:=Nat.div_lt_of_lt_mul (by rw [Nat.mul_comm];exact hi)
   exact hs2 _ (V1 (Nat.mod_lt i (show 0<mid2 by omega)) hi2)
  intro A5 c5 h5 l5 rv5'
  have rv5:RowV (VQr mid2) h5 A5 cols (fun j i=>mtx (rvs lb) cols i j):=by
   obtain ⟨vs,sv,el,rr⟩:=rv5'
   refine ⟨vs,sv,el,fun j hj=>?_⟩
   obtain ⟨w,e1,hw⟩:=rr j hj
   refine ⟨w,e1,?_⟩
   have:=VQr.congr (f':=fun i=>mtx (rvs lb) cols i j) hw fun i hi=>?_
   ·exact this
   ·show rvs lb ((j*mid2+i)%mid2*cols+(j*mid2+i)/mid2)=rvs lb (i*cols+j)
    rw [Nat.add_comm (j*mid2) i,Nat.add_mul_mod_self_right,Nat.mod_eq_of_lt hi,Nat.add_mul_div_right _ _ (by omega),Nat.div_eq_of_lt hi,Nat.zero_add]
  clear rv5'
  refine ⟨_,_,_,rfl,l5,?_⟩
  have lh5:=A0 lh4 l5
  have l35:=A0 l4 l5
  have ewm:B4 ((rows:Int)*(cols:Int))=((rows*cols:Nat):Int):=by rw [<- Int.natCast_mul];exact Bk (by omega)
  rw [ewm]
  refine Bw B0r (zx:=A91) rfl (by omega) (by omega) (by omega) (by omega) ?_
  intro b hb
  simp only [Int.toNat_natCast]
  have sz:∀ i j,i<rows->j<cols->Sz (1+64*(2*m+1)) (sm mid2 (fun t=>mtx (rvs la) mid2 i t*mtx (rvs lb) cols t j)):=fun i j hi hj=>(B1a (f:=fun t=>mtx (rvs la) mid2 i t) (f2:=fun t=>mtx (rvs lb) cols t j) (fun t ht=>ms i t hi ht) (fun t ht=>ms2 t j ht hj) mid2 (Nat.le_refl _)).mono (by omega)
  refine ⟨_,_,_,rfl,fun L hp=>∃ (k:Nat) (g o:Heap) (xs:List QV) (A':Option Addr) (c':Nat),k<=rows/\L=[.slice A' (k*cols) c',I (k:Int)]/\h5.le g/\Sep hp g o/\OwnSl o L0 A' c' xs/\xs.length=k*cols/\Row RQr g xs (k*cols) (fun k=>sm mid2 (fun j=>mtx (rvs la) mid2 (k/cols) j*mtx (rvs lb) cols j (k%cols))),fun L _=>rows-(iAt L 1).toNat,
   ⟨0,h5,Kf.put b _,[],some ⟨b,0,none⟩,rows*cols,by omega,by rw [Nat.zero_mul];rfl,B3 _,Fk hb,Jy,by simp,by rw [Nat.zero_mul];exact Row.nil⟩,?_⟩
  rintro rA rn rc z hp ⟨k,g,o,xs,A',c',hk,eL,lg,s,ow,hxl,rr⟩
  simp only [List.cons.injEq,Value.int.injEq,Value.slice.injEq,true_and,and_true] at eL
  obtain ⟨⟨rfl,rfl,rfl⟩,rfl⟩:=eL
  refine B8 (fun hlt=>?_) (fun hge=>?_)
  ·have hkr:k<rows:=by omega
   have hj1:(k+1)*cols=k*cols+cols:=by rw [Nat.add_mul,Nat.one_mul]
   have hjr:(k+1)*cols<=rows*cols:=Nat.mul_le_mul_right _ hkr
   obtain ⟨a,v,ea,iv,c0,c1,c2'⟩:=(rv3.mono (A0z mid2) (A0 l35 lg)).vat hkr
   refine ⟨a,ea,by omega,by omega,_,_,_,_,_,_,_,C0 s.le c0,C0 s.le c1,C0 s.le c2',?_⟩
   refine ⟨fun L hp=>∃ (j:Nat) (g' o:Heap) (xs:List QV) (A':Option Addr) (c':Nat),j<=cols/\L=[.slice A' (k*cols+j) c',I (j:Int)]/\g.le g'/\Sep hp g' o/\OwnSl o L0 A' c' xs/\xs.length=k*cols+j/\Row RQr g' xs (k*cols+j) (fun k=>sm mid2 (fun j=>mtx (rvs la) mid2 (k/cols) j*mtx (rvs lb) cols j (k%cols))),fun L _=>cols-(iAt L 1).toNat,
    ⟨0,g,o,xs,rA,rc,by omega,rfl,B3 _,s,ow,hxl,rr⟩,?_⟩
   rintro qA qn qc z hp2 ⟨j,g2,o2,ys,A2,c2,hj,eL,lg2,s2,ow2,hyl,rr2⟩
   simp only [List.cons.injEq,Value.int.injEq,Value.slice.injEq,true_and,and_true] at eL
   obtain ⟨⟨rfl,rfl,rfl⟩,rfl⟩:=eL
   refine B8 (fun hlt2=>?_) (fun hge2=>?_)
   ·have hjc:j<cols:=by omega
    obtain ⟨a6,u,ea6,iu,d0,d1,d2⟩:=(rv5.mono (A0z mid2) (A0 lg lg2)).vat hjc
    refine ⟨a6,ea6,by omega,by omega,_,_,_,_,_,_,_,C0 s2.le d0,C0 s2.le d1,C0 s2.le d2,?_⟩
    refine s2.call (A0m (m:=m) (v:=v) (u:=u) (gl.mono (A0 lh5 (A0 lg lg2))) (A0z mid2 _ _ _ _ lg2 iv) iu (by omega) (fun t ht=>ms k t hkr ht) (fun t ht=>ms2 t j ht hjc) hm1 (by omega) ?_)
    intro q g7 l7 iq h7 s7
    refine ⟨_,_,_,_,_,_,_,_,rfl,?_⟩
    refine Cq (ty:=Ab) B0r s7 ow2 hyl.symm (y:=q) rfl (by decide) (by rw [hyl];omega) (by rw [hyl];omega) ?_
    intro A8 c8 h8 g8 o8 l8 s8 ow8 _
    rw [hyl,show B4 ((j:Int)+1)=((j+1:Nat):Int) by rw [B6]<;>omega]
    refine ⟨⟨j+1,g8,o8,_,A8,c8,by omega,by rw [Nat.add_assoc],A0 lg2 (A0 l7 l8),s8,ow8,by rw [List.length_append,hyl];rfl,?_⟩,?_⟩
    ·have rB:=Row.push (R:=RQr) (g:=g8) (xs:=ys) (f:=fun k=>sm mid2 (fun j=>mtx (rvs la) mid2 (k/cols) j*mtx (rvs lb) cols j (k%cols))) (by rw [hyl];exact rr2.mono R3 (A0 l7 l8)) (w:=q) (by
      show RQ g8 q (sm mid2 (fun t=>mtx (rvs la) mid2 (ys.length/cols) t*mtx (rvs lb) cols t (ys.length%cols)))
      rw [hyl,Nat.add_comm (k*cols) j,Nat.add_mul_mod_self_right,Nat.mod_eq_of_lt hjc,Nat.add_mul_div_right _ _ (by omega),Nat.div_eq_of_lt hjc,Nat.zero_add]
      exact R3 _ _ _ _ l8 iq)
     rw [List.length_append,hyl] at rB
     exact rB
    ·show cols-((j+1:Nat):Int).toNat<cols-(j:Int).toNat
     omega
   ·have:j=cols:=by omega
    subst this
    rw [show B4 ((k:Int)+1)=((k+1:Nat):Int) by rw [B6]<;>omega,<- hj1]
    rw [<- hj1] at hyl rr2
    refine ⟨⟨k+1,g2,o2,ys,qA,qc,by omega,rfl,A0 lg lg2,s2,ow2,hyl,rr2⟩,?_⟩
    show rows-((k+1:Nat):Int).toNat<rows-(k:Int).toNat
    omega
  ·have:k=rows:=by omega
   subst this
   have lh6:=A0 lh5 (A0 lg s.le)
   have rq:RowV RQr hp rA (k*cols) (fun t=>sm mid2 (fun j=>mtx (rvs la) mid2 (t/cols) j*mtx (rvs lb) cols j (t%cols))):=⟨xs,ow.slF s.ole,hxl,rr.mono R3 s.le⟩
   refine Nc (m:=1+64*(2*m+1)) (gl.mono lh6) rq (by omega) (fun t ht=>?_) (by omega) ?_
   ·exact sz _ _ (Nat.div_lt_of_lt_mul (by rw [Nat.mul_comm];exact ht)) (Nat.mod_lt t (show 0<cols by omega))
   intro b9 h9 own9
   exact ⟨_,_,_,_,_,rfl,good _ _ h9 (A0 lh6 own9.le) (own9.vis X8)⟩
 ·refine Au (gl.mono l1) (rb.mono X8 l1) hn2 hl2 (fun mid2 cols mk2 b2 h2 own2=>⟨_,_,_,_,rfl,Ua (bad (fun x=>hno x.1) h2 (A0 l1 own2.le))⟩) (fun _ h2 l2=>⟨_,_,_,_,rfl,Ua (bad (fun x=>hno x.1) h2 (A0 l1 l2))⟩)
end
theorem B4h{X Y:Prop}(x:X):Br true X Y:=x
section
variable {h:Heap} {K:Value->Heap->Prop} {A B:Option Addr} {n n2 cap cap2 m:Nat} {r c r2 c2:Int} {la lb:Nat->List UInt8}
def TransO(r c:Int)(n:Nat)(ls:Nat->List UInt8)(o:MOut):Prop:=
 (∃ rows cols,MOk r c n ls rows cols/\o=⟨c,r,n,fun k=>ls (k%rows*cols+k/rows),0⟩)\/(¬ Mx r c n ls/\o=noM 1)
theorem TransO.eq{o p:MOut}(x:TransO r c n la o)(y:TransO r c n la p):o=p:=by
 rcases x with ⟨r1,c1,m1,rfl⟩|⟨h1,rfl⟩<;>rcases y with ⟨r2,c2,m2,rfl⟩|⟨g1,rfl⟩
 ·obtain rfl:r2=r1:=by have:=m1.er;have:=m2.er;omega
  obtain rfl:c2=c1:=by have:=m1.ec;have:=m2.ec;omega
  rfl
 ·exact absurd ⟨_,_,m1⟩ g1
 ·exact absurd ⟨_,_,m2⟩ h1
 ·rfl
theorem Dn(gl:Gl h)(rv':RowV SSr h A n la)(hn:n<=1000000)(hl:∀ i,i<n->(la i).length<=100000000)
 (hK:∀ o,TransO r c n la o->∀ A' cap' h',h.le h'->RowV SSr h' A' o.n o.f->K (.tuple #[Kg o.r o.c A' o.n cap',I o.e]) h'):FCall Tryz.prog E5 #[Kg r c A n cap] h K:=
 Nd gl rv' hn hl (fun rows cols mk h' A' c' ow=>hK ⟨c,r,n,fun k=>la (k%rows*cols+k/rows),0⟩ (.inl ⟨rows,cols,mk,rfl⟩) A' c' h' ow.le ow.vis) (fun hno h' l=>hK (noM 1) (.inr ⟨hno,rfl⟩) none 0 h' l RowV.nil)
end
def Z2(la:Nat->List UInt8)(mid:Nat)(lb:Nat->List UInt8)(cols:Nat):Nat->List UInt8:=fun k=>P4 (sm mid (fun j=>mtx (rvs la) mid (k/cols) j*mtx (rvs lb) cols j (k%cols)))
def Jc(la:Nat->List UInt8)(rows cols:Nat):Nat->List UInt8:=fun k=>la (k%rows*cols+k/rows)
theorem Nu{i j c:Nat}(hj:j<c):(i*c+j)/c=i/\(i*c+j)%c=j:=by
 rw [Nat.add_comm,Nat.add_mul_mod_self_right,Nat.mod_eq_of_lt hj,Nat.add_mul_div_right _ _ (by omega),Nat.div_eq_of_lt hj,Nat.zero_add]
 exact ⟨rfl,rfl⟩
theorem Uv(la:Nat->List UInt8)(mid:Nat)(lb:Nat->List UInt8){cols i j:Nat}(hj:j<cols):mtx (rvs (Z2 la mid lb cols)) cols i j=sm mid (fun t=>mtx (rvs la) mid i t*mtx (rvs lb) cols t j):=by
 obtain ⟨e1,e2⟩:=Nu (i:=i) hj
 show rv (P4 (sm mid (fun t=>mtx (rvs la) mid ((i*cols+j)/cols) t*mtx (rvs lb) cols t ((i*cols+j)%cols))))=_
 rw [Ml,e1,e2]
theorem Uk(la:Nat->List UInt8){rows cols i j:Nat}(hj:j<rows):mtx (rvs (Jc la rows cols)) rows i j=mtx (rvs la) cols j i:=by
 obtain ⟨e1,e2⟩:=Nu (i:=i) hj
 show rv (la ((i*rows+j)%rows*cols+(i*rows+j)/rows))=_
 rw [e1,e2]
 rfl
theorem A69(n:Nat)(a:Rat)(f:Nat->Rat):sm n (fun i=>f i*a)=sm n f*a:=by
 rw [Rat.mul_comm,<- Qi]
 exact F1 fun i _=>Rat.mul_comm _ _
theorem A0u(la lb lc:Nat->List UInt8)(w1 w2:Nat){cols k:Nat}(hc:0<cols):Z2 (Z2 la w1 lb w2) w2 lc cols k=Z2 la w1 (Z2 lb w2 lc cols) cols k:=by
 unfold Z2
 congr 1
 have hj:=Nat.mod_lt k hc
 refine (F1 (g:=fun t=>sm w1 (fun s=>mtx (rvs la) w1 (k/cols) s*mtx (rvs lb) w2 s t*mtx (rvs lc) cols t (k%cols))) fun t ht=>?_).trans ((A2o w2 w1 _).trans (F1 fun s hs=>?_))
 ·show mtx (rvs (Z2 la w1 lb w2)) w2 (k/cols) t*_=_
  rw [Uv la w1 lb ht,A69]
 ·show _=mtx (rvs la) w1 (k/cols) s*mtx (rvs (Z2 lb w2 lc cols)) cols s (k%cols)
  rw [Uv lb w2 lc hj,<- Qi]
  exact F1 fun t _=>Rat.mul_assoc _ _ _
theorem A2t(la lb:Nat->List UInt8)(w:Nat){rows cols k:Nat}(hk:k<rows*cols):Z2 (Jc lb w cols) w (Jc la rows w) rows k=Jc (Z2 la w lb cols) rows cols k:=by
 have hr:0<rows:=Nat.pos_of_ne_zero (by rintro rfl;simp at hk)
 have hi:k/rows<cols:=Nat.div_lt_of_lt_mul hk
 have hj:=Nat.mod_lt k hr
 obtain ⟨e1,e2⟩:=Nu (i:=k%rows) hi
 unfold Jc Z2
 congr 1
 rw [e1,e2]
 refine F1 fun t ht=>?_
 show mtx (rvs (Jc lb w cols)) w (k/rows) t*mtx (rvs (Jc la rows w)) rows t (k%rows)=_
 rw [Uk lb ht,Uk la hj,Rat.mul_comm]
section
variable {r c r2 c2:Int} {n n2 m rows mid mid2 cols:Nat} {la lb:Nat->List UInt8} {o:MOut}
theorem MOk.prod(ma:MOk r c n la rows mid)(mb:MOk r2 c2 n2 lb mid cols):MOk r c2 (rows*cols) (Z2 la mid lb cols) rows cols:=⟨ma.er,mb.ec,ma.r1,ma.r2,mb.c1,mb.c2,rfl,fun _ _=>⟨_,rfl⟩⟩
theorem MOk.turn(ma:MOk r c n la rows cols):MOk c r n (Jc la rows cols) cols rows:=by
 refine ⟨ma.ec,ma.er,ma.c1,ma.c2,ma.r1,ma.r2,by rw [ma.len,Nat.mul_comm],fun i hi=>ma.num _ ?_⟩
 have e:=ma.len
 have hr:=ma.r1
 rw [e] at hi ⊢
 exact V1 (Nat.mod_lt i (by omega)) (Nat.div_lt_of_lt_mul hi)
theorem MOk.uniq{rows2 cols2:Nat}(ma:MOk r c n la rows cols)(mb:MOk r c n la rows2 cols2):rows2=rows/\cols2=cols:=by
 have:=ma.er;have:=ma.ec;have:=mb.er;have:=mb.ec
 omega
theorem MulO.ok(ma:MOk r c n la rows mid)(mb:MOk r2 c2 n2 lb mid2 cols)(ho:MulO r c n la r2 c2 n2 lb o):(mid=mid2/\c=r2/\o=⟨r,c2,rows*cols,Z2 la mid lb cols,0⟩)\/(mid≠mid2/\c≠r2/\o=noM 4):=by
 rcases ho with ⟨h1,_⟩|⟨_,_,h3,rfl⟩|⟨a1,b1,c1,h1,h2,rfl⟩
 ·exact absurd ⟨⟨_,_,ma⟩,⟨_,_,mb⟩⟩ h1
 ·exact .inr ⟨by rintro rfl;exact h3 (by rw [ma.ec,mb.er]),h3,rfl⟩
 ·obtain ⟨rfl,rfl⟩:=ma.uniq h1
  obtain ⟨rfl,rfl⟩:=mb.uniq h2
  exact .inl ⟨rfl,by rw [h1.ec,h2.er],rfl⟩
theorem TransO.ok(ma:MOk r c n la rows cols)(ho:TransO r c n la o):o=⟨c,r,n,Jc la rows cols,0⟩:=by
 rcases ho with ⟨r1,c1,m1,rfl⟩|⟨h1,_⟩
 ·obtain ⟨rfl,rfl⟩:=ma.uniq m1
  rfl
 ·exact absurd ⟨_,_,ma⟩ h1
theorem Rz(ma:MOk r c n la rows mid)(mb:MOk r2 c2 n2 lb mid cols)(hs:∀ i,i<n->Sz m (rv (la i)))(hs2:∀ i,i<n2->Sz m (rv (lb i))):∀ i,i<rows*cols->Sz (1+mid*(2*m+1)) (rv (Z2 la mid lb cols i)):=by
 intro i hi
 have hc:=mb.c1
 have hr:=ma.r1
 have e1:=ma.len
 have e2:=mb.len
 have h1:i/cols<rows:=Nat.div_lt_of_lt_mul (by rw [Nat.mul_comm];exact hi)
 have h2:=Nat.mod_lt i (show 0<cols by omega)
 show Sz _ (rv (P4 _))
 rw [Ml]
 exact B1a (fun j hj=>hs _ (by rw [e1];exact V1 h1 hj)) (fun j hj=>hs2 _ (by rw [e2];exact V1 hj h2)) mid (Nat.le_refl _)
theorem Mz(ma:MOk r c n la rows mid)(mb:MOk r2 c2 n2 lb mid cols)(hs:∀ i,i<n->Sz m (rv (la i)))(hs2:∀ i,i<n2->Sz m (rv (lb i))):∀ i,i<rows*cols->(Z2 la mid lb cols i).length<=2*(1+mid*(2*m+1))+4:=by
 intro i hi
 have:=Rz ma mb hs hs2 i hi
 refine Zj ?_
 rw [<- Ml (sm mid (fun j=>mtx (rvs la) mid (i/cols) j*mtx (rvs lb) cols j (i%cols)))]
 exact this
end
section
variable {h h1:Heap} {A B C D:Option Addr} {n n2 n3 cap cap2 cap3 capd rows mid mid2 cols w3:Nat} {r c r2 c2 r3 c3:Int} {la lb lc:Nat->List UInt8}
theorem Us(gl:Gl h)(l1:h.le h1)(s1:RowV SSr h A n la)(s2:RowV SSr h B n2 lb)(sd:RowV SSr h1 D (rows*cols) (Z2 la mid lb cols))(ma:MOk r c n la rows mid)(mb:MOk r2 c2 n2 lb mid cols)(hl:∀ i,i<n->(la i).length<=10)(hl2:∀ i,i<n2->(lb i).length<=10):
 FCall Tryz.prog E5 #[Kg r c2 D (rows*cols) capd] h1 (fun r25 hp25=>∃ (t117a01:Int) (t117a11:Int) (t117a21A:Option Addr) (t117a21n:Nat) (t117a21c:Nat) (t117b1:Int),r25= .tuple #[.agg #[I t117a01,I t117a11,.slice t117a21A t117a21n t117a21c],I t117b1]/\FCall Tryz.prog E5 #[Kg r2 c2 B n2 cap2] hp25 (fun r26 hp26=>∃ (t122a01:Int) (t122a11:Int) (t122a21A:Option Addr) (t122a21n:Nat) (t122a21c:Nat) (t122b1:Int),r26= .tuple #[.agg #[I t122a01,I t122a11,.slice t122a21A t122a21n t122a21c],I t122b1]/\FCall Tryz.prog E5 #[Kg r c A n cap] hp26 (fun r27 hp27=>∃ (t127a01:Int) (t127a11:Int) (t127a21A:Option Addr) (t127a21n:Nat) (t127a21c:Nat) (t127b1:Int),r27= .tuple #[.agg #[I t127a01,I t127a11,.slice t127a21A t127a21n t127a21c],I t127b1]/\FCall Tryz.prog Fp #[.agg #[I t122a01,I t122a11,.slice t122a21A t122a21n t122a21c],.agg #[I t127a01,I t127a11,.slice t127a21A t127a21n t127a21c]] hp27 (fun r28 hp28=>∃ (t133a01:Int) (t133a11:Int) (t133a21A:Option Addr) (t133a21n:Nat) (t133a21c:Nat) (t133b1:Int),r28= .tuple #[.agg #[I t133a01,I t133a11,.slice t133a21A t133a21n t133a21c],I t133b1]/\Br (t117b1==(0:Int)) (Br (t122b1==(0:Int)) (Br (t127b1==(0:Int)) (Br (t133b1==(0:Int)) (FCall Tryz.prog P5 #[.agg #[I t117a01,I t117a11,.slice t117a21A t117a21n t117a21c],.agg #[I t133a01,I t133a11,.slice t133a21A t133a21n t133a21c]] hp28 (fun r29 hp29=>∃ (t1531:Bool),r29= .bool t1531/\Br t1531 (FCall Tryz.prog J9 #[] hp29 (fun r30 hp30=>∃ (t1561:Bool),r30= .bool t1561/\A7e h (.bool t1561) hp30))
 (A7e h (.bool false) hp29)))
 (A7e h (.bool false) hp28))
 (A7e h (.bool false) hp28))
 (A7e h (.bool false) hp28))
 (A7e h (.bool false) hp28))))):=by
 have hs:∀ i,i<n->Sz 40 (rv (la i)):=fun i hi=>Xl (k:=10) (hl i hi) (by omega)
 have hs2:∀ i,i<n2->Sz 40 (rv (lb i)):=fun i hi=>Xl (k:=10) (hl2 i hi) (by omega)
 have:=ma.r1;have:=ma.r2;have:=ma.c1;have:=ma.c2;have:=mb.c1;have:=mb.c2
 have hrc:rows*cols<=64*64:=Nat.mul_le_mul (by omega) (by omega)
 have hn:n<=64*64:=by rw [ma.len];exact Nat.mul_le_mul (by omega) (by omega)
 have hn2:n2<=64*64:=by rw [mb.len];exact Nat.mul_le_mul (by omega) (by omega)
 have hpl:=Mz ma mb hs hs2
 have hkm:mid*(2*40+1)<=64*(2*40+1):=Nat.mul_le_mul_right _ ma.c2
 have md:=ma.prod mb
 refine Dn (gl.mono l1) sd (by omega) (fun i hi=>by have:=hpl i hi;omega) ?_
 intro o2 ho2 A2 q2 h2 l2 r2'
 obtain rfl:=ho2.ok md
 refine ⟨_,_,_,_,_,_,rfl,?_⟩
 have l02:=A0 l1 l2
 refine Dn (gl.mono l02) (s2.mono X8 l02) (by omega) (fun i hi=>by have:=hl2 i hi;omega) ?_
 intro o3 ho3 A3 q3 h3 l3 r3'
 obtain rfl:=ho3.ok mb
 refine ⟨_,_,_,_,_,_,rfl,?_⟩
 have l03:=A0 l02 l3
 refine Dn (gl.mono l03) (s1.mono X8 l03) (by omega) (fun i hi=>by have:=hl i hi;omega) ?_
 intro o4 ho4 A4 q4 h4 l4 r4'
 obtain rfl:=ho4.ok ma
 refine ⟨_,_,_,_,_,_,rfl,?_⟩
 have l04:=A0 l03 l4
 have mv:=ma.turn
 have mu:=mb.turn
 have tin:∀ {l:Nat->List UInt8} {p q k i:Nat},k=p*q->0<p->i<k->i%p*q+i/p<k:=by
  intro l p q k i e hp hi
  subst e
  exact V1 (Nat.mod_lt i hp) (Nat.div_lt_of_lt_mul hi)
 refine Do (m:=40) (gl.mono l04) (r3'.mono X8 l4) r4' (show n2<=_ by omega) (show n<=_ by omega) (fun i hi=>?_) (fun i hi=>?_) (fun i hi=>?_) (fun i hi=>?_) (by omega) (by omega) ?_
 ·have:=hl2 _ (tin (l:=lb) mb.len (by omega) hi);show (Jc lb mid cols i).length<=_;unfold Jc;omega
 ·have:=hl _ (tin (l:=la) ma.len (by omega) hi);show (Jc la rows mid i).length<=_;unfold Jc;omega
 ·exact hs2 _ (tin (l:=lb) mb.len (by omega) hi)
 ·exact hs _ (tin (l:=la) ma.len (by omega) hi)
 intro o5 ho5 A5 q5 h5 l5 r5'
 rcases ho5.ok mu mv with ⟨_,_,rfl⟩|⟨hx,_,_⟩
 ·refine ⟨_,_,_,_,_,_,rfl,?_⟩
  have l05:=A0 l04 l5
  refine D8 (fun _=>D8 (fun _=>D8 (fun _=>D8 (fun _=>?_) (fun e=>absurd rfl e)) (fun e=>absurd rfl e)) (fun e=>absurd rfl e)) (fun e=>absurd rfl e)
  refine Fo (r2'.mono X8 (A0 l3 (A0 l4 l5))) r5' (show rows*cols<=_ by omega) (fun _ _ _ _=>⟨_,rfl,B4h ?_⟩) (fun hno=>absurd ⟨rfl,rfl,Nat.mul_comm _ _,fun i hi=>(A2t la lb mid hi).symm⟩ hno)
  exact Qx (gl.mono l05) fun h'' l''=>⟨_,rfl,rfl,A0 l05 l''⟩
 ·exact absurd rfl hx
theorem law_matrixRing(gl:Gl h)(s1:RowV SSr h A n la)(s2:RowV SSr h B n2 lb)(s3:RowV SSr h C n3 lc):FCall Tryz.prog If #[Kg r c A n cap,Kg r2 c2 B n2 cap2,Kg r3 c3 C n3 cap3] h (A7e h):=by
 refine Pz _ _ _ _ _ _ _ _ _ _ _ _ _ _ _ ?_
 unfold Oz
 have aw:∀ h',h.le h'->FCall Tryz.prog J9 #[] h' (fun r hp=>∃ t,r= .bool t/\A7e h (.bool t) hp):=fun h' l=>Qx (gl.mono l) fun h'' l''=>⟨_,rfl,rfl,A0 l l''⟩
 have aw0:=aw h (B3 _)
 refine Ge s1 (by omega) (fun sm1=>⟨_,rfl,Br.nt ?_⟩) (fun _=>⟨_,rfl,Ua aw0⟩)
 refine Ge s2 (by omega) (fun sm2=>⟨_,rfl,Br.nt ?_⟩) (fun _=>⟨_,rfl,Ua aw0⟩)
 refine Ge s3 (by omega) (fun sm3=>⟨_,rfl,Br.nt ?_⟩) (fun _=>⟨_,rfl,Ua aw0⟩)
 have hn:n<=1000000:=by have:=sm1.hn;omega
 have hn2:n2<=1000000:=by have:=sm2.hn;omega
 have hn3:n3<=1000000:=by have:=sm3.hn;omega
 have ha:∀ i,i<n->(la i).length<=10:=fun i hi=>by have:=sm1.hl i hi;omega
 have hb:∀ i,i<n2->(lb i).length<=10:=fun i hi=>by have:=sm2.hl i hi;omega
 have hc:∀ i,i<n3->(lc i).length<=10:=fun i hi=>by have:=sm3.hl i hi;omega
 have hl:∀ i,i<n->(la i).length<=100000000:=fun i hi=>by have:=ha i hi;omega
 have hl2:∀ i,i<n2->(lb i).length<=100000000:=fun i hi=>by have:=hb i hi;omega
 have hl3:∀ i,i<n3->(lc i).length<=100000000:=fun i hi=>by have:=hc i hi;omega
 have hs:∀ i,i<n->Sz 40 (rv (la i)):=fun i hi=>Xl (k:=10) (ha i hi) (by omega)
 have hs2:∀ i,i<n2->Sz 40 (rv (lb i)):=fun i hi=>Xl (k:=10) (hb i hi) (by omega)
 have hs3:∀ i,i<n3->Sz 40 (rv (lc i)):=fun i hi=>Xl (k:=10) (hc i hi) (by omega)
 refine Bv gl s1 hn hl (fun x1=>⟨_,rfl,Br.nt ?_⟩) (fun _=>⟨_,rfl,Ua aw0⟩)
 refine Bv gl s2 hn2 hl2 (fun x2=>⟨_,rfl,Br.nt ?_⟩) (fun _=>⟨_,rfl,Ua aw0⟩)
 refine Bv gl s3 hn3 hl3 (fun x3=>⟨_,rfl,Br.nt ?_⟩) (fun _=>⟨_,rfl,Ua aw0⟩)
 obtain ⟨rows,mid,ma⟩:=x1
 obtain ⟨mid',w2,mb⟩:=x2
 obtain ⟨w2',cols,mc⟩:=x3
 refine Do (m:=40) gl s1 s2 hn hn2 hl hl2 hs hs2 (by omega) (by omega) ?_
 intro o1 ho1 A1 q1 h1 l1 r1
 refine ⟨_,_,_,_,_,_,rfl,?_⟩
 refine Do (m:=40) (gl.mono l1) (s2.mono X8 l1) (s3.mono X8 l1) hn2 hn3 hl2 hl3 hs2 hs3 (by omega) (by omega) ?_
 intro o2 ho2 A2 q2 h2 l2 r2'
 refine ⟨_,_,_,_,_,_,rfl,?_⟩
 have l02:=A0 l1 l2
 have first:∀ {X Y:Prop},((mid=mid'->o1=⟨r,c2,rows*w2,Z2 la mid lb w2,0⟩->Y)/\(o1=noM 4->Y))->Br (!((o1.e==(0:Int))==(c==r2))) X Y:=by
  intro X Y hy
  rcases ho1.ok ma mb with ⟨e1,e2,e3⟩|⟨e1,e2,e3⟩
  ·rw [e3,show (!(((⟨r,c2,rows*w2,Z2 la mid lb w2,0⟩:MOut).e==(0:Int))==(c==r2)))=false by simp [e2]]
   exact hy.1 e1 e3
  ·rw [e3,show (!(((noM 4).e==(0:Int))==(c==r2)))=false by simp [noM,e2]]
   exact hy.2 e3
 have second:∀ {X Y:Prop},((w2=w2'->o2=⟨r2,c3,mid'*cols,Z2 lb w2 lc cols,0⟩->Y)/\(o2=noM 4->Y))->Br (!((o2.e==(0:Int))==(c2==r3))) X Y:=by
  intro X Y hy
  rcases ho2.ok mb mc with ⟨e1,e2,e3⟩|⟨e1,e2,e3⟩
  ·rw [e3,show (!(((⟨r2,c3,mid'*cols,Z2 lb w2 lc cols,0⟩:MOut).e==(0:Int))==(c2==r3)))=false by simp [e2]]
   exact hy.1 e1 e3
  ·rw [e3,show (!(((noM 4).e==(0:Int))==(c2==r3)))=false by simp [noM,e2]]
   exact hy.2 e3
 refine first ⟨fun e1 eo1=>second ⟨fun e2 eo2=>?_,fun eo2=>?_⟩,fun eo1=>second ⟨fun e2 eo2=>?_,fun eo2=>?_⟩⟩
 ·subst e1;subst e2;subst eo1;subst eo2
  refine D8 (fun _=>D8 (fun _=>?_) (fun e=>absurd rfl e)) (fun e=>absurd rfl e)
  have:=ma.r1;have:=ma.r2;have:=ma.c1;have:=ma.c2;have:=mb.c1;have:=mb.c2;have:=mc.c1;have:=mc.c2
  have z1:=Rz ma mb hs hs2
  have z2:=Rz mb mc hs2 hs3
  have t1:=Mz ma mb hs hs2
  have t2:=Mz mb mc hs2 hs3
  have k1:mid*(2*40+1)<=64*(2*40+1):=Nat.mul_le_mul_right _ ma.c2
  have k2:w2*(2*40+1)<=64*(2*40+1):=Nat.mul_le_mul_right _ mb.c2
  have b1:rows*w2<=64*64:=Nat.mul_le_mul (by omega) (by omega)
  have b2:mid*cols<=64*64:=Nat.mul_le_mul (by omega) (by omega)
  refine Do (m:=5300) (gl.mono l02) (r1.mono X8 l2) (s3.mono X8 l02) (show rows*w2<=_ by omega) hn3 (fun i hi=>by have:=t1 i hi;show (Z2 la mid lb w2 i).length<=_;omega) hl3 (fun i hi=>(z1 i hi).mono (by omega)) (fun i hi=>(hs3 i hi).mono (by omega)) (by omega) (by omega) ?_
  intro o3 ho3 A3 q3 h3 l3 r3'
  refine ⟨_,_,_,_,_,_,rfl,?_⟩
  have l03:=A0 l02 l3
  refine Do (m:=5300) (gl.mono l03) (s1.mono X8 l03) (r2'.mono X8 l3) hn (show mid*cols<=_ by omega) hl (fun i hi=>by have:=t2 i hi;show (Z2 lb w2 lc cols i).length<=_;omega) (fun i hi=>(hs i hi).mono (by omega)) (fun i hi=>(z2 i hi).mono (by omega)) (by omega) (by omega) ?_
  intro o4 ho4 A4 q4 h4 l4 r4'
  refine ⟨_,_,_,_,_,_,rfl,?_⟩
  have l04:=A0 l03 l4
  rcases ho3.ok (ma.prod mb) mc with ⟨_,_,eo3⟩|⟨e,_,_⟩
  ·rcases ho4.ok ma (mb.prod mc) with ⟨_,_,eo4⟩|⟨e,_,_⟩
   ·subst eo3;subst eo4
    refine L4 (fun e=>absurd rfl e) (fun _=>L4 (fun e=>absurd rfl e) (fun _=>?_))
    have b3:rows*cols<=64*64:=Nat.mul_le_mul (by omega) (by omega)
    refine Fo (r3'.mono X8 l4) r4' (show rows*cols<=_ by omega) (fun _ _ _ _=>⟨_,rfl,Br.nt ?_⟩) (fun hno=>absurd ⟨rfl,rfl,rfl,fun i hi=>A0u la lb lc mid w2 (by omega)⟩ hno)
    refine L4 (fun e=>absurd rfl e) (fun _=>?_)
    exact Us gl l04 s1 s2 (r1.mono X8 (A0 l2 (A0 l3 l4))) ma mb ha hb
   ·exact absurd rfl e
  ·exact absurd rfl e
 ·subst e1;subst eo1;subst eo2
  refine D8 (fun _=>D8 (fun e=>absurd e (by decide)) (fun _=>?_)) (fun e=>absurd rfl e)
  refine L4 (fun e=>absurd rfl e) (fun _=>?_)
  exact Us gl l02 s1 s2 (r1.mono X8 l2) ma mb ha hb
 ·subst eo1
  exact D8 (fun e=>absurd e (by decide)) (fun _=>L4 (fun _=>aw _ l02) (fun e=>absurd e (by decide)))
 ·subst eo1
  exact D8 (fun e=>absurd e (by decide)) (fun _=>L4 (fun _=>aw _ l02) (fun e=>absurd e (by decide)))
end
end Go.Proofs.YthilnfgnpdeofaaGreatDoor
namespace Go.Proofs.YthilnfgnpdeofaaGreatDoor
set_option maxRecDepth 20000
open Go Go.RowKit
theorem B2c(s:ByteArray):bs s.data.toList=s:=by
 cases s;simp [bs]
theorem A31{H:Type}{enc:TypeId × Value->H}{P:Program}{W:World}{base:Nat}{sp:Nat->Bool}{held:Bool}{t e:TypeId}{fuel:Nat}{A:Option Addr}{len cap:Nat}{x:DataW H × List MemPlace}(ht:P.underlying t=some (.slice e))(he:P.underlying e=some .string)(hc:P.cellsOf e=1)
 (hf:DataW.trod enc P W base sp held fuel t [.slice A len cap]=some x):∃ ls:Nat->List UInt8,RowV SSr (memOf W) A len ls/\len<=maxLen:=by
 rcases Deep.open_strs ht he hc hf with ⟨hcs,_⟩|⟨a,l,c,m,Sx,hcs,_,hl,hm,hmm,_,hcell⟩
 ·simp at hcs
  obtain ⟨rfl,rfl,rfl⟩:=hcs
  exact ⟨fun _=>[],RowV.nil,Nat.zero_le _⟩
 ·simp at hcs
  obtain ⟨rfl,rfl,rfl⟩:=hcs
  have hlm:len<=m:=by rw [hmm];split<;>omega
  have sl:SlV (memOf W) (some a) (((List.range len).map fun i=>(Sx i).data.toList).map fun l=>Value.string (bs l)):=by
   refine .inr ⟨a,rfl,fun i v hv=>?_⟩
   rw [List.getElem?_map,List.getElem?_map] at hv
   by_cases hi:i<len
   ·rw [List.getElem?_range hi] at hv
    simp only [Option.map_some,Option.some.injEq,B2c] at hv
    rw [<- hv]
    exact Jk (hcell i (by omega)).1
   ·rw [List.getElem?_eq_none (by simpa using hi)] at hv;cases hv
  have:=Hm sl
  rw [List.length_map,List.length_range] at this
  exact ⟨_,this,by omega⟩
theorem open_mat{H:Type}{enc:TypeId × Value->H}{P:Program}{W:World}{base:Nat}{sp:Nat->Bool}{held:Bool}{r:Reach}{b0:Nat}{t e:TypeId}{f0 f1 f2:Field}{v:Value}{d:DataW H}{ps:List MemPlace}(ht:P.underlying t=some (.struct #[f0,f1,f2]))(u0:P.underlying f0.type=some (.int .i64))(u1:P.underlying f1.type=some (.int .i64))(u2:P.underlying f2.type=some (.slice e))(ue:P.underlying e=some .string)
 (hoff:f0.offset=0/\f1.offset=1/\f2.offset=2/\P.cellsOf f0.type=1/\P.cellsOf f1.type=1/\P.cellsOf f2.type=1/\P.cellsOf t=3/\P.cellsOf e=1)
 (hval:Value.okWide P W r b0 t v) (hd:DataW.Trod enc P W base sp held t v d ps):∃ (x y:Int) (A:Option Addr) (len cap:Nat) (ls:Nat->List UInt8),v= .agg #[.int .i64 x,.int .i64 y,.slice A len cap]/\RowV SSr (memOf W) A len ls/\len<=maxLen:=by
 obtain ⟨o0,o1,o2,c0,c1,c2,ct,ce⟩:=hoff
 obtain ⟨cs,rfl,hcs⟩:=WideShapes.okWide_struct ht hval
 obtain ⟨fuel,hf⟩:=hd
 obtain ⟨y0,y1,y2,n,hx,hl,g0,g1,g2⟩:=Deep.trod_struct3 ht hf
 rw [o0,c0] at g0
 rw [o1,c1] at g1
 rw [o2,c2] at g2
 obtain ⟨s0,e0,_,_⟩:=DataW.trod_int u0 g0
 obtain ⟨s1,e1,_,_⟩:=DataW.trod_int u1 g1
 rw [ct] at hcs
 have hlen:cs.toList.length=3:=by simpa using hcs
 obtain ⟨p,q,z,hm⟩:∃ p q z,cs.toList=[p,q,z]:=by
  match h:cs.toList,hlen with
  | [p,q,z],_=>exact ⟨p,q,z,rfl⟩
 simp only [Value.cells] at e0 e1 g2
 rw [hm] at e0 e1 g2
 simp at e0 e1 g2
 have hA:∃ A len cap,z= .slice A len cap:=by
  rcases Deep.open_strs u2 ue ce g2 with ⟨hcs,_⟩|⟨a,l,c,m,Sx,hcs,_⟩
  ·simp at hcs;exact ⟨_,_,_,hcs⟩
  ·simp at hcs;exact ⟨_,_,_,hcs⟩
 obtain ⟨A,len,cap,rfl⟩:=hA
 obtain ⟨ls,hr,hml⟩:=A31 u2 ue ce g2
 have:cs=#[.int .i64 s0,.int .i64 s1,.slice A len cap]:=by rw [<- Array.toArray_toList (xs:=cs),hm,e0,e1]
 exact ⟨s0,s1,A,len,cap,ls,by rw [this],hr,hml⟩
end Go.Proofs.YthilnfgnpdeofaaGreatDoor
