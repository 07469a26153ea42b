/-
  Texts of this proof, merged by a program of ours.
-/
import Derived.Test.YtajkakhfcokljaaGreatDoorG30
import Derived.Test.YtajkakhfcokljaaGreatDoorG22
import Derived.Test.YtajkakhfcokljaaGreatDoorG23
open Go.Proofs.Tryz
set_option linter.all false
open _root_.Go.Addr renaming add->B93
open Int renaming natCast_mul->B8l,toNat_natCast->B8x,ofNat_dvd_left->B96,mul_le_mul_of_nonneg_left->B9d
open List renaming getD_eq_getElem?_getD->B8h,getElem?_eq_getElem->B8i,getElem?_map->B8o,length_append->B8v,replicate->B8w,length_replicate->B91,getElem?_eq_none->B92
open Nat renaming le_refl->B8j,mul_le_mul_right->B8k,mul_comm->B8m,mod_eq_of_lt->B8q,add_mul_mod_self_right->B8t,zero_mul->B8z,add_mul_div_right->B90,one_mul->B94,le_of_dvd->B95,mod_lt->B97,zero_add->B99,pow_succ->B9a,add_comm->B9b,div_eq_of_lt->B9c,mod_mul_mod->B9e,add_mul->B9f,mul_le_mul->B9g
open Rat renaming intCast_mul->B8g,intCast_add->B8n,mul_comm->B8p,one_mul->B8r,mul_one->B8s,mul_zero->B8u,zero_mul->B8y
open _root_.Go.Value renaming string->B98
namespace Go.Proofs.YtajkakhfcokljaaGreatDoor
set_option maxRecDepth 20000
open Go
section
variable {h:Heap} {K:VP} {A B:Option Addr} {n m a b:Nat} {r c r2 c2:Int} {ls ls2:Nat->List UInt8}
theorem A0b{k:Int}(r:RowV SSr h A n ls)(hn:n<=1000000000)(hK1:(∀ i,i<n->((ls i).length:Int)<=k)->K (.bool true) h)(hK0:¬ (∀ i,i<n->((ls i).length:Int)<=k)->K (.bool false) h):FCall prog Us #[I k,.slice A n a] h K:=by
 refine A7y _ _ _ _ ?_
 unfold B1m
 refine ⟨fun L hp=>∃ i:Nat,i<=n/\L=[I (i:Int)]/\hp=h/\∀ j,j<i->((ls j).length:Int)<=k,fun L _=>n-(iAt L 0).toNat,⟨0,by omega,rfl,rfl,fun j hj=>by omega⟩,?_⟩
 rintro z hp ⟨i,hi,eL,rfl,hh⟩
 obtain rfl:=sI1 eL
 refine B7 (fun hlt=>?_) (fun hge=>?_)
 ·have hin:i<n:=by omega
  obtain ⟨x,rfl,hc⟩:=r.sat hin
  refine ⟨x,rfl,by omega,by omega,_,hc,?_⟩
  rw [O6]
  refine B7 (fun e=>hK0 fun hx=>by have:=hx i hin;omega) (fun e=>?_)
  rw [wiS i (by omega)]
  refine ⟨⟨i+1,by omega,rfl,rfl,fun j hj=>?_⟩,by simp only [Gw];omega⟩
  by_cases e2:j=i
  ·subst e2;omega
  ·exact hh j (by omega)
 ·have:i=n:=by omega
  subst this
  exact hK1 hh
theorem Ud(x:RowV SSr h A n ls)(y:RowV SSr h B m ls2)(hn:n<=1000000000)(hK1:n=m->(∀ i,i<n->ls i=ls2 i)->K (.bool true) h)(hK0:¬ (n=m/\∀ i,i<n->ls i=ls2 i)->K (.bool false) h):FCall prog Kl #[.slice A n a,.slice B m b] h K:=by
 refine A15 _ _ _ _ _ _ ?_
 unfold A2e
 refine H9 (fun e=>hK0 fun hx=>e (by omega)) (fun e=>?_)
 have e:n=m:=by omega
 subst e
 refine ⟨fun L hp=>∃ i:Nat,i<=n/\L=[I (i:Int)]/\hp=h/\∀ j,j<i->ls j=ls2 j,fun L _=>n-(iAt L 0).toNat,⟨0,by omega,rfl,rfl,fun j hj=>by omega⟩,?_⟩
 rintro z hp ⟨i,hi,eL,rfl,hh⟩
 obtain rfl:=sI1 eL
 refine B7 (fun hlt=>?_) (fun hge=>?_)
 ·have hin:i<n:=by omega
  obtain ⟨u,rfl,hc⟩:=x.sat hin
  obtain ⟨v,rfl,hd⟩:=y.sat hin
  refine ⟨u,rfl,by omega,by omega,_,hc,v,rfl,by omega,by omega,_,hd,?_⟩
  rw [Pk]
  refine R6 (B7 (fun e=>?_) (fun e=>hK0 fun hx=>e (hx.2 i hin)))
  rw [wiS i (by omega)]
  refine ⟨⟨i+1,by omega,rfl,rfl,fun j hj=>?_⟩,by simp only [Gw];omega⟩
  by_cases e2:j=i
  ·subst e2;exact e
  ·exact hh j (by omega)
 ·have:i=n:=by omega
  subst this
  exact hK1 rfl hh
theorem A10{xs:List Int}(s:SlF h A xs){i:Nat}(hi:i<xs.length):∃ x,A=some x/\h.cell? (B93 x (i*1))=some (I xs[i]):=by
 obtain ⟨x,e,hc⟩:=SlF.at (by decide) s hi
 have:=hc 0 _ rfl
 rw [Jc] at this
 exact ⟨x,e,this⟩
theorem A2z{xs ys:List Int}(x:SlF h A xs)(y:SlF h B ys)(hn:n=xs.length)(hm:m=ys.length)(hb:n<=1000000000)(hK1:xs=ys->K (.bool true) h)(hK0:xs≠ys->K (.bool false) h):FCall prog A0e #[.slice A n a,.slice B m b] h K:=by
 refine B01 _ _ _ _ _ _ ?_
 unfold B5l
 refine H9 (fun e=>hK0 fun hx=>e (by rw [hn,hm,hx])) (fun e=>?_)
 have e:n=m:=by omega
 subst e
 refine ⟨fun L hp=>∃ i:Nat,i<=n/\L=[I (i:Int)]/\hp=h/\∀ j,j<i->xs[j]? = ys[j]?,fun L _=>n-(iAt L 0).toNat,⟨0,by omega,rfl,rfl,fun j hj=>by omega⟩,?_⟩
 rintro z hp ⟨i,hi,eL,rfl,hh⟩
 obtain rfl:=sI1 eL
 refine B7 (fun hlt=>?_) (fun hge=>?_)
 ·have h1:i<xs.length:=by omega
  have h2:i<ys.length:=by omega
  obtain ⟨u,rfl,hc⟩:=A10 x h1
  obtain ⟨v,rfl,hd⟩:=A10 y h2
  refine ⟨u,rfl,by omega,by omega,_,hc,v,rfl,by omega,by omega,_,hd,?_⟩
  refine H9 (fun e=>hK0 fun hx=>e (by simp only [hx])) (fun e=>?_)
  rw [wiS i (by omega)]
  refine ⟨⟨i+1,by omega,rfl,rfl,fun j hj=>?_⟩,by simp only [Gw];omega⟩
  by_cases e2:j=i
  ·subst e2;rw [B8i h1,B8i h2,e]
  ·exact hh j (by omega)
 ·have:i=n:=by omega
  subst this
  refine hK1 (List.ext_getElem? fun j=>?_)
  by_cases hj:j<i
  ·exact hh j hj
  ·rw [B92 (by omega),B92 (by omega)]
structure Small (r c:Int) (n:Nat) (ls:Nat->List UInt8) (k d:Int):Prop where
 hr:r<=k
 hc:c<=k
 hn:(n:Int)<=k*k+2
 hl:∀ i,i<n->((ls i).length:Int)<=d
theorem Og{k d:Int}(x:RowV SSr h A n ls)(hk:0<=k/\k<=1000)(hK1:Small r c n ls k d->K (.bool true) h)(hK0:¬ Small r c n ls k d->K (.bool false) h):FCall prog T5 #[A09 r c A n a,I k,I d] h K:=by
 refine Qi _ _ _ _ _ _ _ ?_
 unfold Lv
 have hkk:k*k<=1000*1000:=Int.mul_le_mul hk.2 hk.2 hk.1 (by omega)
 have hkk0:0<=k*k:=Int.mul_nonneg hk.1 hk.1
 have e1:B5 (k*k)=k*k:=B8 (by omega) (by omega)
 have e2:B5 (k*k+2)=k*k+2:=B8 (by omega) (by omega)
 rw [e1,e2]
 refine B7 (fun h1=>B7 (fun h2=>B7 (fun h3=>?_) (fun e=>hK0 fun x=>e x.hn)) (fun e=>hK0 fun x=>e x.hc)) (fun e=>hK0 fun x=>e x.hr)
 exact A0b x (by omega) (fun hx=>⟨_,rfl,hK1 ⟨h1,h2,h3,hx⟩⟩) (fun hx=>⟨_,rfl,hK0 fun y=>hx y.hl⟩)
end
theorem A9b(ls:List (List UInt8)):(ls.flatMap fun l=>[B98 (bs l)])=ls.map fun l=>B98 (bs l):=by
 induction ls with
 | nil=>rfl
 | cons x l ih=>rw [List.flatMap_cons,ih];rfl
theorem If{h:Heap}{A:Option Addr}{ls:List (List UInt8)}(s:SlV h A (ls.map fun l=>B98 (bs l))):RowV SSr h A ls.length (fun i=>ls.getD i []):=by
 refine ⟨ls,?_,rfl,fun i hi=>⟨ls[i],B8i hi,?_⟩⟩
 ·show SlV h A (ls.flatMap fun l=>[B98 (bs l)])
  rw [A9b];exact s
 ·show ls[i]=ls.getD i []
  simp [hi]
theorem Tp(l:List Rat):rvs (fun i=>(l.map N8).getD i [])=fun i=>l.getD i 0:=by
 funext i
 show rv ((l.map N8).getD i [])=_
 by_cases hi:i<l.length
 ·rw [B8h,B8h,B8o,B8i hi]
  exact Af _
 ·rw [B8h,B8h,B8o,B92 (by omega)]
  exact A4t (by rintro ⟨q,hq⟩;exact absurd hq.symm (by
   have:=A4d q
   obtain ⟨c,r,e,_⟩:=this
   rw [e];simp))
theorem B42:N8 1=[49]:=by
 have:L6 1=[49]:=by decide +kernel
 simp [N8,Kz,this]
theorem B41:N8 2=[50]:=by
 have:L6 2=[50]:=by decide +kernel
 have h1:(2:Rat).den=1:=by decide +kernel
 have h2:(2:Rat).num=2:=by decide +kernel
 simp [N8,Kz,this,h1,h2]
theorem B7b:N8 3=[51]:=by
 have:L6 3=[51]:=by decide +kernel
 have h1:(3:Rat).den=1:=by decide +kernel
 have h2:(3:Rat).num=3:=by decide +kernel
 simp [N8,Kz,this,h1,h2]
theorem B5q:N8 4=[52]:=by
 have:L6 4=[52]:=by decide +kernel
 have h1:(4:Rat).den=1:=by decide +kernel
 have h2:(4:Rat).num=4:=by decide +kernel
 simp [N8,Kz,this,h1,h2]
theorem B65:N8 (-2)=[45,50]:=by
 have:L6 2=[50]:=by decide +kernel
 have h1:(-2:Rat).den=1:=by decide +kernel
 have h2:(-2:Rat).num= -2:=by decide +kernel
 simp [N8,Kz,this,h1,h2]
theorem aw1:(elE (fun i=>([2,4,1,2]:List Rat).getD i 0) 2 2 2).cs=[0]:=by decide +kernel
theorem aw2:∀ k,k<4->B29 (fun i=>([2,4,1,2]:List Rat).getD i 0) 2 2 k=([1,2,0,0]:List Rat).getD k 0:=by decide +kernel
theorem aw3:Ze (fun i=>([1,2,3,4]:List Rat).getD i 0) 2= -2:=by decide +kernel
theorem A3a{h:Heap}{K:VP}(gl:Gl h)(hK:∀ h',h.le h'->K (.bool true) h'):FCall prog P2 #[] h K:=by
 refine A7x ?_
 unfold B1l
 have sz:∀ (ls:List (List UInt8)),(∀ x∈ls,x.length<=1)->∀ i,i<ls.length->(ls.getD i []).length<=1:=by
  intro ls h i hi
  rw [B8h,B8i hi]
  exact h _ (List.getElem_mem hi)
 refine A0a My (ls:=[2,4,1,2].map N8) rfl (by simp) (by rw [show ([2,4,1,2]:List Rat).map N8=[[50],[52],[49],[50]] by simp [B42,B41,B5q]];rfl) ?_
 intro b1 h1 l1 s1
 have r1:=If s1
 have z1:=sz (([2,4,1,2]:List Rat).map N8) (by simp [B42,B41,B5q])
 refine ⟨_,_,_,rfl,?_⟩
 have hb:∀ rows cols,MOk 2 2 4 (fun i=>(([2,4,1,2]:List Rat).map N8).getD i []) rows cols->2*(3^cols*bnd cols 4)+1<=40000000:=by
  intro rows cols mk
  have:=mk.ec
  have:cols=2:=by omega
  subst this
  decide
 refine Xf (m:=4) (gl.mono l1) r1 (by simp) (fun i hi=>Nat.le_trans (z1 i hi) (by omega)) (fun i hi=>B27 (k:=1) (z1 i hi) (by omega)) hb ?_ ?_
 ·intro rows cols mk b2 h2 A' cap' own
  have e1:=mk.er;have e2:=mk.ec
  have:rows=2:=by omega
  subst this
  have:cols=2:=by omega
  subst this
  have lo:=own.le
  have so:=own.strs
  have io:=own.ints
  rw [Tp] at so io
  rw [aw1] at io
  refine ⟨_,_,_,_,_,_,_,_,_,rfl,?_⟩
  rw [Tp,aw1]
  refine A0a My (ls:=[1,2,3,4].map N8) rfl (by simp) (by rw [show ([1,2,3,4]:List Rat).map N8=[[49],[50],[51],[52]] by simp [B42,B41,B7b,B5q]];rfl) ?_
  intro b3 h3 l3 s3
  have r3:=If s3
  have z3:=sz (([1,2,3,4]:List Rat).map N8) (by simp [B42,B41,B7b,B5q])
  refine ⟨_,_,_,rfl,?_⟩
  have l13:=B0 l1 (B0 lo l3)
  have num3:Mx 2 2 4 (fun i=>(([1,2,3,4]:List Rat).map N8).getD i []):=by
   refine Qg.2 ⟨⟨by omega,by omega,by omega,by omega,by omega⟩,fun i hi=>?_⟩
   have hi':i<([1,2,3,4]:List Rat).length:=hi
   exact ⟨([1,2,3,4]:List Rat)[i],by rw [B8h,B8o,B8i hi'];rfl⟩
  refine Il (m:=4) (gl.mono l13) r3 (by simp) (fun i hi=>Nat.le_trans (z3 i hi) (by omega)) (fun i hi=>B27 (k:=1) (z3 i hi) (by omega)) ?_ ?_ (fun _ e=>absurd rfl e) (fun hno=>absurd num3 hno)
  ·intro rows cols mk
   have:=mk.ec
   have:cols=2:=by omega
   subst this
   decide
  ·intro q mk h4 l4
   have:q=2:=by have:=mk.er;omega
   subst this
   rw [Tp,aw3]
   refine ⟨_,_,rfl,D9 (fun _=>?_) (fun e=>absurd rfl e)⟩
   refine A0a My (ls:=[1,2,0,0].map N8) rfl (by simp) (by rw [show ([1,2,0,0]:List Rat).map N8=[[49],[50],[48],[48]] by simp [B42,B41,Wi]];rfl) ?_
   intro b5 h5 l5 s5
   have r5:=If s5
   refine ⟨_,_,_,rfl,?_⟩
   have l25:=B0 l3 (B0 l4 l5)
   refine Ud (so.mono Od l25) r5 (by simp) (fun _ _=>⟨_,rfl,?_⟩) (fun hno=>absurd ⟨rfl,fun i hi=>?_⟩ hno)
   ·refine Ax B22 rfl ?_
    intro b6 h6
    refine ⟨_,_,_,rfl,?_⟩
    have l6:=Heap.le_put (.cells #[I (0:Int)] I6) h6
    refine A2z (io.1.mono (B0 l25 l6)) (A0p I6 h5 b6 ([0]:List Int)) rfl rfl (by simp) (fun _=>⟨_,rfl,?_⟩) (fun hno=>absurd rfl hno)
    have:(ByteArray.toList (bs (N8 (-2)))==ByteArray.toList ({ data:=#[45,50] }:ByteArray))=true:=by
     rw [B65]
     exact (Pk _ _).trans (by decide)
    rw [this]
    have:=hK _ (B0 l13 (B0 l4 (B0 l5 l6)))
    exact this
   ·show N8 (B29 (fun i=>([2,4,1,2]:List Rat).getD i 0) 2 2 i)=(([1,2,0,0]:List Rat).map N8).getD i []
    have hi':i<([1,2,0,0]:List Rat).length:=hi
    rw [aw2 i hi,B8h,B8h,B8o,B8i hi']
    rfl
 ·intro hno
  exfalso
  refine hno (Qg.2 ⟨⟨by omega,by omega,by omega,by omega,by simp⟩,fun i hi=>?_⟩)
  have hi':i<([2,4,1,2]:List Rat).length:=hi
  exact ⟨([2,4,1,2]:List Rat)[i],by rw [B8h,B8o,B8i hi'];rfl⟩
section
variable {h:Heap} {K:VP} {A B:Option Addr} {n cap m:Nat} {r c:Int} {ls:Nat->List UInt8}
theorem B0j{E:Nat->Rat}{rows cols:Nat}(hs:∀ i,i<rows*cols->Sz m (E i)):∀ i j,i<rows->j<cols->Sz m (mtx E cols i j):=fun _ _ hi hj=>hs _ (Y7 hi hj)
end
section
variable {h:Heap} {K:VP} {A:Option Addr} {n cap m w:Nat} {r c:Int} {ls:Nat->List UInt8} {M:Nat->Nat->Rat}
end
section
variable {h:Heap} {K:VP} {A:Option Addr} {n cap m w:Nat} {r c:Int} {ls:Nat->List UInt8} {R:Nat->Nat->Rat}
theorem Sv{α:Type}[E:Enc α]{o:Heap}{b:Nat}{e:TypeId}{c:Nat}{zx:α}:OwnSl (o.put b (.cells ((B8w c zx).flatMap enc).toArray e)) e (some ⟨b,0,none⟩) c ([]:List α):=
 ⟨Nat.zero_le _,.inr ⟨b,_,rfl,C1 _ _ _,by rw [I3,B91],by simp⟩⟩
end
theorem Br.nt{X Y:Prop}(y:Y):Br (!true) X Y:=y
theorem Yz{X Y:Prop}(x:X):Br (!false) X Y:=x
structure MOut where
 r:Int
 c:Int
 n:Nat
 f:Nat->List UInt8
 e:Int
def noM(e:Int):MOut:=⟨0,0,0,fun _=>[],e⟩
section
variable {h:Heap} {K:VP} {A B:Option Addr} {n n2 cap cap2 m w:Nat} {r c r2 c2:Int} {la lb:Nat->List UInt8}
end
structure VV where
 A:Option Addr
 n:Nat
 c:Nat
 s:Bool
 B:Option Addr
 bn:Nat
 bc:Nat
abbrev VV.v(w:VV):Value:=.agg #[.slice w.A w.n w.c,.bool w.s,.slice w.B w.bn w.bc]
instance:Enc VV:=⟨⟨fun w=>[.slice w.A w.n w.c,.bool w.s,.slice w.B w.bn w.bc],3,fun _=>rfl,fun w v hv=>by
 simp only [List.mem_cons,List.not_mem_nil,or_false] at hv
 rcases hv with rfl|rfl|rfl<;>rfl⟩⟩
def VQr(w:Nat):Heap->VV->(Nat->Rat)->Prop:=fun h v f=>v.n=w/\ZI h v.s v.B v.bn v.bc (V8 f w:Int)/\RowV ZIr h v.A w (fun j=>scl (f j) (V8 f w:Int))
theorem A2v(w:Nat):Mon (VQr w):=fun _ _ _ _ l i=>⟨i.1,i.2.1.mono l,i.2.2.mono Ka l⟩
section
variable {h:Heap} {K:VP} {A B:Option Addr} {n cap m w:Nat} {f f2:Nat->Rat}
theorem A07(gl:Gl h)(r:RowV RQr h A n f)(hn:n<=10000)(hs:∀ i,i<n->Sz m (f i))(hm:1+n*m+m<=6400000000)
 (hK:∀ v h',h.le h'->VQr n h' v f->K v.v h'):FCall prog Em #[.slice A n cap] h K:=by
 refine Vs _ _ _ ?_
 unfold Sw
 have hd:=Gu (f:=f) n hs
 refine ⟨?_,?_⟩
 ·refine Ah tZs (zx:=(⟨false,none,0,0⟩:IV)) rfl (by omega) (by omega) (by omega) (by omega) ?_
  intro b hb
  simp only [B8x]
  have s0:=(Sep.refl h).new hb (.cells ((B8w n (⟨false,none,0,0⟩:IV)).flatMap enc).toArray Cf)
  refine ⟨_,_,_,rfl,s0.le,s0.call (Az gl r (by omega) hs hm ?_)⟩
  intro sd Bd bn bc g1 l1 id h1 s1
  refine ⟨_,_,_,_,rfl,s0.le_le s1 l1,?_⟩
  refine ⟨fun L hp=>∃ (k:Nat) (g o:Heap) (ys:List IV),k<=n/\L=[I (k:Int)]/\g1.le g/\Sep hp g o/\RowX o b ys/\ys.length=n/\Row ZIr g ys k (fun j=>scl (f j) (V8 f n:Int)),fun L _=>n-(iAt L 0).toNat,⟨0,g1,_,B8w n ⟨false,none,0,0⟩,by omega,rfl,B4 _,s1,RowX.mk,B91,Row.nil⟩,?_⟩
  rintro z hp ⟨k,g,o,ys,hk,eL,lg,s,rx,hy,rr⟩
  obtain rfl:=sI1 eL
  refine B7 (fun hlt=>?_) (fun hge=>?_)
  ·have hkn:k<n:=by omega
   obtain ⟨a,w,ea,iw,c0,c1,c2,c3⟩:=(r.mono R4 (B0 l1 lg)).qat hkn
   refine ⟨a,ea,by omega,by omega,_,_,_,_,_,_,_,_,C0 s.le c0,C0 s.le c1,C0 s.le c2,C0 s.le c3,?_⟩
   refine s.call (Gn (m:=1+n*m+m) iw (id.mono lg) ((hs k hkn).mono (by omega)) (hd.mono (by omega)) hm ?_)
   intro s2 A2 n2 c2 g2 l2 i2 h2 sp2
   refine ⟨_,_,_,_,rfl,s.le_le sp2 l2,_,rfl,by omega,by omega,?_⟩
   refine Gb Tj (y:=(⟨s2,A2,n2,c2⟩:IV)) rfl sp2 rx (i:=k) (by omega) ?_
   intro h7 o7 x7 eo s7 rx7
   rw [wiS k (by omega)]
   exact ⟨⟨k+1,g2,o7,_,by omega,rfl,B0 lg l2,s7,rx7,by rw [List.length_set];exact hy,(rr.mono Ka l2).set (by omega) i2⟩,by simp only [Gw];omega⟩
  ·have:k=n:=by omega
   subst this
   exact hK ⟨some ⟨b,0,none⟩,k,k,sd,Bd,bn,bc⟩ hp (B0 l1 (B0 lg s.le)) ⟨rfl,id.mono (B0 lg s.le),ys,rx.rowB.slF s.ole,hy,rr.mono Ka s.le⟩
 ·refine Az gl r (by omega) hs hm ?_
  intro sd Bd bn bc g1 l1 id
  refine ⟨_,_,_,_,rfl,l1,Ah tZs (zx:=(⟨false,none,0,0⟩:IV)) rfl (by omega) (by omega) (by omega) (by omega) ?_⟩
  intro b hb
  simp only [B8x]
  have s1:=(Sep.refl g1).new hb (.cells ((B8w n (⟨false,none,0,0⟩:IV)).flatMap enc).toArray Cf)
  refine ⟨_,_,_,rfl,s1.le,?_⟩
  refine ⟨fun L hp=>∃ (k:Nat) (g o:Heap) (ys:List IV),k<=n/\L=[I (k:Int)]/\g1.le g/\Sep hp g o/\RowX o b ys/\ys.length=n/\Row ZIr g ys k (fun j=>scl (f j) (V8 f n:Int)),fun L _=>n-(iAt L 0).toNat,⟨0,g1,_,B8w n ⟨false,none,0,0⟩,by omega,rfl,B4 _,s1,RowX.mk,B91,Row.nil⟩,?_⟩
  rintro z hp ⟨k,g,o,ys,hk,eL,lg,s,rx,hy,rr⟩
  obtain rfl:=sI1 eL
  refine B7 (fun hlt=>?_) (fun hge=>?_)
  ·have hkn:k<n:=by omega
   obtain ⟨a,w,ea,iw,c0,c1,c2,c3⟩:=(r.mono R4 (B0 l1 lg)).qat hkn
   refine ⟨a,ea,by omega,by omega,_,_,_,_,_,_,_,_,C0 s.le c0,C0 s.le c1,C0 s.le c2,C0 s.le c3,?_⟩
   refine s.call (Gn (m:=1+n*m+m) iw (id.mono lg) ((hs k hkn).mono (by omega)) (hd.mono (by omega)) hm ?_)
   intro s2 A2 n2 c2 g2 l2 i2 h2 sp2
   refine ⟨_,_,_,_,rfl,s.le_le sp2 l2,_,rfl,by omega,by omega,?_⟩
   refine Gb Tj (y:=(⟨s2,A2,n2,c2⟩:IV)) rfl sp2 rx (i:=k) (by omega) ?_
   intro h7 o7 x7 eo s7 rx7
   rw [wiS k (by omega)]
   exact ⟨⟨k+1,g2,o7,_,by omega,rfl,B0 lg l2,s7,rx7,by rw [List.length_set];exact hy,(rr.mono Ka l2).set (by omega) i2⟩,by simp only [Gw];omega⟩
  ·have:k=n:=by omega
   subst this
   exact hK ⟨some ⟨b,0,none⟩,k,k,sd,Bd,bn,bc⟩ hp (B0 l1 (B0 lg s.le)) ⟨rfl,id.mono (B0 lg s.le),ys,rx.rowB.slF s.ole,hy,rr.mono Ka s.le⟩
def smZ(x y:Nat->Int):Nat->Int
 | 0=>0
 | k+1=>smZ x y k+x k*y k
def smA(x y:Nat->Int):Nat->Int
 | 0=>0
 | k+1=>smA x y k+(x k*y k).natAbs
theorem B08{x y:Nat->Int}{m w:Nat}(hx:∀ j,j<w->ZB m (x j))(hy:∀ j,j<w->ZB m (y j)):∀ k,k<=w->smA x y k<=k*2^(2*m):=by
 intro k
 induction k with
 | zero=>intro _;simp [smA]
 | succ k ih=>
  intro hk
  have h1:=ih (by omega)
  have h2:=A03 (hx k (by omega)) (hy k (by omega))
  have h3:((k+1:Nat):Int)*2^(2*m)=(k:Int)*2^(2*m)+2^(2*m):=by rw [Int.natCast_add,Int.add_mul];simp
  show smA x y k+((x k*y k).natAbs:Int)<=_
  rw [h3]
  omega
theorem B24(x y:Nat->Int):∀ k,((smZ x y k).natAbs:Int)<=smA x y k:=by
 intro k
 induction k with
 | zero=>exact Int.le_refl _
 | succ k ih=>
  show ((smZ x y k+x k*y k).natAbs:Int)<=smA x y k+((x k*y k).natAbs:Int)
  omega
theorem B47{x y:Nat->Int}{m w:Nat}(hx:∀ j,j<w->ZB m (x j))(hy:∀ j,j<w->ZB m (y j))(hw:w<=10000):ZB (2*m+14) (smZ x y w):=by
 have h1:=B08 hx hy w (B8j _)
 have h2:=B24 x y w
 have e:(2:Int)^(2*m)=((2^(2*m):Nat):Int):=by simp
 rw [e,<- B8l] at h1
 have h3:w*2^(2*m)<=10000*2^(2*m):=B8k _ hw
 have h4:2^(2*m+14)=2^(2*m)*16384:=by rw [Nat.pow_add]
 have h5:0<2^(2*m):=Nat.pow_pos (by decide)
 unfold ZB
 rw [h4]
 omega
theorem B48{p q:Nat->Rat}{x y:Nat->Int}{d e:Int}{w:Nat}(hx:∀ j,j<w->(x j:Rat)=p j*d)(hy:∀ j,j<w->(y j:Rat)=q j*e):∀ k,k<=w->(smZ x y k:Rat)=sm k (fun j=>p j*q j)*((d*e:Int):Rat):=by
 intro k
 induction k with
 | zero=>intro _;show ((0:Int):Rat)=0*_;rw [B8y];rfl
 | succ k ih=>
  intro hk
  show ((smZ x y k+x k*y k:Int):Rat)=(sm k (fun j=>p j*q j)+p k*q k)*((d*e:Int):Rat)
  rw [B8n,ih (by omega),B8g d e,B8g (x k) (y k),hx k (by omega),hy k (by omega)]
  grind
theorem A2k{v u:VV}(gl:Gl h)(iv:VQr w h v f)(iu:VQr w h u f2)(hw:w<=10000)(hs:∀ i,i<w->Sz m (f i))(hs2:∀ i,i<w->Sz m (f2 i))(hm1:1<=m)(hm:2*(1+w*m+m)+14<=100000000)
 (hK:∀ q h',h.le h'->RQ h' q (sm w (fun j=>f j*f2 j))->K q.v h'):FCall prog Ur #[v.v,u.v] h K:=by
 refine A7t _ _ _ _ _ _ _ _ _ _ _ _ _ _ ?_
 unfold B1j
 obtain ⟨en1,id1,rz1⟩:=iv
 obtain ⟨en2,id2,rz2⟩:=iu
 have hd1:=Gu (f:=f) w hs
 have hd2:=Gu (f:=f2) w hs2
 have hx:∀ j,j<w->ZB (1+w*m+m) (scl (f j) (V8 f w:Int)):=fun j hj=>(A4q (hs j hj) hd1).mono (by omega)
 have hy:∀ j,j<w->ZB (1+w*m+m) (scl (f2 j) (V8 f2 w:Int)):=fun j hj=>(A4q (hs2 j hj) hd2).mono (by omega)
 refine An A1e ?_
 intro bs hbs
 have Z0:SumS (h.put bs (.cells #[.slice none 0 0,.slice none 0 0] Gk)) h bs Gk 200000001 0 0:=SumS.zero hbs
 refine ⟨_,rfl,fun L hp=>∃ (k:Nat) (g:Heap),k<=w/\L=[I (k:Int)]/\h.le g/\SumS hp g bs Gk 200000001 (smA (fun j=>scl (f j) (V8 f w:Int)) (fun j=>scl (f2 j) (V8 f2 w:Int)) k) (smZ (fun j=>scl (f j) (V8 f w:Int)) (fun j=>scl (f2 j) (V8 f2 w:Int)) k),fun L _=>w-(iAt L 0).toNat,⟨0,h,by omega,rfl,B4 _,Z0⟩,?_⟩
 rintro z hp ⟨k,g,hk,eL,lg,Z⟩
 obtain rfl:=sI1 eL
 refine B7 (fun hlt=>?_) (fun hge=>?_)
 ·have hkw:k<w:=by omega
  obtain ⟨a,x1,ea,zx,c0,c1⟩:=(rz1.mono Ka lg).zat hkw
  obtain ⟨a2,y1,ea2,zy,d0,d1⟩:=(rz2.mono Ka lg).zat hkw
  refine ⟨a,ea,by omega,by omega,_,_,_,_,C0 Z.le c0,C0 Z.le c1,a2,ea2,by omega,by omega,_,_,_,_,C0 Z.le d0,C0 Z.le d1,?_⟩
  have lx:x1.n<=100000000:=ZI.len zx (hx k hkw) (by omega)
  have ly:y1.n<=100000000:=ZI.len zy (hy k hkw) (by omega)
  have hA:=B08 hx hy (k+1) hkw
  have hbig:=A51 (m:=1+w*m+m) (k:=k+1) (by omega) (by omega)
  refine U6 Z zx zy (by omega) (by omega) (N1:=1+w*m+m) (by show smA _ _ (k+1)<_;omega) (by omega) ?_
  intro h3 g3 l3 Z3
  rw [wiS k (by omega)]
  exact ⟨rfl,⟨k+1,g3,by omega,rfl,B0 lg l3,Z3⟩,by simp only [Gw];omega⟩
 ·have:k=w:=by omega
  subst this
  refine Ia Z (by omega) ?_
  intro sv Av nv cv h5 l5 z5
  have l05:=B0 lg (B0 Z.le l5)
  refine ⟨_,_,_,_,rfl,l5,?_⟩
  refine Be (m:=1+k*m+m) (id1.mono l05) (id2.mono l05) (hd1.mono (by omega)) (hd2.mono (by omega)) (by omega) ?_
  intro s6 A6 n6 c6 h6 l6 z6
  refine ⟨_,_,_,_,rfl,l6,?_⟩
  have l06:=B0 l05 l6
  have e1:∀ j,j<k->(scl (f j) (V8 f k:Int):Rat)=f j*((V8 f k:Int):Rat):=fun j hj=>A4r (Int.natCast_dvd_natCast.2 (Uc f k j hj))
  have e2:∀ j,j<k->(scl (f2 j) (V8 f2 k:Int):Rat)=f2 j*((V8 f2 k:Int):Rat):=fun j hj=>A4r (Int.natCast_dvd_natCast.2 (Uc f2 k j hj))
  have es:=B48 e1 e2 k (B8j _)
  have hp1:=Ub f k
  have hp2:=Ub f2 k
  have hne:((V8 f k:Int)*(V8 f2 k:Int))≠0:=Int.mul_ne_zero (by omega) (by omega)
  have zb:ZB (2*(1+k*m+m)+14) (smZ (fun j=>scl (f j) (V8 f k:Int)) (fun j=>scl (f2 j) (V8 f2 k:Int)) k):=B47 hx hy (by omega)
  refine W7 (m:=2*(1+k*m+m)+14) (gl.mono l06).tz (z5.mono l6) z6 zb ((hd1.mul hd2).mono (by omega)) (by omega) ?_
  intro q h7 l7 i7
  refine ⟨_,_,_,_,_,_,_,_,rfl,l7,hK q h7 (B0 l06 l7) ?_⟩
  have:Rat.divInt (smZ (fun j=>scl (f j) (V8 f k:Int)) (fun j=>scl (f2 j) (V8 f2 k:Int)) k) ((V8 f k:Int)*(V8 f2 k:Int))=sm k (fun j=>f j*f2 j):=by
   rw [Rat.divInt_eq_div,es]
   exact Rat.mul_div_cancel (S2 hne)
  rw [this] at i7
  exact i7
end
theorem A8r:prog.cellsOf Hv=1/\(prog.info? Hv).isSome=true:=by constructor<;>kernel_rfl
section
variable {h:Heap} {K:VP} {A:Option Addr} {cap m rows cols:Nat} {E:Nat->Rat}
theorem Kw(gl:Gl h)(r:RowV RQr h A (rows*cols) E)(hcap:rows*cols<=cap)(hr2:rows<=10000)(hc:1<=cols)(hc2:cols<=10000)(hs:∀ i,i<rows*cols->Sz m (E i))(hm:1+cols*m+m<=6400000000)
 (hK:∀ A' c' h',h.le h'->RowV (VQr cols) h' A' rows (Ww E cols)->K (.slice A' rows c') h'):FCall prog Fx #[.slice A (rows*cols) cap,I (cols:Int)] h K:=by
 refine A14 _ _ _ _ ?_
 unfold A2d
 have hrc:rows*cols<=100000000:=by
  have:rows*cols<=10000*10000:=B9g hr2 hc2
  omega
 refine An (z:=.slice none 0 0) (by kernel_rfl) ?_
 intro bp hbp
 refine ⟨_,rfl,?_⟩
 have s0:=(Sep.refl h).new hbp (.cells #[.slice none 0 0] Hv)
 refine s0.call (Sg hc ?_)
 intro v g0 l0 ic hp3 s3
 have bound:∀ k,k<rows->∀ j,j<cols->Sz m (E (k*cols+j)):=fun k hk j hj=>hs _ (Y7 hk hj)
 refine ⟨_,rfl,Nw ic hc (by omega) hcap (fun k hp=>∃ (g1 o1:Heap) (vs:List VV) (A1:Option Addr) (c1:Nat),g0.le g1/\Sep hp g1 o1/\(∃ e,o1 bp=some (.cells #[.slice A1 k c1] e))/\OwnSl o1 Rn A1 c1 vs/\A1≠some ⟨bp,0,none⟩/\vs.length=k/\Row (VQr cols) g1 vs k (Ww E cols)) ?_ ?_ ?_ ?_⟩
 ·exact ⟨g0,_,[],none,0,B4 _,s3,⟨_,C1 _ _ _⟩,OwnSl.nil,by simp,rfl,Row.nil⟩
 ·rintro k hp ⟨g1,o1,vs,A1,c1,lg,s1,_⟩
  exact B0 lg s1.le
 ·rintro k hp4 hkr ⟨g1,o1,vs,A1,c1,lg1,s4,⟨e,hbo⟩,ow,ha,hvl,rr⟩
  have bk:=bound k hkr
  have hkc:(k+1)*cols<=rows*cols:=B8k _ hkr
  have hk1:(k+1)*cols=k*cols+cols:=by rw [B9f,B94]
  have lh1:=B0 l0 lg1
  have row0:RowV RQr h A ((k+1)*cols) E:=by
   have:=r.cut (c:=cap) (l:=0) (k:=(k+1)*cols) (by omega) hcap
   rw [J6] at this
   exact this.congr fun i _=>by rw [B99]
  have row1:RowV RQr h (J1 A ((k+1)*cols) (k*cols) 4) cols (Ww E cols k):=row0.cut (c:=(k+1)*cols) (l:=k*cols) (k:=cols) (by omega) (B8j _)
  have cp:hp4.cell? ⟨bp,0,none⟩=some (.slice A1 k c1):=s4.cell (by unfold Heap.cell?;simp only [hbo];rfl)
  refine ⟨_,_,_,rfl,_,_,_,cp,s4.call (A07 (gl.mono lh1) (row1.mono R4 lh1) (by omega) bk hm ?_)⟩
  intro w g2 l2 iw hp5 s5
  refine ⟨_,_,_,_,_,_,_,rfl,s4.le_le s5 l2,?_⟩
  subst hvl
  refine OwnSl.push (ty:=Hv) B68 s5 ow (y:=w) (v:=w.v) rfl (by decide) (by omega) (by omega) (K1:=fun hq=>hp5.le hq) (fun _ l=>l) ?_
  intro A3 c3 h6 g6 o6 l6 s6 ow6 kp
  have k2:=kp bp _ hbo ha
  show wpH _ (Instr.storeAt _ (.pointer (some (B93 ⟨bp,0,none⟩ 0))) _) _ _
  refine Vj A8r rfl rfl s6 k2.1 (by simp) ?_
  intro h7 o7 s7 eo
  exact ⟨g6,o7,vs++[w],A3,c3,B0 lg1 (B0 l2 l6),s7,⟨e,by rw [eo,C1];simp⟩,ow6.keep fun b y hb he=>by rw [eo,B6 _ _ (fun e=>k2.2 (by rw [<- e];exact hb))];exact he,k2.2,by simp,by
   have:=(Row.push (rr.mono (A2v cols) (B0 l2 l6)) (A2v cols _ _ _ _ l6 iw))
   simpa using this⟩
 ·rintro hp4 ⟨g1,o1,vs,A1,c1,lg1,s4,⟨e,hbo⟩,ow,ha,hvl,rr⟩
  have cp:hp4.cell? ⟨bp,0,none⟩=some (.slice A1 rows c1):=s4.cell (by unfold Heap.cell?;simp only [hbo];rfl)
  exact ⟨_,_,_,cp,hK A1 c1 hp4 (B0 l0 (B0 lg1 s4.le)) ⟨vs,ow.slF s4.ole,hvl,rr.mono (A2v cols) s4.le⟩⟩
end
section
variable {h:Heap} {K:VP} {A B:Option Addr} {n n2 cap cap2 m:Nat} {r c r2 c2:Int} {la lb:Nat->List UInt8} {w:QV} {q:Rat}
end
section
variable {h:Heap} {K:VP} {A B:Option Addr} {n w cap cap2 m:Nat} {f f2:Nat->Rat} {R:Nat->Nat->Rat}
theorem B45(hs:∀ i,i<w->Sz m (f i))(hs2:∀ i,i<w->Sz m (f2 i)):∀ k,k<=w->Sz (1+k*(2*m+1)) (sm k (fun j=>f j*f2 j)):=by
 intro k
 induction k with
 | zero=>intro _;exact Sz.zero (by omega)
 | succ k ih=>
  intro hk
  have h1:=ih (by omega)
  have h2:=(hs k (by omega)).mul (hs2 k (by omega))
  have e:1+(k+1)*(2*m+1)=1+k*(2*m+1)+(m+m)+1:=by rw [B9f];omega
  rw [e]
  exact h1.add h2
end
structure VOut where
 n:Nat
 f:Nat->List UInt8
 e:Int
section
variable {h:Heap} {K:VP} {A B:Option Addr} {n n2 cap cap2 m:Nat} {r c:Int} {la lx:Nat->List UInt8}
end
section
variable {h:Heap} {K:VP} {A B:Option Addr} {n n2 cap cap2 m:Nat} {r c:Int} {la lx:Nat->List UInt8}
theorem RowV.vat{w n:Nat}{f:Nat->Nat->Rat}(r:RowV (VQr w) h A n f){i:Nat}(hi:i<n):∃ a v,A=some a/\VQr w h v (f i)/\h.cell? (B93 (B93 a (i*3)) 0)=some (.slice v.A v.n v.c)/\h.cell? (B93 (B93 a (i*3)) 1)=some (.bool v.s)/\h.cell? (B93 (B93 a (i*3)) 2)=some (.slice v.B v.bn v.bc):=by
 obtain ⟨a,v,e,q,hc⟩:=RowV.at (by decide) r hi
 exact ⟨a,v,e,q,hc 0 _ rfl,hc 1 _ rfl,hc 2 _ rfl⟩
end
def MulO(r c:Int)(n:Nat)(la:Nat->List UInt8)(r2 c2:Int)(n2:Nat)(lb:Nat->List UInt8)(o:MOut):Prop:=
 (¬ (Mx r c n la/\Mx r2 c2 n2 lb)/\o=noM 1)\/(Mx r c n la/\Mx r2 c2 n2 lb/\c≠r2/\o=noM 4)\/(∃ rows mid cols,MOk r c n la rows mid/\MOk r2 c2 n2 lb mid cols/\o=⟨r,c2,rows*cols,fun k=>N8 (sm mid (fun j=>mtx (rvs la) mid (k/cols) j*mtx (rvs lb) cols j (k%cols))),0⟩)
theorem A2y{f f':Nat->Rat}: ∀ n,(∀ i,i<n->f i=f' i)->V8 f n=V8 f' n:=by
 intro n
 induction n with
 | zero=>intro _;rfl
 | succ n ih=>
  intro e
  show Nat.lcm (V8 f n) (f n).den=Nat.lcm (V8 f' n) (f' n).den
  rw [ih fun i hi=>e i (by omega),e n (by omega)]
theorem VQr.congr{h:Heap}{w:Nat}{v:VV}{f f':Nat->Rat}(x:VQr w h v f)(e:∀ i,i<w->f i=f' i):VQr w h v f':=by
 have hd:V8 f w=V8 f' w:=A2y w e
 obtain ⟨a,b,c⟩:=x
 rw [hd] at b c
 exact ⟨a,b,c.congr fun j hj=>by rw [e j hj]⟩
section
variable {h:Heap} {K:VP} {A B:Option Addr} {n n2 cap cap2 m:Nat} {r c r2 c2:Int} {la lb:Nat->List UInt8} {E:Nat->Rat}
theorem Tz{rows cols:Nat}(rv':RowV RQr h A (rows*cols) E)(hr:rows<=10000)(hc:cols<=10000)
 (hK:∀ A' c' h' g' o' xs,h.le g'->Sep h' g' o'->OwnSl o' K9 A' c' xs->xs.length=rows*cols->Row RQr g' xs (rows*cols) (fun k=>E (k%rows*cols+k/rows))->K (.slice A' (rows*cols) c') h'):FCall prog X5 #[.slice A (rows*cols) cap,I (rows:Int),I (cols:Int)] h K:=by
 refine Rf _ _ _ _ _ ?_
 unfold Qh
 have hrc:rows*cols<=10000*10000:=B9g hr hc
 refine Ah B3q (zx:=B1t) rfl (by omega) (by omega) (by omega) (by omega) ?_
 intro b hb
 simp only [B8x]
 refine ⟨_,_,_,rfl,fun L hp=>∃ (j:Nat) (g o:Heap) (xs:List QV) (A':Option Addr) (c':Nat),j<=cols/\L=[.slice A' (j*rows) c',I (j:Int)]/\h.le g/\Sep hp g o/\OwnSl o K9 A' c' xs/\xs.length=j*rows/\Row RQr g xs (j*rows) (fun k=>E (k%rows*cols+k/rows)),fun L _=>cols-(iAt L 1).toNat,
  ⟨0,h,Ii.put b _,[],some ⟨b,0,none⟩,rows*cols,by omega,by rw [B8z];rfl,B4 _,Kt hb,Sv,by simp,by rw [B8z];exact Row.nil⟩,?_⟩
 rintro rA rn rc z hp ⟨j,g,o,xs,A',c',hj,eL,lg,s,ow,hxl,rr⟩
 obtain ⟨⟨rfl,rfl,rfl⟩,rfl⟩:=sI2 eL
 refine B7 (fun hlt=>?_) (fun hge=>?_)
 ·have hjc:j<cols:=by omega
  have hj1:(j+1)*rows=j*rows+rows:=by rw [B9f,B94]
  have hjr:(j+1)*rows<=cols*rows:=B8k _ hjc
  rw [B8m cols rows] at hjr
  refine ⟨fun L hp=>∃ (i:Nat) (g o:Heap) (xs:List QV) (A':Option Addr) (c':Nat),i<=rows/\L=[.slice A' (j*rows+i) c',I (i:Int)]/\h.le g/\Sep hp g o/\OwnSl o K9 A' c' xs/\xs.length=j*rows+i/\Row RQr g xs (j*rows+i) (fun k=>E (k%rows*cols+k/rows)),fun L _=>rows-(iAt L 1).toNat,
   ⟨0,g,o,xs,rA,rc,by omega,rfl,lg,s,ow,hxl,rr⟩,?_⟩
  rintro qA qn qc z hp2 ⟨i,g2,o2,ys,A2,c2,hi,eL,lg2,s2,ow2,hyl,rr2⟩
  obtain ⟨⟨rfl,rfl,rfl⟩,rfl⟩:=sI2 eL
  refine B7 (fun hlt2=>?_) (fun hge2=>?_)
  ·have hir:i<rows:=by omega
   have hidx:=Y7 hir hjc
   have ew:B5 (B5 ((i:Int)*(cols:Int))+(j:Int))=((i*cols+j:Nat):Int):=by
    rw [<- B8l,Cc (by omega)]
    exact Cc (n:=i*cols+j) (by omega)
   rw [ew]
   obtain ⟨a,w,ea,iw,c0,c1,c2',c3⟩:=(rv'.mono R4 lg2).qat hidx
   refine ⟨a,ea,by omega,by omega,_,_,_,_,_,_,_,_,C0 s2.le c0,C0 s2.le c1,C0 s2.le c2',C0 s2.le c3,?_⟩
   refine Aa (ty:=Y4) B3q s2 ow2 hyl.symm (y:=w) rfl (by decide) (by rw [hyl];omega) (by rw [hyl];omega) ?_
   intro A3 c3 h3 g3 o3 l3 s3 ow3 _
   rw [hyl,wiS i (by omega)]
   refine ⟨⟨i+1,g3,o3,_,A3,c3,by omega,by rw [Nat.add_assoc],B0 lg2 l3,s3,ow3,by rw [B8v,hyl];rfl,?_⟩,?_⟩
   ·have rB:=Row.push (R:=RQr) (g:=g3) (xs:=ys) (f:=fun k=>E (k%rows*cols+k/rows)) (by rw [hyl];exact rr2.mono R4 l3) (w:=w) (by
     show RQ g3 w (E (ys.length%rows*cols+ys.length/rows))
     rw [hyl,B9b (j*rows) i,B8t,B8q hir,B90 _ _ (by omega),B9c hir,B99]
     exact R4 _ _ _ _ l3 iw)
    rw [B8v,hyl] at rB
    exact rB
   ·show rows-((i+1:Nat):Int).toNat<rows-(i:Int).toNat
    omega
  ·have:i=rows:=by omega
   subst this
   rw [wiS j (by omega),<- hj1]
   rw [<- hj1] at hyl rr2
   refine ⟨⟨j+1,g2,o2,ys,qA,qc,by omega,rfl,lg2,s2,ow2,hyl,rr2⟩,?_⟩
   show cols-((j+1:Nat):Int).toNat<cols-(j:Int).toNat
   omega
 ·have:j=cols:=by omega
  subst this
  rw [B8m j rows] at hxl rr ⊢
  exact hK rA rc hp g o xs lg s ow hxl rr
theorem Xe{rows cols:Nat}(rv':RowV RQr h A (rows*cols) E)(hr:rows<=10000)(hc:cols<=10000)
 (hK:∀ A' c' h',h.le h'->rows*cols<=c'->RowV RQr h' A' (rows*cols) (fun k=>E (k%rows*cols+k/rows))->K (.slice A' (rows*cols) c') h'):FCall prog X5 #[.slice A (rows*cols) cap,I (rows:Int),I (cols:Int)] h K:=
 Tz rv' hr hc fun A' c' h' _ _ xs lg s ow hxl rr=>hK A' c' h' (B0 lg s.le) (by have:=ow.1;omega) ⟨xs,ow.slF s.ole,hxl,rr.mono R4 s.le⟩
theorem A2w{d:Nat}(gl:Gl h)(ra:RowV SSr h A n la)(rb:RowV SSr h B n2 lb)(hn:n<=1000000)(hn2:n2<=1000000)(hl:∀ i,i<n->(la i).length<=100000000)(hl2:∀ i,i<n2->(lb i).length<=100000000)(hs:∀ i,i<n->Sz m (rv (la i)))(hs2:∀ i,i<n2->Sz m (rv (lb i)))(hm1:1<=m)(hd:∀ rows mid,MOk r c n la rows mid->mid<=d)(hm:2*(1+d*(2*m+1)+2*m)+14<=40000000)
 (hK:∀ o,MulO r c n la r2 c2 n2 lb o->∀ A' cap' h',h.le h'->RowV SSr h' A' o.n o.f->K (.tuple #[A09 o.r o.c A' o.n cap',I o.e]) h'):FCall prog A5y #[A09 r c A n cap,A09 r2 c2 B n2 cap2] h K:=by
 refine B3i _ _ _ _ _ _ _ _ _ _ ?_
 unfold B85
 have bad:¬ (Mx r c n la/\Mx r2 c2 n2 lb)->∀ h',h.le h'->K (.tuple #[A09 0 0 none 0 0,I 1]) h':=fun hx h' l=>hK (noM 1) (.inl ⟨hx,rfl⟩) none 0 h' l RowV.nil
 refine Bn gl ra hn hl (fun rows mid mk b1 h1 own=>?_) (fun hno h1 l1=>⟨_,_,_,_,rfl,?_⟩)
 ·have l1:=own.le
  refine ⟨_,_,_,_,rfl,Bn (gl.mono l1) (rb.mono Od l1) hn2 hl2 (fun mid2 cols mk2 b2 h2 own2=>⟨_,_,_,_,rfl,Br.nt (Br.nt ?_)⟩) (fun hno h2 l2=>⟨_,_,_,_,rfl,Br.nt (Yz (bad (fun x=>hno x.2) h2 (B0 l1 l2)))⟩)⟩
  have l2:=own2.le
  have lh2:=B0 l1 l2
  refine H9 (fun e=>hK (noM 4) (.inr (.inl ⟨⟨_,_,mk⟩,⟨_,_,mk2⟩,e,rfl⟩)) none 0 h2 lh2 RowV.nil) (fun e=>?_)
  obtain rfl:mid2=mid:=by have:=mk.ec;have:=mk2.er;omega
  have good:=hK _ (.inr (.inr ⟨rows,mid2,cols,mk,mk2,rfl⟩))
  have:=mk.r1;have:=mk.r2;have:=mk.c1;have:=mk.c2;have:=mk2.c1;have:=mk2.c2
  obtain ⟨rfl,rfl,_,_,_,_,rfl,_⟩:=id mk
  obtain ⟨rfl,rfl,_,_,_,_,rfl,_⟩:=id mk2
  clear e
  have ms:=B0j hs
  have ms2:=B0j hs2
  have hdm:=hd _ _ mk
  have hkm:mid2*(2*m+1)<=d*(2*m+1):=B8k _ hdm
  have hkm2:mid2*m<=d*m:=B8k _ hdm
  have hkm3:d*(2*m+1)=2*(d*m)+d:=by rw [Nat.mul_add,Nat.mul_one,Nat.mul_left_comm]
  have hrc:rows*cols<=64*64:=B9g (by omega) (by omega)
  refine Kw (m:=m) (gl.mono lh2) ((own.vis R4).mono R4 l2) (B8j _) (by omega) (by omega) (by omega) hs (by omega) ?_
  intro A3 c3 h3 l3 rv3
  refine ⟨_,_,_,rfl,?_⟩
  refine Xe ((own2.vis R4).mono R4 l3) (by omega) (by omega) ?_
  intro A4 c4 h4 l4 hc4 rv4
  refine ⟨_,_,_,rfl,l4,?_⟩
  have lh4:=B0 lh2 (B0 l3 l4)
  rw [B8m mid2 cols] at rv4 hc4 ⊢
  refine Kw (m:=m) (gl.mono lh4) rv4 hc4 (by omega) (by omega) (by omega) (fun i hi=>?_) (by omega) ?_
  ·have hi2:i/mid2<cols:=Nat.div_lt_of_lt_mul (by rw [B8m];exact hi)
   exact hs2 _ (Y7 (B97 i (show 0<mid2 by omega)) hi2)
  intro A5 c5 h5 l5 rv5'
  have rv5:RowV (VQr mid2) h5 A5 cols (fun j i=>mtx (rvs lb) cols i j):=by
   obtain ⟨vs,sv,el,rr⟩:=rv5'
   refine ⟨vs,sv,el,fun j hj=>?_⟩
   obtain ⟨w,e1,hw⟩:=rr j hj
   refine ⟨w,e1,?_⟩
   have:=VQr.congr (f':=fun i=>mtx (rvs lb) cols i j) hw fun i hi=>?_
   ·exact this
   ·show rvs lb ((j*mid2+i)%mid2*cols+(j*mid2+i)/mid2)=rvs lb (i*cols+j)
    rw [B9b (j*mid2) i,B8t,B8q hi,B90 _ _ (by omega),B9c hi,B99]
  clear rv5'
  refine ⟨_,_,_,rfl,l5,?_⟩
  have lh5:=B0 lh4 l5
  have l35:=B0 l4 l5
  have ewm:B5 ((rows:Int)*(cols:Int))=((rows*cols:Nat):Int):=by rw [<- B8l];exact Cc (by omega)
  rw [ewm]
  refine Ah B3q (zx:=B1t) rfl (by omega) (by omega) (by omega) (by omega) ?_
  intro b hb
  simp only [B8x]
  have sz:∀ i j,i<rows->j<cols->Sz (1+d*(2*m+1)) (sm mid2 (fun t=>mtx (rvs la) mid2 i t*mtx (rvs lb) cols t j)):=fun i j hi hj=>(B45 (f:=fun t=>mtx (rvs la) mid2 i t) (f2:=fun t=>mtx (rvs lb) cols t j) (fun t ht=>ms i t hi ht) (fun t ht=>ms2 t j ht hj) mid2 (B8j _)).mono (by omega)
  refine ⟨_,_,_,rfl,fun L hp=>∃ (k:Nat) (g o:Heap) (xs:List QV) (A':Option Addr) (c':Nat),k<=rows/\L=[.slice A' (k*cols) c',I (k:Int)]/\h5.le g/\Sep hp g o/\OwnSl o K9 A' c' xs/\xs.length=k*cols/\Row RQr g xs (k*cols) (fun k=>sm mid2 (fun j=>mtx (rvs la) mid2 (k/cols) j*mtx (rvs lb) cols j (k%cols))),fun L _=>rows-(iAt L 1).toNat,
   ⟨0,h5,Ii.put b _,[],some ⟨b,0,none⟩,rows*cols,by omega,by rw [B8z];rfl,B4 _,Kt hb,Sv,by simp,by rw [B8z];exact Row.nil⟩,?_⟩
  rintro rA rn rc z hp ⟨k,g,o,xs,A',c',hk,eL,lg,s,ow,hxl,rr⟩
  obtain ⟨⟨rfl,rfl,rfl⟩,rfl⟩:=sI2 eL
  refine B7 (fun hlt=>?_) (fun hge=>?_)
  ·have hkr:k<rows:=by omega
   have hj1:(k+1)*cols=k*cols+cols:=by rw [B9f,B94]
   have hjr:(k+1)*cols<=rows*cols:=B8k _ hkr
   obtain ⟨a,v,ea,iv,c0,c1,c2'⟩:=(rv3.mono (A2v mid2) (B0 l35 lg)).vat hkr
   refine ⟨a,ea,by omega,by omega,_,_,_,_,_,_,_,C0 s.le c0,C0 s.le c1,C0 s.le c2',?_⟩
   refine ⟨fun L hp=>∃ (j:Nat) (g' o:Heap) (xs:List QV) (A':Option Addr) (c':Nat),j<=cols/\L=[.slice A' (k*cols+j) c',I (j:Int)]/\g.le g'/\Sep hp g' o/\OwnSl o K9 A' c' xs/\xs.length=k*cols+j/\Row RQr g' xs (k*cols+j) (fun k=>sm mid2 (fun j=>mtx (rvs la) mid2 (k/cols) j*mtx (rvs lb) cols j (k%cols))),fun L _=>cols-(iAt L 1).toNat,
    ⟨0,g,o,xs,rA,rc,by omega,rfl,B4 _,s,ow,hxl,rr⟩,?_⟩
   rintro qA qn qc z hp2 ⟨j,g2,o2,ys,A2,c2,hj,eL,lg2,s2,ow2,hyl,rr2⟩
   obtain ⟨⟨rfl,rfl,rfl⟩,rfl⟩:=sI2 eL
   refine B7 (fun hlt2=>?_) (fun hge2=>?_)
   ·have hjc:j<cols:=by omega
    obtain ⟨a6,u,ea6,iu,d0,d1,d2⟩:=(rv5.mono (A2v mid2) (B0 lg lg2)).vat hjc
    refine ⟨a6,ea6,by omega,by omega,_,_,_,_,_,_,_,C0 s2.le d0,C0 s2.le d1,C0 s2.le d2,?_⟩
    refine s2.call (A2k (m:=m) (v:=v) (u:=u) (gl.mono (B0 lh5 (B0 lg lg2))) (A2v mid2 _ _ _ _ lg2 iv) iu (by omega) (fun t ht=>ms k t hkr ht) (fun t ht=>ms2 t j ht hjc) hm1 (by omega) ?_)
    intro q g7 l7 iq h7 s7
    refine ⟨_,_,_,_,_,_,_,_,rfl,?_⟩
    refine Aa (ty:=Y4) B3q s7 ow2 hyl.symm (y:=q) rfl (by decide) (by rw [hyl];omega) (by rw [hyl];omega) ?_
    intro A8 c8 h8 g8 o8 l8 s8 ow8 _
    rw [hyl,wiS j (by omega)]
    refine ⟨⟨j+1,g8,o8,_,A8,c8,by omega,by rw [Nat.add_assoc],B0 lg2 (B0 l7 l8),s8,ow8,by rw [B8v,hyl];rfl,?_⟩,?_⟩
    ·have rB:=Row.push (R:=RQr) (g:=g8) (xs:=ys) (f:=fun k=>sm mid2 (fun j=>mtx (rvs la) mid2 (k/cols) j*mtx (rvs lb) cols j (k%cols))) (by rw [hyl];exact rr2.mono R4 (B0 l7 l8)) (w:=q) (by
      show RQ g8 q (sm mid2 (fun t=>mtx (rvs la) mid2 (ys.length/cols) t*mtx (rvs lb) cols t (ys.length%cols)))
      rw [hyl,B9b (k*cols) j,B8t,B8q hjc,B90 _ _ (by omega),B9c hjc,B99]
      exact R4 _ _ _ _ l8 iq)
     rw [B8v,hyl] at rB
     exact rB
    ·show cols-((j+1:Nat):Int).toNat<cols-(j:Int).toNat
     omega
   ·have:j=cols:=by omega
    subst this
    rw [wiS k (by omega),<- hj1]
    rw [<- hj1] at hyl rr2
    refine ⟨⟨k+1,g2,o2,ys,qA,qc,by omega,rfl,B0 lg lg2,s2,ow2,hyl,rr2⟩,?_⟩
    show rows-((k+1:Nat):Int).toNat<rows-(k:Int).toNat
    omega
  ·have:k=rows:=by omega
   subst this
   have lh6:=B0 lh5 (B0 lg s.le)
   have rq:RowV RQr hp rA (k*cols) (fun t=>sm mid2 (fun j=>mtx (rvs la) mid2 (t/cols) j*mtx (rvs lb) cols j (t%cols))):=⟨xs,ow.slF s.ole,hxl,rr.mono R4 s.le⟩
   refine Ob (m:=1+d*(2*m+1)) (gl.mono lh6) rq (by omega) (fun t ht=>?_) (by omega) ?_
   ·exact sz _ _ (Nat.div_lt_of_lt_mul (by rw [B8m];exact ht)) (B97 t (show 0<cols by omega))
   intro b9 h9 own9
   exact ⟨_,_,_,_,_,rfl,good _ _ h9 (B0 lh6 own9.le) (own9.vis Od)⟩
 ·refine Bn (gl.mono l1) (rb.mono Od l1) hn2 hl2 (fun mid2 cols mk2 b2 h2 own2=>⟨_,_,_,_,rfl,Yz (bad (fun x=>hno x.1) h2 (B0 l1 own2.le))⟩) (fun _ h2 l2=>⟨_,_,_,_,rfl,Yz (bad (fun x=>hno x.1) h2 (B0 l1 l2))⟩)
end
end Go.Proofs.YtajkakhfcokljaaGreatDoor
namespace Go.Proofs.YtajkakhfcokljaaGreatDoor
set_option maxRecDepth 20000
structure Alt (k:Nat) (φ:(Nat->Nat->Rat)->Rat):Prop where
 congr:∀ {X Y:Nat->Nat->Rat},(∀ c r,c<k->r<k->X c r=Y c r)->φ X=φ Y
 add:∀ (X:Nat->Nat->Rat) {m:Nat} (_:m<k) (y z:Nat->Rat),φ (rc X m fun r=>y r+z r)=φ (rc X m y)+φ (rc X m z)
 smul:∀ (X:Nat->Nat->Rat) {m:Nat} (_:m<k) (a:Rat) (y:Nat->Rat),φ (rc X m fun r=>a*y r)=a*φ (rc X m y)
 eq:∀ (X:Nat->Nat->Rat) {p q:Nat} (_:p<q) (_:q<k) (_:∀ r,r<k->X p r=X q r),φ X=0
theorem A6b(k:Nat):Alt k (dt k):=⟨H1,Pe,Kn,A6a⟩
section
variable {k:Nat} {φ:(Nat->Nat->Rat)->Rat}
theorem Alt.zero(a:Alt k φ)(X:Nat->Nat->Rat){m:Nat}(hm:m<k):φ (rc X m fun _=>0)=0:=by
 have:=a.smul X hm 0 (fun _=>0)
 rw [B8y] at this
 simpa only [B8y] using this
theorem Alt.sum(a:Alt k φ)(X:Nat->Nat->Rat){m:Nat}(hm:m<k)(f:Nat->Rat)(Y:Nat->Nat->Rat):∀ n,φ (rc X m fun r=>sm n fun t=>f t*Y t r)=sm n fun t=>f t*φ (rc X m (Y t)):=by
 intro n
 induction n with
 | zero=>exact a.zero X hm
 | succ n ih=>
  simp only [sm]
  rw [a.add X hm,ih,a.smul X hm]
theorem Alt.same(a:Alt k φ)(X:Nat->Nat->Rat){p q:Nat}(hp:p<k)(hq:q<k)(hpq:p≠q)(h:∀ r,r<k->X p r=X q r):φ X=0:=by
 rcases Nat.lt_or_ge p q with c|c
 ·exact a.eq X c hq h
 ·exact a.eq X (show q<p by omega) hp fun r hr=>(h r hr).symm
theorem Alt.anti(a:Alt k φ)(X:Nat->Nat->Rat){p q:Nat}(hp:p<k)(hq:q<k)(hpq:p≠q)(y z:Nat->Rat):φ (rc (rc X p y) q z)= - φ (rc (rc X p z) q y):=by
 have com:∀ u v:Nat->Rat,rc (rc X p u) q v=rc (rc X q v) p u:=fun u v=>by
  funext c r;unfold rc
  by_cases c1:c=p
  ·rw [if_neg (by omega),if_pos c1,if_pos c1]
  ·by_cases c2:c=q
   ·rw [if_pos c2,if_neg c1,if_pos c2]
   ·rw [if_neg c2,if_neg c1,if_neg c1,if_neg c2]
 have z0:∀ u,φ (rc (rc X p u) q u)=0:=fun u=>a.same _ hp hq hpq fun r _=>by
  unfold rc;rw [if_neg hpq,if_pos rfl,if_pos rfl]
 have h:=z0 fun r=>y r+z r
 rw [a.add _ hq,com _ y,com _ z,a.add _ hp,a.add _ hp,<- com,<- com,<- com,<- com,z0,z0] at h
 grind
theorem Alt.shear(a:Alt k φ)(X:Nat->Nat->Rat){p q:Nat}(hp:p<k)(hq:q<k)(hpq:p≠q)(f:Rat):φ (rc X p fun r=>X p r+f*X q r)=φ X:=by
 rw [a.add _ hp,Ea,a.smul _ hp,a.same (rc X p (X q)) hp hq hpq fun r _=>by unfold rc;rw [if_pos rfl,if_neg (Ne.symm hpq)]]
 grind
theorem Alt.shears(a:Alt k φ)(X:Nat->Nat->Rat){q:Nat}(hq:q<k)(f:Nat->Rat):∀ j,j<=k->φ (fun c r=>if c<j/\c≠q then X c r+f c*X q r else X c r)=φ X:=by
 intro j
 induction j with
 | zero=>exact fun _=>a.congr fun c r _ _=>by rw [if_neg (by omega)]
 | succ j ih=>
  intro hj
  rw [<- ih (by omega)]
  by_cases e:j=q
  ·exact a.congr fun c r _ _=>by
    by_cases c1:c<j/\c≠q
    ·rw [if_pos c1,if_pos (by omega)]
    ·rw [if_neg c1,if_neg (by omega)]
  ·rw [<- a.shear (fun c r=>if c<j/\c≠q then X c r+f c*X q r else X c r) (show j<k by omega) hq e (f j)]
   refine a.congr fun c r _ _=>?_
   unfold rc
   dsimp only
   by_cases c1:c=j
   ·rw [if_pos c1,if_pos (by omega),if_neg (by omega),if_neg (by omega),c1]
   ·rw [if_neg c1]
    by_cases c2:c<j/\c≠q
    ·rw [if_pos c2,if_pos (by omega)]
    ·rw [if_neg c2,if_neg (by omega)]
end
def un(r l:Nat):Rat:=if r=l then 1 else 0
def unx(l r:Nat):Nat:=if r<l then r else r-1
theorem B1v(l i:Nat):unx l (rhx l i)=i:=by
 unfold unx rhx
 repeat' split
 all_goals omega
theorem A4u{l r:Nat}(h:r≠l):rhx l (unx l r)=r:=by
 unfold unx rhx
 repeat' split
 all_goals omega
theorem B05{l r k:Nat}(h:r≠l)(hl:l<k+1)(hr:r<k+1):unx l r<k:=by unfold unx;split<;>omega
def emb(l:Nat)(y:Nat->Rat):Nat->Rat:=fun r=>if r=l then 0 else y (unx l r)
theorem A48(a b:Nat):un a b=un b a:=by
 unfold un
 by_cases c:a=b
 ·rw [if_pos c,if_pos c.symm]
 ·rw [if_neg c,if_neg (Ne.symm c)]
theorem A64(l c r:Nat):emb l (un c) r=un r (rhx l c):=by
 unfold emb un
 by_cases e:r=l
 ·rw [if_pos e,if_neg fun x=>B0b l c (x.symm.trans e)]
 ·rw [if_neg e]
  by_cases e2:c=unx l r
  ·rw [if_pos e2,if_pos (by rw [e2,A4u e])]
  ·rw [if_neg e2,if_neg fun x=>e2 (by rw [x,B1v])]
theorem A8y(l:Nat):rhx l l=l+1:=by unfold rhx;rw [if_neg (Nat.lt_irrefl l)]
theorem A4v{l c:Nat}(h:c<l):rhx l c=c:=by unfold rhx;rw [if_pos h]
theorem A8z{l c:Nat}(h:c≠l):rhx (l+1) c=rhx l c:=by
 unfold rhx
 by_cases e:c<l
 ·rw [if_pos (show c<l+1 by omega),if_pos e]
 ·rw [if_neg (show ¬ c<l+1 by omega),if_neg e]
theorem Alt.uniq:∀ {k:Nat} {φ:(Nat->Nat->Rat)->Rat},Alt k φ->∀ X,φ X=φ un*dt k X:=by
 intro k
 induction k with
 | zero=>intro φ a X;show φ X=φ un*1;rw [B8s];exact a.congr fun c r hc _=>by omega
 | succ k ih=>
  intro φ a X
  let ψ:Nat->(Nat->Nat->Rat)->Rat:=fun l Y=>φ (fun c r=>if c=k then un r l else emb l (Y c) r)
  have alt:∀ l,l<k+1->Alt k (ψ l):=fun l hl=>by
   have cm:∀ (Y:Nat->Nat->Rat) (m:Nat) (y:Nat->Rat),m<k->(fun c r=>if c=k then un r l else emb l (rc Y m y c) r)=rc (fun c r=>if c=k then un r l else emb l (Y c) r) m (emb l y):=fun Y m y hm=>by
    funext c r
    unfold rc
    by_cases c1:c=m
    ·rw [if_neg (by omega),if_pos c1]
     show emb l (fun r=>if c=m then y r else Y c r) r=_
     simp only [if_pos c1]
    ·rw [if_neg c1]
     simp only [if_neg c1]
   have ea:∀ y z:Nat->Rat,emb l (fun r=>y r+z r)=fun r=>emb l y r+emb l z r:=fun y z=>by
    funext r;unfold emb;split<;>grind
   have es:∀ (f:Rat) (y:Nat->Rat),emb l (fun r=>f*y r)=fun r=>f*emb l y r:=fun f y=>by
    funext r;unfold emb;split<;>grind
   refine ⟨fun h=>a.congr fun c r hc hr=>?_,fun Y m hm y z=>?_,fun Y m hm f y=>?_,fun Y p q hp hq h=>a.eq _ hp (by omega) fun r hr=>?_⟩
   ·by_cases c1:c=k
    ·rw [if_pos c1,if_pos c1]
    ·rw [if_neg c1,if_neg c1]
     unfold emb
     by_cases c2:r=l
     ·rw [if_pos c2,if_pos c2]
     ·rw [if_neg c2,if_neg c2];exact h c _ (by omega) (B05 c2 hl hr)
   ·show φ _=φ _+φ _
    rw [cm Y m _ hm,cm Y m _ hm,cm Y m _ hm,ea,a.add _ (by omega)]
   ·show φ _=f*φ _
    rw [cm Y m _ hm,cm Y m _ hm,es,a.smul _ (by omega)]
   ·rw [if_neg (by omega),if_neg (by omega)]
    unfold emb
    by_cases c2:r=l
    ·rw [if_pos c2,if_pos c2]
    ·rw [if_neg c2,if_neg c2];exact h _ (B05 c2 hl hr)
  have clear:∀ l,l<k+1->∀ j,j<=k->φ (rc X k fun r=>un r l)=φ (fun c r=>if c=k then un r l else if c<j/\r=l then 0 else X c r):=fun l hl j=>by
   induction j with
   | zero=>exact fun _=>a.congr fun c r _ _=>by unfold rc;split<;>first|rfl|rw [if_neg (by omega)]
   | succ j ihj=>
    intro hj
    rw [ihj (by omega),<- a.shear _ (show j<k+1 by omega) (show k<k+1 by omega) (by omega) (- X j l)]
    refine a.congr fun c r hc hr=>?_
    unfold rc
    dsimp only
    by_cases c1:c=j
    ·rw [if_pos c1,if_neg (show ¬ j=k by omega),if_neg (show ¬ (j<j/\r=l) by omega),if_pos rfl,c1,if_neg (show ¬ j=k by omega)]
     unfold un
     by_cases c2:r=l
     ·rw [if_pos c2,if_pos ⟨by omega,c2⟩,c2];grind
     ·rw [if_neg c2,if_neg (fun x=>c2 x.2)];grind
    ·rw [if_neg c1]
     by_cases c2:c=k
     ·rw [if_pos c2,if_pos c2]
     ·rw [if_neg c2,if_neg c2]
      by_cases c3:c<j/\r=l
      ·rw [if_pos c3,if_pos ⟨by omega,c3.2⟩]
      ·rw [if_neg c3,if_neg fun x=>c3 ⟨by omega,x.2⟩]
  have toψ:∀ l,l<k+1->φ (rc X k fun r=>un r l)=ψ l (fun c r=>X c (rhx l r)):=fun l hl=>by
   rw [clear l hl k (B8j k)]
   refine a.congr fun c r hc hr=>?_
   by_cases c1:c=k
   ·rw [if_pos c1,if_pos c1]
   ·rw [if_neg c1,if_neg c1]
    unfold emb
    by_cases c2:r=l
    ·rw [if_pos ⟨by omega,c2⟩,if_pos c2]
    ·rw [if_neg fun x=>c2 x.2,if_neg c2];show X c r=X c (rhx l (unx l r));rw [A4u c2]
  have perm:∀ t l,l+t=k->ψ l un=sg t*φ un:=fun t=>by
   induction t with
   | zero=>
    intro l hl
    rw [show sg 0=1 by rfl,B8r]
    refine a.congr fun c r hc hr=>?_
    have hl':l=k:=by omega
    by_cases c1:c=k
    ·rw [if_pos c1,A48,c1,hl']
    ·rw [if_neg c1,A64,A4v (by omega),A48]
   | succ t iht=>
    intro l hl
    rw [B26,Rat.neg_mul,<- iht (l+1) (by omega)]
    have e1:ψ l un=φ (rc (rc (fun c r=>un r (rhx l c)) l fun r=>un r (l+1)) k fun r=>un r l):=a.congr fun c r hc hr=>by
     unfold rc
     dsimp only
     by_cases c1:c=k
     ·rw [if_pos c1,if_pos c1]
     ·rw [if_neg c1,if_neg c1,A64]
      by_cases c2:c=l
      ·rw [if_pos c2,c2,A8y]
      ·rw [if_neg c2]
    have e2:ψ (l+1) un=φ (rc (rc (fun c r=>un r (rhx l c)) l fun r=>un r l) k fun r=>un r (l+1)):=a.congr fun c r hc hr=>by
     unfold rc
     dsimp only
     by_cases c1:c=k
     ·rw [if_pos c1,if_pos c1]
     ·rw [if_neg c1,if_neg c1,A64]
      by_cases c2:c=l
      ·rw [if_pos c2,c2,A4v (by omega)]
      ·rw [if_neg c2,A8z c2]
    rw [e1,e2,a.anti _ (by omega) (by omega) (by omega)]
  have last:φ X=sm (k+1) fun l=>X k l*φ (rc X k fun r=>un r l):=by
   rw [<- a.sum X (show k<k+1 by omega) (X k) (fun l r=>un r l) (k+1)]
   refine a.congr fun c r hc hr=>?_
   unfold rc
   by_cases c1:c=k
   ·rw [if_pos c1]
    show X c r=sm (k+1) fun t=>X k t*un r t
    rw [Wu hr fun l _ c=>by unfold un;rw [if_neg (fun x=>c x.symm),B8u]]
    unfold un
    rw [if_pos rfl,B8s,c1]
   ·rw [if_neg c1]
  rw [last,dt,<- La]
  refine E6 fun l hl=>?_
  rw [toψ l hl,ih (alt l hl),perm (k-l) l (by omega)]
  have hsg:sg (k-l)=sg (k+l):=by
   unfold sg
   rw [show (k+l)%2=(k-l)%2 by omega]
  rw [hsg]
  grind
theorem B50(n:Nat)(A B:Nat->Nat->Rat):dt n (fun i j=>sm n fun t=>A i t*B t j)=dt n A*dt n B:=by
 have a:Alt n (fun A=>dt n (fun i j=>sm n fun t=>A i t*B t j)):=by
  have cm:∀ (X:Nat->Nat->Rat) (m:Nat) (y:Nat->Rat),(fun i j=>sm n fun t=>rc X m y i t*B t j)=rc (fun i j=>sm n fun t=>X i t*B t j) m (fun j=>sm n fun t=>y t*B t j):=fun X m y=>by
   funext c r
   unfold rc
   by_cases c1:c=m
   ·rw [if_pos c1];simp only [if_pos c1]
   ·rw [if_neg c1];simp only [if_neg c1]
  refine ⟨fun h=>H1 fun c r hc hr=>E6 fun t ht=>by rw [h c t hc ht],fun X m hm y z=>?_,fun X m hm f y=>?_,fun X p q hp hq h=>A6a _ hp hq fun r hr=>E6 fun t ht=>by rw [h t ht]⟩
  ·show dt n _=dt n _+dt n _
   rw [cm,cm,cm,<- Pe _ hm]
   congr 2
   funext r
   rw [<- Rr]
   exact E6 fun t _=>by grind
  ·show dt n _=f*dt n _
   rw [cm,cm,<- Kn _ hm]
   congr 2
   funext r
   rw [<- La]
   exact E6 fun t _=>by grind
 rw [a.uniq A]
 show dt n (fun i j=>sm n fun t=>un i t*B t j)*dt n A=_
 rw [B8p,H1 (X:=fun i j=>sm n fun t=>un i t*B t j) (Y:=B) fun c r hc _=>?_]
 rw [Wu hc fun t _ c=>by unfold un;rw [if_neg (fun x=>c x.symm),B8y]]
 unfold un
 rw [if_pos rfl,B8r]
theorem B73(n:Nat):dt n un=1:=by
 induction n with
 | zero=>rfl
 | succ n ih=>
  rw [A0i un fun r hr=>by unfold un;rw [if_neg (by omega)],ih]
  unfold un
  rw [if_pos rfl,B8r]
theorem B0x{n k l:Nat}(hk:k<n)(hl:l<n)(hkl:k≠l)(X:Nat->Nat->Rat):dt n (fun i=>X (xch k l i))= - dt n X:=by
 have e:=(A6b n).anti X hk hl hkl (X l) (X k)
 have e1:rc (rc X k (X l)) l (X k)=fun i=>X (xch k l i):=by
  funext c r
  unfold rc xch
  by_cases c1:c=l
  ·rw [if_pos c1,if_neg (by omega),if_pos c1]
  ·rw [if_neg c1]
   by_cases c2:c=k
   ·rw [if_pos c2,if_pos c2]
   ·rw [if_neg c2,if_neg c2,if_neg c1]
 rw [e1] at e
 rw [e,Ea X k,Ea X l]
theorem B2v{n k j:Nat}(hk:k<n)(R:Nat->Nat->Rat)(hne:R k j≠0):R k j*dt n (R5 R k j)=dt n R:=by
 have h1:=(A6b n).shears (rc R k fun r=>(1/R k j)*R k r) hk (fun a=> - R a j) n (B8j n)
 rw [Kn R hk,Ea] at h1
 have h2:dt n (R5 R k j)=1/R k j*dt n R:=by
  rw [<- h1]
  refine H1 fun c r hc hr=>?_
  unfold R5 rc
  by_cases c1:c=k
  ·rw [if_pos c1,if_neg (by omega),if_pos c1];grind
  ·rw [if_neg c1,if_pos ⟨hc,c1⟩,if_neg c1,if_pos rfl];grind
 rw [h2]
 grind
end Go.Proofs.YtajkakhfcokljaaGreatDoor
namespace Go.Proofs.YtajkakhfcokljaaGreatDoor
set_option maxRecDepth 20000
structure DtR (n c:Nat) (A:Nat->Nat->Rat) (s:ES):Prop where
 eqa:EqA n n c A s
 le:s.cs.length<=c
 val:∃ x,dt n A=x*dt n s.R/\(s.cs.length=c->x=s.det/\∀ m,m<c->s.cs.getD m 0=m)
theorem DtR.step{n c:Nat}{A:Nat->Nat->Rat}{s:ES}(h:DtR n c A s)(hc:c<n):DtR n (c+1) A (Zt n c s):=by
 have e:=h.eqa.step hc
 obtain ⟨f1,f2,f3,f4⟩:=Rs n c s h.eqa.len
 have hle:=h.le
 obtain ⟨x,hx,hx2⟩:=h.val
 have hk:s.cs.length<n:=by omega
 have se:Zt n c s=if s.cs.length<n then if Fq n c s<n then { R:=Ac (fun i=>s.R (xch s.cs.length (Fq n c s) i)) s.cs.length c,cs:=s.cs++[c],det:=(if Fq n c s=s.cs.length then s.det else-s.det)*s.R (Fq n c s) c } else { s with det:=0 } else s:=rfl
 rw [if_pos hk] at se
 by_cases hr:Fq n c s<n
 ·rw [if_pos hr] at se
  have hne:=f3 hr
  have hz:∀ b,b<c->s.R (Fq n c s) b=0:=fun b hb=>h.eqa.zero _ b hr f1 hb
  have xl:=Fj s.cs.length (Fq n c s)
  have hE:Ac (fun i=>s.R (xch s.cs.length (Fq n c s) i)) s.cs.length c=R5 (fun i=>s.R (xch s.cs.length (Fq n c s) i)) s.cs.length c:=A1w fun b hb=>by rw [xl];exact hz b hb
  have hd:=B2v (n:=n) (j:=c) hk (fun i=>s.R (xch s.cs.length (Fq n c s) i)) (by rw [xl];exact hne)
  rw [xl] at hd
  have hsw:dt n (fun i=>s.R (xch s.cs.length (Fq n c s) i))=(if Fq n c s=s.cs.length then 1 else -1)*dt n s.R:=by
   by_cases q:Fq n c s=s.cs.length
   ·rw [if_pos q,B8r]
    refine H1 fun a b _ _=>?_
    rw [q]
    unfold xch
    by_cases q2:a=s.cs.length
    ·rw [if_pos q2,q2]
    ·rw [if_neg q2,if_neg q2]
   ·rw [if_neg q,B0x hk hr (Ne.symm q)]
    grind
  rw [hsw] at hd
  have hlen:(s.cs++[c]).length=s.cs.length+1:=by simp
  rw [se] at e ⊢
  refine ⟨e,by show (s.cs++[c]).length<=c+1;omega,((if Fq n c s=s.cs.length then 1 else -1)*x)*s.R (Fq n c s) c,?_,fun hl=>?_⟩
  ·show dt n A=_*dt n (Ac _ _ _)
   rw [hE,hx,Rat.mul_assoc,hd]
   split<;>grind
  ·have hl':s.cs.length=c:=by have:(s.cs++[c]).length=c+1:=hl;omega
   obtain ⟨g1,g2⟩:=hx2 hl'
   refine ⟨?_,fun m hm=>?_⟩
   ·show _=(if Fq n c s=s.cs.length then s.det else-s.det)*s.R (Fq n c s) c
    rw [g1]
    split<;>grind
   ·show (s.cs++[c]).getD m 0=m
    by_cases q:m<s.cs.length
    ·rw [Ol _ _ m q];exact g2 m (by omega)
    ·have:m=s.cs.length:=by omega
     rw [this,Om];exact hl'.symm
 ·rw [if_neg hr] at se
  rw [se] at e ⊢
  exact ⟨e,by show s.cs.length<=c+1;omega,x,hx,fun hl=>by have:s.cs.length=c+1:=hl;omega⟩
theorem DtR.run{n:Nat}(A:Nat->Nat->Rat):∀ c,c<=n->DtR n c A (B09 n ⟨A,[],1⟩ c):=by
 intro c
 induction c with
 | zero=>exact fun _=>⟨EqA.start n n A,B8j _,1,(B8r _).symm,fun _=>⟨rfl,fun m hm=>by omega⟩⟩
 | succ c ih=>exact fun hc=>DtR.step (ih (by omega)) (by omega)
theorem A69{n i:Nat}(hi:i<n){X:Nat->Nat->Rat}(h:∀ j,j<n->X i j=0):dt n X=0:=by
 rw [<- A68 X hi]
 refine H1 fun c r _ hr=>?_
 unfold rc
 by_cases e:c=i
 ·rw [if_pos e,e];exact h r hr
 ·rw [if_neg e]
theorem B4z(n:Nat)(A:Nat->Nat->Rat):(if (B09 n ⟨A,[],1⟩ n).cs.length<n then 0 else (B09 n ⟨A,[],1⟩ n).det)=dt n A:=by
 have h:=DtR.run A n (B8j n)
 generalize B09 n ⟨A,[],1⟩ n=s at *
 obtain ⟨x,hx,hx2⟩:=h.val
 have hle:=h.le
 split
 ·rename_i c
  rw [hx,A69 (i:=n-1) (by omega) fun j hj=>h.eqa.zero (n-1) j (by omega) (by omega) hj,B8u]
 ·obtain ⟨g1,g2⟩:=hx2 (by omega)
  obtain ⟨B,E,_,_⟩:=h.eqa.elim
  rw [hx,H1 (Y:=un) fun l m hl hm=>?_,B73,B8s,g1]
  have:=E.piv l m (by omega) (by omega)
  rw [g2 m hm] at this
  rw [this]
  rfl
end Go.Proofs.YtajkakhfcokljaaGreatDoor
namespace Go.Proofs.YtajkakhfcokljaaGreatDoor
set_option maxRecDepth 20000
def Prm(p:Nat):Prop:=2<=p/\∀ d,1<d->d<p->¬ d∣p
theorem Prm.cop{p a:Nat}(h:Prm p)(ha:¬ p∣a):Nat.Coprime p a:=by
 have h1:=Nat.gcd_dvd_left p a
 have h2:=Nat.gcd_dvd_right p a
 show Nat.gcd p a=1
 have hp:=h.1
 have hle:=B95 (by omega) h1
 have hpos:0<Nat.gcd p a:=Nat.gcd_pos_of_pos_left a (by omega)
 refine Classical.byContradiction fun hne=>?_
 by_cases e:Nat.gcd p a=p
 ·rw [e] at h2;exact ha h2
 ·exact h.2 _ (by omega) (by omega) h1
theorem Prm.mul{p a b:Nat}(h:Prm p)(hd:p∣a*b):p∣a\/p∣b:=by
 by_cases c:p∣a
 ·exact .inl c
 ·exact .inr ((h.cop c).dvd_of_dvd_mul_left hd)
theorem Prm.imul{p:Nat}{a b:Int}(h:Prm p)(hd:(p:Int)∣a*b):(p:Int)∣a\/(p:Int)∣b:=by
 rw [B96,B96]
 rw [B96,Int.natAbs_mul] at hd
 exact h.mul hd
def ch:Nat->Nat->Nat
 | _,0=>1
 | 0,_+1=>0
 | n+1,k+1=>ch n k+ch n (k+1)
theorem B55(n:Nat):ch n 0=1:=by cases n<;>rfl
theorem B56:∀ n k,(n+1)*ch n k=(k+1)*ch (n+1) (k+1):=by
 intro n
 induction n with
 | zero=>
  intro k
  match k with
  | 0=>rfl
  | k+1=>show 1*0=(k+2)*(0+0);omega
 | succ n ih=>
  intro k
  match k with
  | 0=>
   have:=ih 0
   rw [B55] at this ⊢
   show (n+2)*1=1*(ch (n+1) 0+ch (n+1) 1)
   rw [B55]
   have e0:ch (n+1) (0+1)=ch (n+1) 1:=rfl
   rw [e0] at this
   omega
  | k+1=>
   have h1:=ih k
   have h2:=ih (k+1)
   have e1:ch (n+1) (k+1)=ch n k+ch n (k+1):=rfl
   have e2:ch (n+2) (k+2)=ch (n+1) (k+1)+ch (n+1) (k+2):=rfl
   rw [e2]
   grind
theorem B10:∀ n k,n<k->ch n k=0:=by
 intro n
 induction n with
 | zero=>
  intro k hk
  match k,hk with
  | k+1,_=>rfl
 | succ n ih=>
  intro k hk
  match k,hk with
  | k+1,hk=>
   show ch n k+ch n (k+1)=0
   rw [ih k (by omega),ih (k+1) (by omega)]
theorem B2z:∀ n,ch n n=1:=by
 intro n
 induction n with
 | zero=>rfl
 | succ n ih=>
  show ch n n+ch n (n+1)=1
  rw [ih,B10 n (n+1) (by omega)]
def A3x(n x:Nat):Nat->Nat
 | 0=>0
 | m+1=>A3x n x m+ch n m*x^m
theorem A6q(n x:Nat):∀ m,A3x (n+1) x (m+1)=x*A3x n x m+A3x n x (m+1):=by
 intro m
 induction m with
 | zero=>show 0+ch (n+1) 0*x^0=x*0+(0+ch n 0*x^0);rw [B55,B55];omega
 | succ m ih=>
  rw [A3x,ih]
  show _+(ch n m+ch n (m+1))*x^(m+1)=x*(A3x n x m+ch n m*x^m)+(A3x n x (m+1)+ch n (m+1)*x^(m+1))
  rw [B9a]
  grind
theorem B74(x:Nat):∀ n,(x+1)^n=A3x n x (n+1):=by
 intro n
 induction n with
 | zero=>show 1=0+ch 0 0*x^0;rfl
 | succ n ih=>
  rw [A6q,<- ih]
  show _=x*(x+1)^n+(A3x n x (n+1)+ch n (n+1)*x^(n+1))
  rw [<- ih,B10 n (n+1) (by omega),B9a]
  grind
theorem Prm.ch{p:Nat}(h:Prm p){k:Nat}(h0:0<k)(hk:k<p):p∣ch p k:=by
 have e:=B56 (p-1) (k-1)
 have hp:=h.1
 rw [show p-1+1=p by omega,show k-1+1=k by omega] at e
 rcases h.mul (show p∣k*Go.Proofs.YtajkakhfcokljaaGreatDoor.ch p k from ⟨_,e.symm⟩) with c|c
 ·exact absurd (B95 h0 c) (by omega)
 ·exact c
theorem Prm.fermat{p:Nat}(h:Prm p):∀ x,x^p%p=x%p:=by
 have hp:=h.1
 intro x
 induction x with
 | zero=>rw [Nat.zero_pow (by omega)]
 | succ x ih=>
  have low:∀ m,1<=m->m<=p->A3x p x m%p=1%p:=by
   intro m
   induction m with
   | zero=>intro h;omega
   | succ m ihm=>
    intro _ hm
    by_cases c:m=0
    ·rw [c];show (0+Go.Proofs.YtajkakhfcokljaaGreatDoor.ch p 0*x^0)%p=_;rw [B55];rfl
    ·rw [A3x,Nat.add_mod,ihm (by omega) (by omega),Nat.mul_mod,Nat.mod_eq_zero_of_dvd (h.ch (by omega) (by omega)),B8z,Nat.zero_mod,Nat.add_zero,Nat.mod_mod]
  rw [B74,A3x,B2z,B94,Nat.add_mod,low p (by omega) (B8j p),ih,<- Nat.add_mod,B9b]
theorem Prm.inv{p:Nat}(h:Prm p){x:Nat}(hx:¬ p∣x):x^(p-2)*x%p=1:=by
 have hp:=h.1
 have e:=h.fermat x
 have e1:x^p=x^(p-2)*x*x:=by
  rw [<- B9a,<- B9a]
  congr 1
  omega
 rw [e1] at e
 have hpos:1<=x^(p-2)*x:=by
  have:0<x:=Nat.pos_of_ne_zero fun c=>hx (by rw [c];exact Nat.dvd_zero p)
  exact Nat.mul_pos (Nat.pow_pos this) this
 generalize x^(p-2)*x=y at *
 have hd:p∣(y-1)*x:=by
  rw [Nat.sub_mul,B94]
  exact Nat.dvd_of_mod_eq_zero (Nat.sub_mod_eq_zero_of_mod_eq e)
 rcases h.mul hd with c|c
 ·obtain ⟨z,hz⟩:=c
  rw [show y=1+p*z by omega,Nat.add_mul_mod_self_left,B8q (by omega)]
 ·exact absurd c hx
def Zq(p:Nat)(x:Rat):Prop:=∃ d:Int,¬ (p:Int)∣d/\Wh (x*d)
def Cg(p:Nat)(x y:Rat):Prop:=∃ d:Int,¬ (p:Int)∣d/\∃ w:Int,(x-y)*d=(p:Int)*(w:Rat)
section
variable {p:Nat} (h:Prm p)
include h
theorem Prm.nd1:¬ (p:Int)∣1:=by
 intro c
 have:=Int.ofNat_dvd_left.1 c
 have h1:=h.1
 have:=B95 (by decide) this
 simp at this
 omega
theorem Prm.ndm{a b:Int}(ha:¬ (p:Int)∣a)(hb:¬ (p:Int)∣b):¬ (p:Int)∣a*b:=fun c=>by
 rcases h.imul c with c|c
 ·exact ha c
 ·exact hb c
theorem Zq.int(z:Int):Zq p (z:Rat):=⟨1,h.nd1,z,by have:((1:Int):Rat)=1:=rfl;rw [this,B8s]⟩
theorem Zq.add{x y:Rat}(hx:Zq p x)(hy:Zq p y):Zq p (x+y):=by
 obtain ⟨d,d1,a,d2⟩:=hx
 obtain ⟨e,e1,b,e2⟩:=hy
 refine ⟨d*e,h.ndm d1 e1,a*e+b*d,?_⟩
 rw [B8n,B8g,B8g,B8g,<- d2,<- e2]
 grind
theorem Zq.mul{x y:Rat}(hx:Zq p x)(hy:Zq p y):Zq p (x*y):=by
 obtain ⟨d,d1,a,d2⟩:=hx
 obtain ⟨e,e1,b,e2⟩:=hy
 refine ⟨d*e,h.ndm d1 e1,a*b,?_⟩
 rw [B8g,B8g,<- d2,<- e2]
 grind
theorem Cg.refl(x:Rat):Cg p x x:=⟨1,h.nd1,0,by rw [show x-x=0 by grind];have:((0:Int):Rat)=0:=rfl;rw [this];grind⟩
omit h in
theorem Cg.symm{x y:Rat}(hx:Cg p x y):Cg p y x:=by
 obtain ⟨d,d1,w,d2⟩:=hx
 refine ⟨d,d1,-w,?_⟩
 rw [Rat.intCast_neg]
 grind
theorem Cg.trans{x y z:Rat}(hx:Cg p x y)(hy:Cg p y z):Cg p x z:=by
 obtain ⟨d,d1,a,d2⟩:=hx
 obtain ⟨e,e1,b,e2⟩:=hy
 refine ⟨d*e,h.ndm d1 e1,a*e+b*d,?_⟩
 rw [B8n,B8g,B8g,B8g]
 have:(x-z)*((d:Rat)*e)=(x-y)*d*e+(y-z)*e*d:=by grind
 rw [this,d2,e2]
 grind
theorem Cg.add{x y x' y':Rat}(hx:Cg p x x')(hy:Cg p y y'):Cg p (x+y) (x'+y'):=by
 obtain ⟨d,d1,a,d2⟩:=hx
 obtain ⟨e,e1,b,e2⟩:=hy
 refine ⟨d*e,h.ndm d1 e1,a*e+b*d,?_⟩
 rw [B8n,B8g,B8g,B8g]
 have:(x+y-(x'+y'))*((d:Rat)*e)=(x-x')*d*e+(y-y')*e*d:=by grind
 rw [this,d2,e2]
 grind
theorem Cg.smul{x y c:Rat}(hc:Zq p c)(hx:Cg p x y):Cg p (c*x) (c*y):=by
 obtain ⟨d,d1,a,d2⟩:=hx
 obtain ⟨e,e1,b,e2⟩:=hc
 refine ⟨d*e,h.ndm d1 e1,a*b,?_⟩
 rw [B8g,B8g]
 have:(c*x-c*y)*((d:Rat)*e)=(x-y)*d*(c*e):=by grind
 rw [this,d2,e2]
 grind
theorem Cg.mul{x y x' y':Rat}(zy:Zq p y)(zx:Zq p x')(hx:Cg p x x')(hy:Cg p y y'):Cg p (x*y) (x'*y'):=by
 have h1:=Cg.smul h zy hx
 have h2:=Cg.smul h zx hy
 rw [B8p y x,B8p y x'] at h1
 exact Cg.trans h h1 h2
theorem Zq.sm{n:Nat}{f:Nat->Rat}(hf:∀ i,i<n->Zq p (f i)):Zq p (sm n f):=by
 induction n with
 | zero=>exact Zq.int h 0
 | succ n ih=>exact Zq.add h (ih fun i hi=>hf i (by omega)) (hf n (by omega))
theorem Cg.sm{n:Nat}{f g:Nat->Rat}(hf:∀ i,i<n->Cg p (f i) (g i)):Cg p (sm n f) (sm n g):=by
 induction n with
 | zero=>exact Cg.refl h _
 | succ n ih=>exact Cg.add h (ih fun i hi=>hf i (by omega)) (hf n (by omega))
theorem Zq.sg(n:Nat):Zq p (sg n):=by
 obtain ⟨z,hz⟩:=Wh.sg n
 rw [hz];exact Zq.int h z
theorem B2u{k:Nat}: ∀ {X:Nat->Nat->Rat},(∀ c r,c<k->r<k->Zq p (X c r))->Zq p (dt k X):=by
 induction k with
 | zero=>intro X _;exact Zq.int h 1
 | succ k ih=>
  intro X hX
  rw [dt]
  exact Zq.sm h fun l hl=>Zq.mul h (Zq.mul h (Zq.sg h _) (hX k l (by omega) hl)) (ih fun c r hc hr=>hX c _ (by omega) (Nu hr))
theorem B51{k:Nat}: ∀ {X Y:Nat->Nat->Rat},(∀ c r,c<k->r<k->Zq p (X c r)/\Zq p (Y c r)/\Cg p (X c r) (Y c r))->Cg p (dt k X) (dt k Y):=by
 induction k with
 | zero=>intro X Y _;exact Cg.refl h _
 | succ k ih=>
  intro X Y hX
  rw [dt,dt]
  refine Cg.sm h fun l hl=>?_
  obtain ⟨a,b,c⟩:=hX k l (by omega) hl
  exact Cg.mul h (B2u h fun c r hc hr=>(hX c _ (by omega) (Nu hr)).1) (Zq.mul h (Zq.sg h _) b) (Cg.smul h (Zq.sg h _) c) (ih fun c r hc hr=>hX c _ (by omega) (Nu hr))
theorem Cg.eq{a b:Nat}(ha:a<p)(hb:b<p)(hc:Cg p ((a:Int):Rat) ((b:Int):Rat)):a=b:=by
 obtain ⟨d,d1,w,d2⟩:=hc
 have e:((a:Int)-b)*d=p*w:=by
  have:((((a:Int)-(b:Int))*d:Int):Rat)=(((p:Int)*w:Int):Rat):=by
   rw [B8g,B8g,Rat.intCast_sub];exact d2
  exact_mod_cast this
 rcases h.imul (show (p:Int)∣((a:Int)-b)*d from ⟨w,e⟩) with c|c
 ·obtain ⟨z,hz⟩:=c
  rcases Int.lt_trichotomy z 0 with q|q|q
  ·have:(p:Int)*z<=(p:Int)*(-1):=B9d (by omega) (by omega)
   omega
  ·rw [q] at hz;omega
  ·have:(p:Int)*1<=(p:Int)*z:=B9d (by omega) (by omega)
   omega
 ·exact absurd c d1
theorem Cg.mod(a:Int):Cg p ((a%p:Int):Rat) (a:Rat):=by
 refine ⟨1,h.nd1,-(a/p),?_⟩
 have e:=Int.mul_ediv_add_emod a p
 have:(a%p:Int)=a-p*(a/p):=by omega
 rw [this,Rat.intCast_sub,B8g,Rat.intCast_neg]
 have h1:((1:Int):Rat)=1:=rfl
 rw [h1]
 grind
theorem Cg.of{a b:Int}(e:a%p=b%p):Cg p (a:Rat) (b:Rat):=by
 have h1:=Cg.mod h a
 have h2:=Cg.mod h b
 rw [e] at h1
 exact Cg.trans h (Cg.symm h1) h2
end
end Go.Proofs.YtajkakhfcokljaaGreatDoor
namespace Go.Proofs.YtajkakhfcokljaaGreatDoor
set_option maxRecDepth 20000
structure MS where
 X:Nat->Nat->Nat
 pr:Nat
 rk:Nat
def B0a(X:Nat->Nat->Nat)(n r c:Nat):Nat:=fnd (fun i=>decide (X i c≠0)) (n-r) r
def Ue(p x:Nat):Nat:=x^(p-2)%p
def Vy(p:Nat)(X:Nat->Nat->Nat)(r c b:Nat):Nat:=if b<c then X r b else X r b*Ue p (X r c)%p
def U4(p:Nat)(X:Nat->Nat->Nat)(r c:Nat):Nat->Nat->Nat:=fun a b=>
 if a=r then Vy p X r c b else if a<r\/b<c then X a b else (X a b+(p-X a c)%p*Vy p X r c b)%p
def Ws(p n c:Nat)(s:MS):MS:=
 if B0a s.X n s.rk c<n then
  { X:=U4 p (fun i=>s.X (xch s.rk (B0a s.X n s.rk c) i)) s.rk c
    pr:=(if B0a s.X n s.rk c=s.rk then s.pr else (p-s.pr)%p)*s.X (B0a s.X n s.rk c) c%p
    rk:=s.rk+1 }
 else s
def A3w(p n:Nat)(s:MS):Nat->MS
 | 0=>s
 | c+1=>Ws p n c (A3w p n s c)
def XR(X:Nat->Nat->Nat):Nat->Nat->Rat:=fun i j=>((X i j:Int):Rat)
section
variable {p:Nat} (h:Prm p)
include h
theorem Ql(u:Nat):Cg p (((u%p:Nat):Int):Rat) ((u:Int):Rat):=by
 have:=Cg.mod h (u:Int)
 rwa [<- Int.natCast_emod] at this
theorem Prm.ndn{x:Nat}(h0:x≠0)(hx:x<p):¬ p∣x:=fun c=>by
 have _:=h
 have:=B95 (by omega) c
 omega
theorem A1q{x:Nat}(h0:x≠0)(hx:x<p):Cg p (((x:Int):Rat)*((Ue p x:Int):Rat)) 1:=by
 have e:=h.inv (h.ndn h0 hx)
 have hp:=h.1
 have e2:((x*Ue p x:Nat):Int)%p=(1:Int)%p:=by
  rw [<- Int.natCast_emod]
  have:x*Ue p x%p=1:=by
   unfold Ue
   rw [B8m,B9e]
   exact e
  rw [this]
  have:(1:Int)%(p:Int)=1:=Int.emod_eq_of_lt (by decide) (by omega)
  rw [this]
  rfl
 have:=Cg.of h e2
 rw [B8l,B8g] at this
 exact this
theorem A9f{n r c:Nat}{X:Nat->Nat->Nat}(hr:r<n)(hc:c<n)(hX:∀ i j,i<n->j<n->X i j<p)(hne:X r c≠0)(hz:∀ b,b<c->X r b=0):Cg p (((X r c:Int):Rat)*dt n (XR (U4 p X r c))) (dt n (XR X)):=by
 have iv:=A1q h hne (hX r c hr hc)
 generalize hiv:((Ue p (X r c):Int):Rat)=v at iv
 have zv:Zq p v:=by rw [<- hiv];exact Zq.int h _
 have zX:∀ i j,Zq p (XR X i j):=fun i j=>Zq.int h _
 let f:Nat->Rat:=fun a=>if a<r then 0 else (((p-X a c)%p:Nat):Int)
 have zf:∀ a,Zq p (f a):=fun a=>by
  show Zq p (if a<r then 0 else _)
  split
  ·exact Zq.int h 0
  ·exact Zq.int h _
 have h1:=(A6b n).shears (rc (XR X) r fun b=>v*XR X r b) hr f n (B8j n)
 rw [Kn (XR X) hr,Ea] at h1
 have h2:Cg p (dt n (XR (U4 p X r c))) (v*dt n (XR X)):=by
  rw [<- h1]
  have scl:∀ b,Cg p ((Vy p X r c b:Int):Rat) (v*XR X r b):=fun b=>by
   unfold Vy
   by_cases q:b<c
   ·rw [if_pos q]
    unfold XR
    rw [hz b q]
    have:(((0:Nat):Int):Rat)=0:=rfl
    rw [this,B8u]
    exact Cg.refl h _
   ·rw [if_neg q]
    have:=Ql h (X r b*Ue p (X r c))
    rw [B8l,B8g,hiv,B8p _ v] at this
    exact this
  refine B51 h fun a b ha hb=>⟨Zq.int h _,?_,?_⟩
  ·split
   ·refine Zq.add h ?_ (Zq.mul h (zf a) ?_)
    ·unfold rc;split
     ·exact Zq.mul h zv (zX r b)
     ·exact zX a b
    ·unfold rc;rw [if_pos rfl];exact Zq.mul h zv (zX r b)
   ·unfold rc;split
    ·exact Zq.mul h zv (zX r b)
    ·exact zX a b
  ·show Cg p ((U4 p X r c a b:Int):Rat) _
   unfold U4
   by_cases q:a=r
   ·rw [if_pos q,if_neg (by omega)]
    unfold rc
    rw [if_pos q]
    exact scl b
   ·rw [if_neg q,if_pos (show a<n/\a≠r from ⟨ha,q⟩)]
    unfold rc
    rw [if_neg q,if_pos rfl]
    by_cases q2:a<r\/b<c
    ·rw [if_pos q2]
     have e0:f a*(v*XR X r b)=0:=by
      rcases q2 with q2|q2
      ·show (if a<r then (0:Rat) else _)*_=0
       rw [if_pos q2,B8y]
      ·unfold XR
       rw [hz b q2]
       have:(((0:Nat):Int):Rat)=0:=rfl
       rw [this,B8u,B8u]
     rw [e0,Rat.add_zero]
     exact Cg.refl h _
    ·rw [if_neg q2]
     refine Cg.trans h (Ql h _) ?_
     rw [Int.natCast_add,B8l,B8n,B8g]
     refine Cg.add h (Cg.refl h _) ?_
     have:f a=((((p-X a c)%p:Nat):Int):Rat):=if_neg (by omega)
     rw [this]
     exact Cg.smul h (Zq.int h _) (scl b)
 refine Cg.trans h (Cg.smul h (Zq.int h _) h2) ?_
 have zd:Zq p (dt n (XR X)):=B2u h fun c r _ _=>Zq.int h _
 have h3:=Cg.smul h zd iv
 rw [B8s] at h3
 rw [<- Rat.mul_assoc,B8p]
 exact h3
structure NRm (p n c:Nat) (A0:Nat->Nat->Rat) (s:MS):Prop where
 lt:∀ i j,i<n->j<n->s.X i j<p
 le:s.rk<=c
 len:s.rk<=n
 zero:∀ i j,i<n->s.rk<=i->j<c->s.X i j=0
 prlt:s.pr<p
 val:∃ y:Int,Cg p (dt n A0) ((y:Rat)*dt n (XR s.X))/\(s.rk=c->Cg p (y:Rat) ((s.pr:Int):Rat)/\∀ m,m<c->s.X m m=1/\∀ j,j<m->s.X m j=0)
theorem A4s{X:Nat->Nat->Nat}{r c b:Nat}(hX:X r b<p):Vy p X r c b<p:=by
 have _:=h
 unfold Vy
 split
 ·exact hX
 ·exact B97 _ (by omega)
theorem NRm.step{n c:Nat}{A0:Nat->Nat->Rat}{s:MS}(r:NRm p n c A0 s)(hc:c<n):NRm p n (c+1) A0 (Ws p n c s):=by
 have hp:=h.1
 have hlen:=Xo (fun i=>decide (s.X i c≠0)) (n-s.rk) s.rk
 have hmiss:=Nb (fun i=>decide (s.X i c≠0)) (n-s.rk) s.rk
 have hhit:=On (fun i=>decide (s.X i c≠0)) (n-s.rk) s.rk
 have hR:fnd (fun i=>decide (s.X i c≠0)) (n-s.rk) s.rk=B0a s.X n s.rk c:=rfl
 rw [hR] at hlen hmiss hhit
 have rle:=r.le
 have rlen:=r.len
 obtain ⟨y,hy,hy2⟩:=r.val
 unfold Ws
 generalize B0a s.X n s.rk c=w at *
 by_cases hw:w<n
 ·rw [if_pos hw]
  have hk:s.rk<n:=by omega
  have hne:s.X w c≠0:=by have:=hhit (by omega);simpa using this
  have xl:=Fj s.rk w
  have xlt:∀ i,i<n->xch s.rk w i<n:=fun i hi=>Kv hk hw hi
  have hX': ∀ i j,i<n->j<n->s.X (xch s.rk w i) j<p:=fun i j hi hj=>r.lt _ j (xlt i hi) hj
  have hz:∀ b,b<c->s.X (xch s.rk w s.rk) b=0:=fun b hb=>by rw [xl];exact r.zero w b hw hlen.1 hb
  have hd:=A9f h (c:=c) hk hc hX' (by rw [xl];exact hne) hz
  rw [xl] at hd
  have hsw:dt n (XR fun i=>s.X (xch s.rk w i))=(if w=s.rk then 1 else -1)*dt n (XR s.X):=by
   by_cases q:w=s.rk
   ·rw [if_pos q,B8r]
    refine H1 fun a b _ _=>?_
    show ((s.X (xch s.rk w a) b:Int):Rat)=((s.X a b:Int):Rat)
    rw [q]
    unfold xch
    by_cases q2:a=s.rk
    ·rw [if_pos q2,q2]
    ·rw [if_neg q2,if_neg q2]
   ·rw [if_neg q]
    have:=B0x hk hw (Ne.symm q) (XR s.X)
    rw [show (XR fun i=>s.X (xch s.rk w i))=fun i=>XR s.X (xch s.rk w i) from rfl,this]
    grind
  rw [hsw] at hd
  refine ⟨fun i j hi hj=>?_,by show s.rk+1<=c+1;omega,by show s.rk+1<=n;omega,fun i j hi hki hj=>?_,B97 _ (by omega),(if w=s.rk then 1 else -1)*y*s.X w c,?_,fun hl=>?_⟩
  ·show U4 p (fun i=>s.X (xch s.rk w i)) s.rk c i j<p
   unfold U4
   split
   ·exact A4s h (hX' _ _ hk hj)
   ·split
    ·exact hX' _ _ hi hj
    ·exact B97 _ (by omega)
  ·show U4 p (fun i=>s.X (xch s.rk w i)) s.rk c i j=0
   have hki':s.rk+1<=i:=hki
   have hzi:∀ b,b<c->s.X (xch s.rk w i) b=0:=fun b hb=>r.zero _ b (xlt i hi) (A18 hlen.1 (by omega)) hb
   unfold U4
   rw [if_neg (by omega)]
   by_cases q:i<s.rk\/j<c
   ·rw [if_pos q];exact hzi j (by omega)
   ·have ej:j=c:=by omega
    rw [if_neg q,ej]
    have hv:=hX' i c hi hc
    have hu:=r.lt w c hw hc
    unfold Vy
    rw [if_neg (Nat.lt_irrefl c)]
    simp only [xl]
    have hinv:s.X w c*Ue p (s.X w c)%p=1:=by
     unfold Ue
     rw [B8m,B9e]
     exact h.inv (h.ndn hne hu)
    rw [hinv,Nat.mul_one]
    by_cases q0:s.X (xch s.rk w i) c=0
    ·rw [q0,Nat.sub_zero,Nat.mod_self];exact Nat.zero_mod p
    ·rw [B8q (show p-s.X (xch s.rk w i) c<p by omega),show s.X (xch s.rk w i) c+(p-s.X (xch s.rk w i) c)=p by omega,Nat.mod_self]
  ·refine Cg.trans h hy ?_
   have h3:=Cg.smul h (Zq.int h ((if w=s.rk then 1 else -1)*y)) hd
   refine Cg.symm ?_
   rw [B8g ((if w=s.rk then 1 else -1)*y),Rat.mul_assoc]
   show Cg p ((((if w=s.rk then 1 else -1)*y:Int):Rat)*(((s.X w c:Int):Rat)*dt n (XR (U4 p (fun i=>s.X (xch s.rk w i)) s.rk c)))) _
   refine Cg.trans h h3 ?_
   rw [B8g]
   have e1:(((if w=s.rk then 1 else -1:Int)):Rat)*(y:Rat)*((if w=s.rk then 1 else -1)*dt n (XR s.X))=(y:Rat)*dt n (XR s.X):=by
    by_cases q:w=s.rk
    ·rw [if_pos q,if_pos q]
     have:((1:Int):Rat)=1:=rfl
     rw [this];grind
    ·rw [if_neg q,if_neg q]
     have:((-1:Int):Rat)= -1:=by decide +kernel
     rw [this];grind
   rw [e1]
   exact Cg.refl h _
  ·have hl':s.rk=c:=by have:s.rk+1=c+1:=hl;omega
   obtain ⟨g1,g2⟩:=hy2 hl'
   refine ⟨?_,fun m hm=>?_⟩
   ·show Cg p ((((if w=s.rk then 1 else -1)*y*s.X w c:Int)):Rat) ((((if w=s.rk then s.pr else (p-s.pr)%p)*s.X w c%p:Nat):Int):Rat)
    refine Cg.trans h ?_ (Cg.symm (Ql h _))
    rw [B8l,B8g,B8g _ (s.X w c:Int),B8p,B8p _ ((s.X w c:Int):Rat)]
    refine Cg.smul h (Zq.int h _) ?_
    by_cases q:w=s.rk
    ·rw [if_pos q,if_pos q,Int.one_mul];exact g1
    ·rw [if_neg q,if_neg q]
     refine Cg.trans h ?_ (Cg.symm (Ql h _))
     have e1:(((p-s.pr:Nat):Int):Rat)=((p:Int):Rat)+((-1:Int):Rat)*((s.pr:Int):Rat):=by
      rw [<- B8g,<- B8n]
      congr 1
      have:=r.prlt
      omega
     rw [e1,B8g]
     have h0:Cg p 0 ((p:Int):Rat):=⟨1,h.nd1,-1,by
      have a1:((1:Int):Rat)=1:=rfl
      have a2:((-1:Int):Rat)= -1:=by decide +kernel
      rw [a1,a2];grind⟩
     have h4:=Cg.add h h0 (Cg.smul h (Zq.int h (-1)) g1)
     rw [Rat.zero_add] at h4
     exact h4
   ·show U4 p (fun i=>s.X (xch s.rk w i)) s.rk c m m=1/\∀ j,j<m->U4 p (fun i=>s.X (xch s.rk w i)) s.rk c m j=0
    unfold U4
    by_cases q:m=s.rk
    ·have hu:=r.lt w c hw hc
     refine ⟨?_,fun j hj=>?_⟩
     ·rw [if_pos q,q]
      unfold Vy Ue
      rw [if_neg (by omega)]
      have e1:s.X (xch s.rk w s.rk) s.rk=s.X w c:=by rw [xl,hl']
      have e2:s.X (xch s.rk w s.rk) c=s.X w c:=by rw [xl]
      simp only [e1,e2]
      rw [B8m,B9e]
      exact h.inv (h.ndn hne hu)
     ·rw [if_pos q]
      unfold Vy
      rw [if_pos (by omega)]
      exact hz j (by omega)
    ·have hm':m<s.rk:=by omega
     refine ⟨?_,fun j hj=>?_⟩
     ·rw [if_neg q,if_pos (.inl hm')];show s.X (xch s.rk w m) m=1;rw [Hq hlen.1 hm'];exact (g2 m (by omega)).1
     ·rw [if_neg q,if_pos (.inl hm')];show s.X (xch s.rk w m) j=0;rw [Hq hlen.1 hm'];exact (g2 m (by omega)).2 j hj
 ·rw [if_neg hw]
  have hwn:w=n:=by omega
  refine ⟨r.lt,by show s.rk<=c+1;omega,rlen,fun i j hi hki hj=>?_,r.prlt,y,hy,fun hl=>by have:s.rk=c+1:=hl;omega⟩
  by_cases q:j<c
  ·exact r.zero i j hi hki q
  ·have ej:j=c:=by omega
   have:=hmiss i hki (by omega)
   rw [ej]
   simpa using this
theorem NRm.run{n:Nat}{X:Nat->Nat->Nat}(hX:∀ i j,i<n->j<n->X i j<p):∀ c,c<=n->NRm p n c (XR X) (A3w p n ⟨X,1,0⟩ c):=by
 have hp:=h.1
 intro c
 induction c with
 | zero=>exact fun _=>⟨hX,B8j _,Nat.zero_le _,fun i j _ _ hj=>by omega,by show 1<p;omega,1,by
  have a1:((1:Int):Rat)=1:=rfl
  rw [a1,B8r];exact Cg.refl h _,fun _=>⟨Cg.refl h _,fun m hm=>by omega⟩⟩
 | succ c ih=>exact fun hc=>NRm.step h (ih (by omega)) (by omega)
omit h in
theorem B4y:∀ n (X:Nat->Nat->Rat),(∀ m,m<n->X m m=1/\∀ j,j<m->X m j=0)->dt n X=1:=by
 intro n
 induction n with
 | zero=>intro X _;rfl
 | succ n ih=>
  intro X hX
  rw [A0i X fun r hr=>(hX n (by omega)).2 r hr,ih X fun m hm=>hX m (by omega),(hX n (by omega)).1,B8s]
theorem NRm.det{n:Nat}{A0:Nat->Nat->Rat}{s:MS}(r:NRm p n n A0 s):Cg p (dt n A0) (((if s.rk<n then 0 else s.pr:Nat):Int):Rat):=by
 obtain ⟨y,hy,hy2⟩:=r.val
 have:=r.len
 by_cases q:s.rk<n
 ·rw [if_pos q]
  rw [A69 (X:=XR s.X) (i:=n-1) (by omega) fun j hj=>by unfold XR;rw [r.zero (n-1) j (by omega) (by omega) hj];rfl,B8u] at hy
  exact hy
 ·rw [if_neg q]
  obtain ⟨g1,g2⟩:=hy2 (by omega)
  rw [B4y n (XR s.X) fun m hm=>⟨by unfold XR;rw [(g2 m hm).1];rfl,fun j hj=>by unfold XR;rw [(g2 m hm).2 j hj];rfl⟩,B8s] at hy
  exact Cg.trans h hy g1
end
end Go.Proofs.YtajkakhfcokljaaGreatDoor
