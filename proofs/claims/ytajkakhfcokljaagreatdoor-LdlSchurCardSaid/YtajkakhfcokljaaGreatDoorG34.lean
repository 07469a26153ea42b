/-
  Texts of this proof, merged by a program of ours.
-/
import Derived.Test.YtajkakhfcokljaaGreatDoorG33
open Go.Proofs.Tryz
open Nat renaming add_sub_cancel_left->C6d,zero_add->C6f,le_trans->C6g,mul_le_mul->C6h
open Rat renaming mul_comm->C6e
namespace Go.Proofs.YtajkakhfcokljaaGreatDoor
set_option maxRecDepth 20000
theorem B0j{n:Nat}(p:Nat->Rat)(q:Rat):sm n (fun t=>p t*q)=(sm n p)*q:=by
 rw [C6e,<- Bm]
 exact C4 fun t _=>C6e _ _
theorem B28{n k:Nat}(u:Nat->Nat->Rat)(f x:Nat->Rat):(sm n fun j=>(sm k fun t=>u j t*f t)*x j)=sm k fun t=>f t*sm n fun j=>u j t*x j:=by
 have e:(sm n fun j=>(sm k fun t=>u j t*f t)*x j)=sm n fun j=>sm k fun t=>f t*(u j t*x j):=C4 fun j _=>by
  rw [<- B0j]
  exact C4 fun t _=>by grind
 rw [e,Sl]
 exact C4 fun t _=>Bm n _ _
theorem Ws(k:Nat)(f:Nat->Rat):∀ l,sm (k+l) f=sm k f+sm l fun j=>f (k+j):=by
 intro l
 induction l with
 | zero=>show sm k f=sm k f+0;rw [Rat.add_zero]
 | succ l ih=>
  show sm (k+l) f+f (k+l)=sm k f+(sm l (fun j=>f (k+j))+f (k+l))
  rw [ih,Rat.add_assoc]
theorem Zb(d d':Nat->Rat)(k:Nat):∀ l,Ch (fun m=>if m<k then d m else d' (m-k)) (k+l)=Ch d k+Ch d' l:=by
 have base:∀ j,j<=k->Ch (fun m=>if m<k then d m else d' (m-k)) j=Ch d j:=by
  intro j
  induction j with
  | zero=>exact fun _=>rfl
  | succ j ih=>
   intro h
   rw [Ch,Ch,ih (by omega),if_pos (show j<k by omega)]
 intro l
 induction l with
 | zero=>rw [Nat.add_zero,base k (Nat.le_refl k)];rfl
 | succ l ih=>
  rw [<- Nat.add_assoc,Ch,ih,Ch,if_neg (show ¬ k+l<k by omega),C6d]
  omega
theorem A6f(d d':Nat->Rat)(k l:Nat):Jc (fun m=>if m<k then d m else d' (m-k)) (k+l)=Jc d k+Jc d' l:=by
 rw [Sv,Sv,Sv,<- Zb]
 congr 1
 funext m
 split<;>rfl
theorem B5q(d d':Nat->Rat)(k l:Nat):B4o (fun m=>if m<k then d m else d' (m-k)) (k+l)=B4o d k+B4o d' l:=by
 have h1:=B7j (fun m=>if m<k then d m else d' (m-k)) (k+l)
 have h2:=B7j d k
 have h3:=B7j d' l
 have:=Zb d d' k l
 have:=A6f d d' k l
 omega
theorem A9h{k l:Nat}{A S V:Nat->Nat->Rat}{d d':Nat->Rat}{F F':Nat->Nat->Rat}(hs:A13 (k+l) A)(hV:∀ i j,i<k->j<l->sm k (fun t=>A i t*V t j)=A i (k+j))(hS:∀ i j,i<l->j<l->S i j=A (k+i) (k+j)-sm k fun t=>A (k+i) t*V t j)
 (D:Diag k A d F) (D':Diag l S d' F'):Diag (k+l) A (fun m=>if m<k then d m else d' (m-k)) (fun m j=>if m<k then (if j<k then F m j else sm k fun t=>F m t*V t (j-k)) else if j<k then 0 else F' (m-k) (j-k)):=by
 have evc:∀ (f:Nat->Rat) (x:Nat->Rat),(sm l fun j=>(sm k fun t=>f t*V t j)*x (k+j))=sm k fun t=>f t*sm l fun j=>V t j*x (k+j):=fun f x=>by
  have:=B28 (n:=l) (k:=k) (fun j t=>V t j) f (fun j=>x (k+j))
  rw [<- this]
  exact C4 fun j _=>by
   congr 1
   exact C4 fun t _=>C6e _ _
 have ev1:∀ m x,m<k->ev (k+l) (fun j=>if m<k then (if j<k then F m j else sm k fun t=>F m t*V t (j-k)) else if j<k then 0 else F' (m-k) (j-k)) x=ev k (F m) (fun t=>x t+sm l fun j=>V t j*x (k+j)):=fun m x hm=>by
  unfold ev
  rw [Ws]
  have e1:(sm k fun j=>(if m<k then (if j<k then F m j else sm k fun t=>F m t*V t (j-k)) else if j<k then 0 else F' (m-k) (j-k))*x j)=sm k fun j=>F m j*x j:=C4 fun j hj=>by rw [if_pos hm,if_pos hj]
  have e2:(sm l fun j=>(if m<k then (if k+j<k then F m (k+j) else sm k fun t=>F m t*V t (k+j-k)) else if k+j<k then 0 else F' (m-k) (k+j-k))*x (k+j))=sm l fun j=>(sm k fun t=>F m t*V t j)*x (k+j):=C4 fun j _=>by rw [if_pos hm,if_neg (by omega),C6d]
  rw [e1,e2,evc,<- Q1]
  exact C4 fun t _=>by grind
 have ev2:∀ m x,ev (k+l) (fun j=>if k+m<k then (if j<k then F (k+m) j else sm k fun t=>F (k+m) t*V t (j-k)) else if j<k then 0 else F' (k+m-k) (j-k)) x=ev l (F' m) (fun j=>x (k+j)):=fun m x=>by
  unfold ev
  rw [Ws,Dr fun j hj=>by dsimp only;rw [if_neg (by omega),if_pos hj,Rat.zero_mul],Rat.zero_add]
  exact C4 fun j _=>by dsimp only;rw [if_neg (by omega),if_neg (by omega),C6d,C6d]
 have main:∀ x,qf (k+l) A x=qf k A (fun t=>x t+sm l fun j=>V t j*x (k+j))+qf l S (fun j=>x (k+j)):=fun x=>by
  unfold qf
  generalize hz:(fun t=>sm l fun j=>V t j*x (k+j))=z
  have ez:∀ t,(sm l fun j=>V t j*x (k+j))=z t:=fun t=>by rw [<- hz]
  simp only [ez]
  have r1:∀ i,i<k->(sm (k+l) fun j=>A i j*x j)=sm k fun t=>A i t*(x t+z t):=fun i hi=>by
   rw [Ws]
   have e1:(sm l fun j=>A i (k+j)*x (k+j))=sm l fun j=>(sm k fun t=>A i t*V t j)*x (k+j):=C4 fun j hj=>by rw [hV i j hi hj]
   rw [e1,evc (A i) x,<- Q1]
   exact C4 fun t _=>by rw [ez];grind
  have r2:∀ i,i<l->(sm (k+l) fun j=>A (k+i) j*x j)=(sm k fun t=>A (k+i) t*(x t+z t))+sm l fun j=>S i j*x (k+j):=fun i hi=>by
   rw [Ws]
   have e1:(sm l fun j=>A (k+i) (k+j)*x (k+j))=(sm l fun j=>(sm k fun t=>A (k+i) t*V t j)*x (k+j))+sm l fun j=>S i j*x (k+j):=by
    rw [<- Q1]
    exact C4 fun j hj=>by rw [hS i j hi hj];grind
   rw [e1,evc (A (k+i)) x,<- Rat.add_assoc,<- Q1]
   congr 1
   exact C4 fun t _=>by rw [ez];grind
  rw [Ws,C4 (n:=k) fun i hi=>by rw [r1 i hi],C4 (n:=l) fun i hi=>by rw [r2 i hi,Rat.mul_add]]
  rw [Q1,<- Rat.add_assoc]
  congr 1
  have e2:(sm l fun i=>x (k+i)*sm k fun t=>A (k+i) t*(x t+z t))=sm k fun s=>z s*sm k fun t=>A s t*(x t+z t):=by
   have e3:∀ i,i<l->(x (k+i)*sm k fun t=>A (k+i) t*(x t+z t))=(sm k fun s=>(sm k fun t=>A s t*(x t+z t))*V s i)*x (k+i):=fun i hi=>by
    rw [C6e]
    congr 1
    have e4:(sm k fun t=>A (k+i) t*(x t+z t))=sm k fun t=>(sm k fun s=>A s t*V s i)*(x t+z t):=C4 fun t ht=>by
     rw [hs (k+i) t (by omega) (by omega),<- hV t i ht hi]
     congr 1
     exact C4 fun s hs'=>by rw [hs t s (by omega) (by omega)]
    rw [e4,B28 (fun t s=>A s t) (fun s=>V s i)]
    exact C4 fun s _=>C6e _ _
   rw [C4 e3,evc (fun s=>sm k fun t=>A s t*(x t+z t)) x]
   exact C4 fun s _=>by rw [ez,C6e]
  rw [e2,<- Q1]
  exact C4 fun s _=>by grind
 refine ⟨fun x=>?_,fun x hx j hj=>?_⟩
 ·rw [main,D.val,D'.val,Ws]
  congr 1
  ·exact C4 fun m hm=>by rw [if_pos hm,ev1 m x hm]
  ·exact C4 fun m _=>by rw [if_neg (show ¬ k+m<k by omega),ev2 m x,C6d]
 ·have h2:∀ j,j<l->x (k+j)=0:=D'.inj (fun j=>x (k+j)) fun m hm=>by rw [<- ev2 m x];exact hx (k+m) (by omega)
  have h1:∀ j,j<k->x j+(sm l fun i=>V j i*x (k+i))=0:=D.inj (fun t=>x t+sm l fun j=>V t j*x (k+j)) fun m hm=>by rw [<- ev1 m x hm];exact hx m (by omega)
  by_cases c:j<k
  ·have:=h1 j c
   rw [Dr fun i hi=>by rw [h2 i hi,Rat.mul_zero],Rat.add_zero] at this
   exact this
  ·have:=h2 (j-k) (by omega)
   rwa [show k+(j-k)=j by omega] at this
def Cq(ls:Nat->List UInt8)(q a b w:Nat):Nat->List UInt8:=fun t=>ls ((a+t/w)*q+(b+t%w))
theorem Lw(ls:Nat->List UInt8)(q a b:Nat){w i j:Nat}(hj:j<w):mtx (rvs (Cq ls q a b w)) w i j=mtx (rvs ls) q (a+i) (b+j):=by
 obtain ⟨e1,e2⟩:=R5 (n:=w) (i:=i) hj
 show rv (ls ((a+(i*w+j)/w)*q+(b+(i*w+j)%w)))=_
 rw [e1,e2]
 rfl
def Qo(ls:Nat->List UInt8)(q k:Nat):Nat->Rat:=rvs (Cq ls q 0 0 k)
def A81(ls:Nat->List UInt8)(q k:Nat):Nat->Nat->Rat:=fun i j=>mtx (rvs ls) q (k+i) (k+j)-sm k fun t=>(sm k fun s=>mtx (rvs ls) q (k+i) s*Od (Qo ls q k) k s t)*mtx (rvs ls) q t (k+j)
def C69(r c:Int)(n:Nat)(ls:Nat->List UInt8)(z:Int)(o:MOut):Prop:=
 (∃ e,SqE r c n ls e/\o=noM e)\/(∃ q,B3j r c n ls q/\((¬ (1<=z/\z<q)/\o=noM 3)\/∃ k l:Nat,z=k/\1<=k/\1<=l/\q=k+l/\((¬ Vk (Qo ls q k) k/\o=noM 7)\/(Vk (Qo ls q k) k/\o=⟨(l:Int),(l:Int),l*l,W8 (A81 ls q k) l,0⟩))))
theorem A4n{a b w t k l q:Nat}(ha:a+k<=q)(hb:b+w<=q)(ht:t<k*w):(a+t/w)*q+(b+t%w)<q*q:=by
 have hw:0<w:=by
  rcases Nat.eq_zero_or_pos w with h|h
  ·rw [h] at ht;omega
  ·exact h
 exact P7 (by have:=Nat.div_lt_of_lt_mul (show t<w*k by rw [Nat.mul_comm];exact ht);omega) (by have:=Nat.mod_lt t hw;omega)
section
variable {r c:Int} {n q k l:Nat} {ls:Nat->List UInt8}
theorem MOk.part(mk:MOk r c n ls q q){a b k w:Nat}(hk:1<=k)(hw:1<=w)(ha:a+k<=q)(hb:b+w<=q):MOk (k:Int) (w:Int) (k*w) (Cq ls q a b w) k w:=
 ⟨rfl,rfl,hk,by have:=mk.r2;omega,hw,by have:=mk.r2;omega,rfl,fun i hi=>mk.num _ (by rw [mk.len];exact A4n (l:=0) ha hb hi)⟩
theorem Ys(k:Nat)(A V:Nat->Nat->Rat)(f:Nat->Rat)(j:Nat):(sm k fun t=>(sm k fun s=>f s*V s t)*A t j)=sm k fun s=>f s*sm k fun t=>V s t*A t j:=by
 have e:(sm k fun t=>(sm k fun s=>f s*V s t)*A t j)=sm k fun t=>sm k fun s=>f s*(V s t*A t j):=C4 fun t _=>by
  rw [<- B0j]
  exact C4 fun s _=>by grind
 rw [e,Sl]
 exact C4 fun s _=>Bm k _ _
theorem B0n(h:Vk (Qo ls q k) k){i:Nat}(hi:i<k)(j:Nat):sm k (fun t=>mtx (rvs ls) q i t*(sm k fun s=>Od (Qo ls q k) k t s*mtx (rvs ls) q s j))=mtx (rvs ls) q i j:=by
 rw [<- Ys]
 have e:∀ t,t<k->(sm k fun s=>mtx (rvs ls) q i s*Od (Qo ls q k) k s t)=if i=t then 1 else 0:=fun t ht=>by
  rw [<- B9w h hi ht]
  refine C4 fun s hs=>?_
  congr 1
  have:=Lw ls q 0 0 (w:=k) (i:=i) hs
  rw [C6f,C6f] at this
  exact this.symm
 rw [Hj hi fun t ht hne=>by rw [e t ht,if_neg (fun x=>hne x.symm),Rat.zero_mul],e i hi,if_pos rfl,Rat.one_mul]
theorem B5g(hs:A13 q (mtx (rvs ls) q))(hq:q=k+l)(h:Vk (Qo ls q k) k){i j:Nat}(hi:i<l)(hj:j<l):A81 ls q k i j=A81 ls q k j i:=by
 unfold A81
 rw [Ys,Ys,hs (k+i) (k+j) (by omega) (by omega)]
 congr 1
 have e:∀ a b,a<l->b<l->(sm k fun s=>mtx (rvs ls) q (k+a) s*sm k fun t=>Od (Qo ls q k) k s t*mtx (rvs ls) q t (k+b))=sm k fun s=>sm k fun t=>(sm k fun u=>Od (Qo ls q k) k t u*mtx (rvs ls) q u (k+a))*(mtx (rvs ls) q s t*sm k fun u=>Od (Qo ls q k) k s u*mtx (rvs ls) q u (k+b)):=fun a b ha hb=>C4 fun s hs'=>by
  rw [hs (k+a) s (by omega) (by omega),<- B0n h hs' (k+a),<- B0j]
  exact C4 fun t _=>by grind
 rw [e i j hi hj,e j i hj hi,Sl]
 refine C4 fun t ht=>C4 fun s hs'=>?_
 rw [hs t s (by omega) (by omega)]
 grind
end
section
variable {h:Heap} {K:VP} {A:Option Addr} {n cap q:Nat} {r c:Int} {ls:Nat->List UInt8}
theorem Jk(rv':RowV SSr h A n ls)(mk:MOk r c n ls q q)(hcap:n<=cap){a b k w:Nat}(hk:1<=k)(hw:1<=w)(ha:a+k<=q)(hb:b+w<=q){z1 z2 z3 z4:Int}(e1:z1=a)(e2:z2=(a+k:Nat))(e3:z3=b)(e4:z4=(b+w:Nat))
 (hK:∀ A' c' h',h.le h'->RowV SSr h' A' (k*w) (Cq ls q a b w)->K (Oc k w A' (k*w) c') h'):FCall prog Pe #[Oc r c A n cap,I z1,I z2,I z3,I z4] h K:=by
 subst e1 e2 e3 e4
 have hq:=mk.r2
 obtain ⟨rfl,rfl,_,_,_,_,rfl,hnum⟩:=id mk
 refine B78 _ _ _ _ _ _ _ _ _ ?_
 unfold C3h
 have hqq:q*q<=64*64:=C6h hq hq
 rw [show B7 (((a+k:Nat):Int)-(a:Int))=(k:Int) by rw [B9]<;>omega,show B7 (((b+w:Nat):Int)-(b:Int))=(w:Int) by rw [B9]<;>omega]
 refine ⟨fun L hp=>∃ (i:Nat) (g o:Heap) (xs:List (List UInt8)) (A':Option Addr) (c':Nat),i<=k/\L=[I ((a+i:Nat):Int),I (k:Int),I (w:Int),.slice A' (i*w) c']/\h.le g/\Sep hp g o/\OwnSl o O7 A' c' xs/\xs.length=i*w/\∀ t,t<i*w->xs[t]? = some (Cq ls q a b w t),fun L _=>a+k-(iAt L 0).toNat,⟨0,h,Cr,[],none,0,by omega,by rw [Nat.zero_mul];rfl,B5 _,Sep.refl h,OwnSl.nil,(Nat.zero_mul w).symm,fun t ht=>by omega⟩,?_⟩
 rintro z u0 u1 bA bn bc hp ⟨i,g,o,xs,A',c',hi,eL,lg,s,ow,hxl,hx⟩
 simp only [List.cons.injEq,Value.int.injEq,Value.slice.injEq,true_and,and_true] at eL
 obtain ⟨rfl,rfl,rfl,rfl,rfl,rfl⟩:=eL
 refine B8 (fun hlt=>?_) (fun hge=>?_)
 ·have hik:i<k:=by omega
  have h1:(a+i+1)*q<=q*q:=Nat.mul_le_mul_right _ (by omega)
  have h2:(a+i+1)*q=(a+i)*q+q:=by rw [Nat.add_mul,Nat.one_mul]
  have em:B7 (((a+i:Nat):Int)*(q:Int))=(((a+i)*q:Nat):Int):=by rw [<- Int.natCast_mul];exact L5 (by omega)
  have e3:B7 ((((a+i)*q:Nat):Int)+(b:Int))=(((a+i)*q+b:Nat):Int):=by rw [B9]<;>omega
  have e4:B7 ((((a+i)*q:Nat):Int)+((b+w:Nat):Int))=(((a+i)*q+(b+w):Nat):Int):=by rw [B9]<;>omega
  rw [em,e3,e4]
  refine ⟨⟨by omega,by omega⟩,⟨by omega,by simp only [Int.toNat_natCast];omega⟩,?_⟩
  simp only [Int.toNat_natCast]
  have row:RowV SSr hp (K7 A cap ((a+i)*q+b) 1) w (fun j=>ls ((a+i)*q+b+j)):=(rv'.mono T7 (B0 lg s.le)).cut (c:=cap) (l:=(a+i)*q+b) (k:=w) (by omega) hcap
  obtain ⟨ys,sy,hyl,hy⟩:=row
  have hiw:(i+1)*w=i*w+w:=by rw [Nat.add_mul,Nat.one_mul]
  have hiq:(i+1)*w<=q*q:=C6h (by omega) (by omega)
  refine OwnSl.app (ty:=Fg) Bt s ow hxl.symm (show (a+i)*q+(b+w)-((a+i)*q+b)=ys.length by omega) (by rintro rfl;simp at hyl;omega) sy (by omega) (by omega) ?_
  intro A3 c3 h3 g3 o3 l3 s3 ow3 _
  rw [hxl,show (a+i)*q+(b+w)-((a+i)*q+b)=w by omega,<- hiw,show B7 (((a+i:Nat):Int)+1)=((a+(i+1):Nat):Int) by rw [B9]<;>omega]
  refine ⟨_,_,_,rfl,⟨i+1,g3,o3,_,A3,c3,by omega,rfl,B0 lg l3,s3,ow3,by rw [List.length_append,hxl,hyl,hiw],fun t ht=>?_⟩,?_⟩
  ·by_cases c1:t<i*w
   ·rw [List.getElem?_append_left (by omega)];exact hx t c1
   ·obtain ⟨j,rfl⟩:∃ j,t=i*w+j:=⟨t-i*w,by omega⟩
    have hj:j<w:=by omega
    obtain ⟨y,ey,hyy⟩:=hy j hj
    rw [List.getElem?_append_right (by omega),hxl,C6d,ey]
    have hyy':y=ls ((a+i)*q+b+j):=hyy
    obtain ⟨d1,d2⟩:=R5 (n:=w) (i:=i) hj
    unfold Cq
    rw [d1,d2,hyy',Nat.add_assoc]
  ·show a+k-((a+(i+1):Nat):Int).toNat<a+k-((a+i:Nat):Int).toNat
   omega
 ·obtain rfl:i=k:=by omega
  exact hK bA bc hp (B0 lg s.le) ⟨xs,ow.slF s.ole,hxl,fun t ht=>⟨_,hx t ht,rfl⟩⟩
structure SchB (k m:Nat) (B1 B2 B3 B4:Nat):Prop where
 h0:1<=m
 h1:3^k*bnd (k+k) m<=B1
 h2:1+k*(2*B1+1)<=B2
 h3:1+k*(2*B2+1)<=B3
 h4:m<=B1/\B1<=B2/\B2<=B3
 h5:2*B3+2<=B4
 h6:B4<=10000000
theorem B9h{m k l B1 B2 B3 B4:Nat}(hq:q=k+l)(hs:∀ i j,i<q->j<q->Sz m (mtx (rvs ls) q i j))(B:SchB k m B1 B2 B3 B4)(hi:Vk (Qo ls q k) k){i j:Nat}(hil:i<l)(hjl:j<l):Sz B4 (A81 ls q k i j):=by
 have bz:∀ t,t<k*k->Sz m (Qo ls q k t):=fun t ht=>by
  have h0:0<k:=by
   rcases Nat.eq_zero_or_pos k with e|e
   ·rw [e] at ht;omega
   ·exact e
  have h1:=Nat.div_lt_of_lt_mul ht
  have h2:=Nat.mod_lt t h0
  exact hs (0+t/k) (0+t%k) (by omega) (by omega)
 have v1:∀ s t,s<k->t<k->Sz B1 (Od (Qo ls q k) k s t):=fun s t h1 h2=>(B7o B.h0 bz hi s t h1 h2).mono B.h1
 obtain ⟨b1,b2,b3⟩:=B.h4
 have v2:∀ t,t<k->Sz B2 (sm k fun s=>mtx (rvs ls) q (k+i) s*Od (Qo ls q k) k s t):=fun t ht=>(B0i (m:=B1) (f:=fun s=>mtx (rvs ls) q (k+i) s) (f2:=fun s=>Od (Qo ls q k) k s t) (fun s h1=>(hs _ _ (by omega) (by omega)).mono b1) (fun s h1=>v1 s t h1 ht) k (Nat.le_refl _)).mono B.h2
 have v3:=(B0i (m:=B2) (f:=fun t=>sm k fun s=>mtx (rvs ls) q (k+i) s*Od (Qo ls q k) k s t) (f2:=fun t=>mtx (rvs ls) q t (k+j)) v2 (fun t h1=>(hs _ _ (by omega) (by omega)).mono (by omega)) k (Nat.le_refl _)).mono B.h3
 have b5:=B.h5
 exact ((hs (k+i) (k+j) (by omega) (by omega)).sub v3).mono (by omega)
theorem A52{m:Nat}{z:Int}(gl:Gl h)(rv':RowV SSr h A n ls)(hcap:n<=cap)(hn:n<=1000000)(hl:∀ i,i<n->(ls i).length<=100000000)(hs:∀ i,i<n->Sz m (rv (ls i)))(hB:∀ q k,MOk r c n ls q q->1<=k->k<q->∃ B1 B2 B3 B4,SchB k m B1 B2 B3 B4)
 (hK:∀ o,C69 r c n ls z o->∀ A' cap' h',h.le h'->RowV SSr h' A' o.n o.f->K (.tuple #[Oc o.r o.c A' o.n cap',I o.e]) h'):FCall prog A04 #[Oc r c A n cap,I z] h K:=by
 refine B4f _ _ _ _ _ _ ?_
 unfold B8y
 refine Pg gl rv' hn hl ?_ (fun e he h1 l1=>⟨_,_,_,_,rfl,K5 (fun _=>hK (noM e) (.inl ⟨e,he,rfl⟩) none 0 h1 l1 RowV.nil) (fun e0=>by rcases he with ⟨_,x⟩|⟨_,_,x⟩<;>omega)⟩)
 intro q sq b h1 own
 have l1:=own.le
 have mk:=sq.1
 have er:=mk.er
 have q64:=mk.r2
 refine ⟨_,_,_,_,rfl,K5 (fun hne=>absurd rfl hne) (fun _=>?_)⟩
 have bad:¬ (1<=z/\z<q)->K (.tuple #[Oc 0 0 none 0 0,I 3]) h1:=fun hx=>hK (noM 3) (.inr ⟨q,sq,.inl ⟨hx,rfl⟩⟩) none 0 h1 l1 RowV.nil
 refine B8 (fun hz=>bad (fun x=>by omega)) (fun hz=>?_)
 refine B8 (fun hz2=>bad (fun x=>by omega)) (fun hz2=>?_)
 obtain ⟨k,rfl⟩:∃ k:Nat,z=k:=⟨z.toNat,by omega⟩
 obtain ⟨l,hq⟩:∃ l,q=k+l:=⟨q-k,by omega⟩
 have hk1:1<=k:=by omega
 have hl1:1<=l:=by omega
 have good:=fun o ho=>hK o (.inr ⟨q,sq,.inr ⟨k,l,rfl,hk1,hl1,hq,ho⟩⟩)
 obtain ⟨B1,B2,B3,B4,B⟩:=hB q k mk hk1 (by omega)
 obtain ⟨b0,b1,b2,b3,⟨b4,b5,b6⟩,b7,b8⟩:=id B
 have hlen:=mk.len
 have px:∀ {a b k w t:Nat},a+k<=q->b+w<=q->t<k*w->(a+t/w)*q+(b+t%w)<n:=fun h1 h2 h3=>by rw [hlen];exact A4n (l:=0) h1 h2 h3
 have sm0:∀ {k w:Nat},k<=q->w<=q->k*w<=1000000:=fun {k w} h1 h2=>C6g (C6h (show k<=64 by omega) (show w<=64 by omega)) (by decide)
 refine Jk (rv'.mono T7 l1) mk hcap (a:=0) (b:=0) (k:=k) (w:=k) hk1 hk1 (by omega) (by omega) rfl (by omega) rfl (by omega) ?_
 intro A2 c2 h2 l2 r2
 refine ⟨_,_,_,_,_,rfl,?_⟩
 have l02:=B0 l1 l2
 have mkb:=mk.part (a:=0) (b:=0) hk1 hk1 (by omega) (by omega)
 refine Ze (m:=m) (gl.mono l02) r2 (sm0 (by omega) (by omega)) (fun i hi=>hl _ (px (by omega) (by omega) hi)) (fun i hi=>hs _ (px (by omega) (by omega) hi)) b0 (fun q' mk'=>by obtain rfl:q'=k:=(mkb.uniq mk').1;omega) ?_
 intro o3 ho3 A3 c3 h3 l3 r3
 have l03:=B0 l02 l3
 rcases ho3 with ⟨hno,_⟩|⟨_,hne,_⟩|⟨q',mk',hx⟩
 ·exact absurd ⟨_,_,mkb⟩ hno
 ·exact absurd rfl hne
 obtain rfl:k=q':=(mkb.uniq mk').1.symm
 rcases hx with ⟨inv,rfl⟩|⟨ninv,rfl⟩
 rotate_left
 ·exact ⟨_,_,_,_,_,_,rfl,K5 (fun _=>good (noM 7) (.inl ⟨ninv,rfl⟩) none 0 h3 l03 RowV.nil) (fun e=>absurd e (by decide))⟩
 refine ⟨_,_,_,_,_,_,rfl,K5 (fun e=>absurd rfl e) (fun _=>?_)⟩
 refine Jk (rv'.mono T7 l03) mk hcap (a:=k) (b:=0) (k:=l) (w:=k) hl1 hk1 (by omega) (by omega) rfl (by omega) rfl (by omega) ?_
 intro A4 c4 h4 l4 r4
 refine ⟨_,_,_,_,_,rfl,l4,?_⟩
 have l04:=B0 l03 l4
 have mk4:=mk.part (a:=k) (b:=0) (k:=l) (w:=k) hl1 hk1 (by omega) (by omega)
 have mki:MOk (k:Int) (k:Int) (k*k) (W8 (Od (Qo ls q k) k) k) k k:=Zo rfl hk1 (by omega)
 have bz:∀ t,t<k*k->Sz m (Qo ls q k t):=fun t ht=>hs _ (px (a:=0) (b:=0) (by omega) (by omega) ht)
 have vz:∀ i j,i<k->j<k->Sz B1 (Od (Qo ls q k) k i j):=fun i j hi hj=>(B7o b0 bz inv i j hi hj).mono b1
 have z4:∀ t,t<l*k->Sz B1 (rv (Cq ls q k 0 k t)):=fun t ht=>(hs _ (px (by omega) (by omega) ht)).mono b4
 refine Xb (m:=B1) (d:=k) (gl.mono l04) r4 (r3.mono T7 l4) (sm0 (by omega) (by omega)) (sm0 (by omega) (by omega)) (fun t ht=>hl _ (px (by omega) (by omega) ht)) (fun t ht=>C6g (Tl hk1 vz t ht) (by omega)) z4 (Mm hk1 vz) (by omega) (fun a b mk'=>by obtain ⟨_,rfl⟩:=mk4.uniq mk';omega) (by omega) ?_
 intro o5 ho5 A5 c5 h5 l5 r5
 rcases MulO.ok mk4 mki ho5 with ⟨_,_,rfl⟩|⟨hne,_⟩
 rotate_left
 ·exact absurd rfl hne
 refine ⟨_,_,_,_,_,_,rfl,l5,?_⟩
 have l05:=B0 l04 l5
 have mk5:=mk4.prod mki
 have z5:∀ t,t<l*k->Sz B2 (rv (Ra (Cq ls q k 0 k) k (W8 (Od (Qo ls q k) k) k) k t)):=fun t ht=>(Yy (m:=B1) mk4 mki z4 (Mm hk1 vz) t ht).mono b2
 have n5:∀ t,t<l*k->(Ra (Cq ls q k 0 k) k (W8 (Od (Qo ls q k) k) k) k t).length<=100000000:=fun t ht=>C6g (A1w (m:=B1) mk4 mki z4 (Mm hk1 vz) t ht) (by omega)
 refine Jk (rv'.mono T7 l05) mk hcap (a:=0) (b:=k) (k:=k) (w:=l) hk1 hl1 (by omega) (by omega) rfl (by omega) rfl (by omega) ?_
 intro A6 c6 h6 l6 r6
 refine ⟨_,_,_,_,_,rfl,l6,?_⟩
 have l06:=B0 l05 l6
 have mk6:=mk.part (a:=0) (b:=k) (k:=k) (w:=l) hk1 hl1 (by omega) (by omega)
 have z6:∀ t,t<k*l->Sz B2 (rv (Cq ls q 0 k l t)):=fun t ht=>(hs _ (px (by omega) (by omega) ht)).mono (by omega)
 refine Xb (m:=B2) (d:=k) (gl.mono l06) (r5.mono T7 l6) r6 (sm0 (by omega) (by omega)) (sm0 (by omega) (by omega)) n5 (fun t ht=>hl _ (px (by omega) (by omega) ht)) z5 z6 (by omega) (fun a b mk'=>by obtain ⟨_,rfl⟩:=mk5.uniq mk';omega) (by omega) ?_
 intro o7 ho7 A7 c7 h7 l7 r7
 rcases MulO.ok mk5 mk6 ho7 with ⟨_,_,rfl⟩|⟨hne,_⟩
 rotate_left
 ·exact absurd rfl hne
 refine ⟨_,_,_,_,_,_,rfl,l7,?_⟩
 have l07:=B0 l06 l7
 have mk7:=mk5.prod mk6
 have z7:∀ t,t<l*l->Sz B3 (rv (Ra (Ra (Cq ls q k 0 k) k (W8 (Od (Qo ls q k) k) k) k) k (Cq ls q 0 k l) l t)):=fun t ht=>(Yy (m:=B2) mk5 mk6 z5 z6 t ht).mono b3
 have n7:∀ t,t<l*l->(Ra (Ra (Cq ls q k 0 k) k (W8 (Od (Qo ls q k) k) k) k) k (Cq ls q 0 k l) l t).length<=100000000:=fun t ht=>C6g (A1w (m:=B2) mk5 mk6 z5 z6 t ht) (by omega)
 refine Jk (rv'.mono T7 l07) mk hcap (a:=k) (b:=k) (k:=l) (w:=l) hl1 hl1 (by omega) (by omega) rfl (by omega) rfl (by omega) ?_
 intro A8 c8 h8 l8 r8
 refine ⟨_,_,_,_,_,rfl,l8,?_⟩
 have l08:=B0 l07 l8
 have mk8:=mk.part (a:=k) (b:=k) (k:=l) (w:=l) hl1 hl1 (by omega) (by omega)
 refine B1g (m:=B3) (gl.mono l08) r8 (r7.mono T7 l8) (sm0 (by omega) (by omega)) (sm0 (by omega) (by omega)) (fun t ht=>hl _ (px (by omega) (by omega) ht)) n7 (fun t ht=>(hs _ (px (by omega) (by omega) ht)).mono (by omega)) z7 (by omega) ?_
 intro o9 ho9 A9 c9 h9 l9 r9
 rcases ho9 with ⟨hno,_⟩|⟨_,_,hne,_⟩|⟨_,_,_,_,rfl⟩
 ·exact absurd ⟨⟨_,_,mk8⟩,⟨_,_,mk7⟩⟩ hno
 ·exact absurd hne (by simp)
 refine ⟨_,_,_,_,_,_,rfl,l9,good ⟨(l:Int),(l:Int),l*l,W8 (A81 ls q k) l,0⟩ (.inr ⟨inv,rfl⟩) A9 c9 h9 (B0 l08 l9) (r9.congr fun t ht=>?_)⟩
 have hj:=Nat.mod_lt t (show 0<l by omega)
 show L7 (mtx (rvs ls) q (k+t/l) (k+t%l) + -1*rv (L7 (sm k fun j=>mtx (rvs (Ra (Cq ls q k 0 k) k (W8 (Od (Qo ls q k) k) k) k)) k (t/l) j*mtx (rvs (Cq ls q 0 k l)) l j (t%l))))=L7 (A81 ls q k (t/l) (t%l))
 unfold A81
 congr 1
 rw [Js,Rat.sub_eq_add_neg,Rat.neg_mul,Rat.one_mul]
 congr 2
 refine C4 fun j hjk=>?_
 rw [B10 _ _ _ hjk,Lw _ _ _ _ hj,C6f]
 congr 1
 refine C4 fun s hsk=>?_
 rw [Lw _ _ _ _ hsk,A2i _ hjk,C6f]
end
end Go.Proofs.YtajkakhfcokljaaGreatDoor
