/-
  Texts of this proof, merged by a program of ours: MatO, MatEc, MatU, MatV, MatW, MatY, MatZ, MatPa, MatPb, MatZr, MatPc, MatPd, MatPe, MatPf, MatPg, LawML, LawMP, CardM.
-/
import Derived.Test.YthilnfgnpdeofaaGreatDoorG29
import Derived.Test.YthilnfgnpdeofaaGreatDoorG21
import Derived.Test.YthilnfgnpdeofaaGreatDoorG22
import Derived.Deep.Strs
/-
 The reference's Pack and Echelon.
-/
namespace Go.Proofs.YthilnfgnpdeofaaGreatDoor
open Go
set_option maxRecDepth 20000
section
variable {α:Type} [E:Enc α]
theorem OwnSl.app{P:Program}{t e ty:TypeId}{z:Value}{bytes:Nat}(st:SliceT P t e z E.default.size bytes){h g o:Heap}{A:Option Addr}{c:Nat}{xs:List α}(s:Sep h g o)(w:OwnSl o e A c xs){B:Option Addr}{d m n:Nat}{ys:List α}(hxn:n=xs.length)(hm:m=ys.length)(hne:ys≠[])(sy:SlF h B ys)(hb:(2*(xs.length+ys.length)+192)*bytes<=281474976710656)(hn:xs.length+ys.length<=9223372036854775807){K:Value->Heap->Prop}
 (x:∀ A' c' h' g' o',g.le g'->Sep h' g' o'->OwnSl o' e A' c' (xs++ys)->(∀ k u,o k=some u->A≠some ⟨k,0,none⟩->o' k=some u/\A'≠some ⟨k,0,none⟩)->K (.slice A' (xs.length+m) c') h'):
 wpH P (Builtin.append_ #[t,t] ty #[.slice A n c,.slice B m d]) K h:=by
 subst hxn
 obtain ⟨gb,p,hkeep⟩:=w.priv s
 refine appendF_ok st p hm sy hb hn ?_
 intro A' c' h' g' hg hp
 rw [List.length_append,<- hm]
 have hgk:∀ k u,h k=some u->A≠some ⟨k,0,none⟩->g' k=some u:=by
  intro k u e1 hne
  exact hg k u (hkeep k u e1 hne)
 have hnA:∀ k u,g k=some u->A≠some ⟨k,0,none⟩:=by
  intro k u e1 hA
  rcases w.2 with ⟨_,h0⟩|⟨b',arr,hA',hb',_⟩
  ·rw [hA] at h0;cases h0
  ·rw [hA] at hA'
   simp only [Option.some.injEq,Addr.mk.injEq,and_true] at hA'
   subst hA'
   rw [s.dis k _ hb'] at e1;cases e1
 rcases hp.2.2 with ⟨hc0,_⟩|⟨b',arr,hA',hb',hh',ha,ht⟩
 ·exfalso
  have:=hp.2.1
  rw [List.length_append] at this
  have:ys.length≠0:=fun h=>hne (List.eq_nil_of_length_eq_zero h)
  omega
 ·subst hA'
  let o':Heap:=fun k=>if k=b' then some (.cells (List.toArray arr) e) else if A=some ⟨k,0,none⟩ then none else o k
  have ob:o' b'=some (.cells (List.toArray arr) e):=by show (if b'=b' then _ else _)=_;rw [if_pos rfl]
  have ok:∀ k,k≠b'->A≠some ⟨k,0,none⟩->o' k=o k:=fun k h1 h2=>by show (if k=b' then _ else if _ then _ else _)=_;rw [if_neg h1,if_neg h2]
  have ono:∀ k,k≠b'->A=some ⟨k,0,none⟩->o' k=none:=fun k h1 h2=>by show (if k=b' then _ else if _ then _ else _)=_;rw [if_neg h1,if_pos h2]
  let g2:Heap:=fun k=>match o' k with|some _=>none|none=>h' k
  have gs:∀ k u,o' k=some u->g2 k=none:=fun k u e1=>by show (match o' k with|some _=>none|none=>h' k)=_;rw [e1]
  have gn:∀ k,o' k=none->g2 k=h' k:=fun k e1=>by show (match o' k with|some _=>none|none=>h' k)=_;rw [e1]
  have hput:∀ k u,k≠b'->g' k=some u->h' k=some u:=fun k u h1 e1=>by rw [hh',Heap.put_other _ _ h1];exact e1
  have hown:∀ k u,o k=some u->A≠some ⟨k,0,none⟩->k≠b':=by
   rintro k u e1 h2 rfl
   have:=hgk k u (s.own k u e1) h2
   rw [hb'] at this;cases this
  refine x _ c' h' g2 o' (fun k u e1=>?_) ⟨fun k u e1=>?_,fun k e1=>(gn k e1).symm,gs⟩ ⟨hp.2.1,.inr ⟨b',arr,rfl,ob,ha,ht⟩⟩ (fun k u e1 h2=>?_)
  ·have hk0:o k=none:=by
    cases ho:o k with
    | none=>rfl
    | some y=>rw [s.dis k y ho] at e1;cases e1
   have hA:=hnA k u e1
   have e3:=hgk k u (s.le k u e1) hA
   have hkb':k≠b':=by rintro rfl;rw [hb'] at e3;cases e3
   rw [gn k (by rw [ok k hkb' hA];exact hk0)]
   exact hput k u hkb' e3
  ·by_cases hkb:k=b'
   ·subst hkb
    rw [ob] at e1;cases e1
    rw [hh',Heap.put_same]
   ·by_cases hA:A=some ⟨k,0,none⟩
    ·rw [ono k hkb hA] at e1;cases e1
    ·rw [ok k hkb hA] at e1
     exact hput k u hkb (hgk k u (s.own k u e1) hA)
  ·have hkb:=hown k u e1 h2
   refine ⟨by rw [ok k hkb h2];exact e1,fun h3=>hkb ?_⟩
   simp only [Option.some.injEq,Addr.mk.injEq,and_true] at h3
   exact h3.symm
end
def flatT(M:Nat->Nat->Rat)(w:Nat):Nat->List UInt8:=fun k=>txtQ (M (k/w) (k%w))
section
variable {h:Heap} {K:Value->Heap->Prop} {A:Option Addr} {n cap m w:Nat} {M:Nat->Nat->Rat}
theorem fpack_spec(rs:RowsV h A n w M)(hn:n<=10000)(hw1:1<=w)(hw:w<=10000)(hn1:1<=n)(hs:∀ i j,i<n->j<w->Sz m (M i j))(hm:m<=400000000)
 (hK:∀ A' c' h',h.le h'->n*w<=c'->RowV SSr h' A' (n*w) (flatT M w)->K (matV n w A' (n*w) c') h'):FCall Tryz.prog f_FPack #[.slice A n cap] h K:=by
 refine FPack_ok _ _ _ ?_
 unfold FPack
 refine Br.beq (fun e=>by omega) (fun _=>?_)
 obtain ⟨a,sv,rfl,e1,e2,hc,_⟩:=rs.at (i:=0) (by omega)
 have hnw:n*w<=10000*10000:=Nat.mul_le_mul hn hw
 refine ⟨a,rfl,by omega,by omega,_,_,_,hc,fun L hp=>∃ (k:Nat) (g o:Heap) (xs:List (List UInt8)) (A':Option Addr) (c':Nat),k<=n/\L=[I (k:Int),I (n:Int),I (w:Int),.slice A' (k*w) c']/\h.le g/\Sep hp g o/\OwnSl o ty_tStrings_e A' c' xs/\xs.length=k*w/\Row SSr g xs (k*w) (flatT M w),fun L _=>n-(iAt L 0).toNat,⟨0,h,noHeap,[],none,0,by omega,by rw [e1,Nat.zero_mul];rfl,Heap.le_refl _,Sep.refl h,OwnSl.nil,by simp,by rw [Nat.zero_mul];exact Row.nil⟩,?_⟩
 rintro z m0 m1 mA mn mc hp ⟨k,g,o,xs,A',c',hk,eL,lg,s,ow,hxl,rr⟩
 simp only [List.cons.injEq,Value.int.injEq,Value.slice.injEq,true_and,and_true] at eL
 obtain ⟨rfl,rfl,rfl,rfl,rfl,rfl⟩:=eL
 refine Br.dec (fun hlt=>?_) (fun hge=>?_)
 ·have hkn:k<n:=by omega
  obtain ⟨a1,s1,ea,f1,f2,hc1,row⟩:=rs.at hkn
  have lhp:=Heap.le_trans lg s.le
  have hk1:(k+1)*w=k*w+w:=by rw [Nat.add_mul,Nat.one_mul]
  have hkw:(k+1)*w<=n*w:=Nat.mul_le_mul_right _ hkn
  refine ⟨a1,ea,by omega,by omega,_,_,_,Heap.cell?_le lhp hc1,?_⟩
  rw [f1]
  refine s.call (texts_spec (row.mono monNQ lg) (by omega) (fun j hj=>hs k j hkn hj) (by omega) ?_)
  intro b2 g2 own h2 s2
  have lg2:=own.le
  obtain ⟨ys,sy,hyl,qy⟩:=own.vis monSS
  refine ⟨_,_,_,rfl,s.le_le s2 lg2,?_⟩
  refine OwnSl.app (ty:=ty_tStrings) tStrings s2 ow (by omega) hyl.symm (by rintro rfl;simp at hyl;omega) (sy.mono s2.le) (by omega) (by omega) ?_
  intro A3 c3 h3 g3 o3 l3 s3 ow3 _
  rw [hxl,<- hk1,show wi64 ((k:Int)+1)=((k+1:Nat):Int) by rw [wi64_id]<;>omega]
  refine ⟨_,_,_,rfl,⟨k+1,g3,o3,_,A3,c3,by omega,rfl,Heap.le_trans lg (Heap.le_trans lg2 l3),s3,ow3,by rw [List.length_append,hxl,hyl,hk1],fun i hi=>?_⟩,by simp only [iAt0];omega⟩
  by_cases e:i<k*w
  ·obtain ⟨u,e1,hu⟩:=rr i e
   exact ⟨u,by rw [List.getElem?_append_left (by omega)];exact e1,hu⟩
  ·obtain ⟨j0,rfl⟩:∃ j0,i=k*w+j0:=⟨i-k*w,by omega⟩
   have hj0:j0<w:=by omega
   obtain ⟨u,e1,hu⟩:=qy j0 hj0
   refine ⟨u,by rw [List.getElem?_append_right (by omega),hxl,Nat.add_sub_cancel_left];exact e1,?_⟩
   have hu':u=txtQ (M k j0):=hu
   have hd:(k*w+j0)/w=k:=by rw [Nat.mul_comm,Nat.mul_add_div (by omega),Nat.div_eq_of_lt hj0,Nat.add_zero]
   have hm':(k*w+j0)%w=j0:=by rw [Nat.mul_comm,Nat.mul_add_mod,Nat.mod_eq_of_lt hj0]
   show u=flatT M w (k*w+j0)
   unfold flatT
   rw [hd,hm'];exact hu'
 ·have:k=n:=by omega
  subst this
  have hcap:=ow.1
  exact hK mA mc hp (Heap.le_trans lg s.le) (by omega) ⟨xs,ow.slF s.ole,hxl,rr.mono monSS s.le⟩
end
end Go.Proofs.YthilnfgnpdeofaaGreatDoor
/-
 The reference's Echelon.
-/
namespace Go.Proofs.YthilnfgnpdeofaaGreatDoor
open Go
set_option maxRecDepth 20000
abbrev ecE(M:Nat->Nat->Rat)(n c:Nat):ES:=runE n ⟨M,[],1⟩ c
abbrev qc(w:QV):List Value:=[.bool w.s,.slice w.A w.n w.c,.bool w.s2,.slice w.A2 w.n2 w.c2]
theorem qc_eq{w:QV}{a b:Bool}{A B:Option Addr}{n c n' c':Nat}{l l':List Value}(h:(.bool a:Value) :: .slice A n c :: .bool b :: .slice B n' c'::l= .bool w.s :: .slice w.A w.n w.c :: .bool w.s2 :: .slice w.A2 w.n2 w.c2::l'):(⟨a,A,n,c,b,B,n',c'⟩:QV)=w/\l=l':=by
 simp only [List.cons.injEq,Value.bool.injEq,Value.slice.injEq] at h
 obtain ⟨rfl,⟨rfl,rfl,rfl⟩,rfl,⟨rfl,rfl,rfl⟩,h⟩:=h
 exact ⟨rfl,h⟩
section
variable {g o h11 h14 h15 hp2:Heap} {bo n w r c i B:Nat} {rb:Nat->Nat} {R:Nat->Nat->Rat} {x:QV} {q:Rat} {Invv Invv3:List Value->Heap->Prop} {muv muv3:List Value->Heap->Nat}
end
section
variable {g o h5 h9 hp2:Heap} {bo n w r c B k:Nat} {rb:Nat->Nat} {R:Nat->Nat->Rat} {q:Rat} {Invv:List Value->Heap->Prop} {muv:List Value->Heap->Nat} {pA:Option Addr} {pc:Nat} {wd wd0:QV} {l:List Nat}
end
section
variable {h:Heap} {K:Value->Heap->Prop} {A:Option Addr} {n cap m w:Nat} {M:Nat->Nat->Rat}
end
end Go.Proofs.YthilnfgnpdeofaaGreatDoor
/-
 The statements' helpers: lists held against each other,small matrices.
-/
namespace Go.Proofs.YthilnfgnpdeofaaGreatDoor
open Go
set_option maxRecDepth 20000
section
variable {h:Heap} {K:Value->Heap->Prop} {A B:Option Addr} {n m a b:Nat} {r c r2 c2:Int} {ls ls2:Nat->List UInt8}
theorem kshort_spec{k:Int}(r:RowV SSr h A n ls)(hn:n<=1000000000)(hK1:(∀ i,i<n->((ls i).length:Int)<=k)->K (.bool true) h)(hK0:¬ (∀ i,i<n->((ls i).length:Int)<=k)->K (.bool false) h):FCall Tryz.prog f_KShort #[I k,.slice A n a] h K:=by
 refine KShort_ok _ _ _ _ ?_
 unfold KShort
 refine ⟨fun L hp=>∃ i:Nat,i<=n/\L=[I (i:Int)]/\hp=h/\∀ j,j<i->((ls j).length:Int)<=k,fun L _=>n-(iAt L 0).toNat,⟨0,by omega,rfl,rfl,fun j hj=>by omega⟩,?_⟩
 rintro z hp ⟨i,hi,eL,rfl,hh⟩
 obtain rfl:z=(i:Int):=by simpa using eL
 refine Br.dec (fun hlt=>?_) (fun hge=>?_)
 ·have hin:i<n:=by omega
  obtain ⟨x,rfl,hc⟩:=r.sat hin
  refine ⟨x,rfl,by omega,by omega,_,hc,?_⟩
  rw [bs_size]
  refine Br.dec (fun e=>hK0 fun hx=>by have:=hx i hin;omega) (fun e=>?_)
  rw [show wi64 ((i:Int)+1)=((i+1:Nat):Int) by rw [wi64_id]<;>omega]
  refine ⟨⟨i+1,by omega,rfl,rfl,fun j hj=>?_⟩,by simp only [iAt0];omega⟩
  by_cases e2:j=i
  ·subst e2;omega
  ·exact hh j (by omega)
 ·have:i=n:=by omega
  subst this
  exact hK1 hh
theorem kstrings_spec(x:RowV SSr h A n ls)(y:RowV SSr h B m ls2)(hn:n<=1000000000)(hK1:n=m->(∀ i,i<n->ls i=ls2 i)->K (.bool true) h)(hK0:¬ (n=m/\∀ i,i<n->ls i=ls2 i)->K (.bool false) h):FCall Tryz.prog f_KStrings #[.slice A n a,.slice B m b] h K:=by
 refine KStrings_ok _ _ _ _ _ _ ?_
 unfold KStrings
 refine Br.bne (fun e=>hK0 fun hx=>e (by omega)) (fun e=>?_)
 have e:n=m:=by omega
 subst e
 refine ⟨fun L hp=>∃ i:Nat,i<=n/\L=[I (i:Int)]/\hp=h/\∀ j,j<i->ls j=ls2 j,fun L _=>n-(iAt L 0).toNat,⟨0,by omega,rfl,rfl,fun j hj=>by omega⟩,?_⟩
 rintro z hp ⟨i,hi,eL,rfl,hh⟩
 obtain rfl:z=(i:Int):=by simpa using eL
 refine Br.dec (fun hlt=>?_) (fun hge=>?_)
 ·have hin:i<n:=by omega
  obtain ⟨u,rfl,hc⟩:=x.sat hin
  obtain ⟨v,rfl,hd⟩:=y.sat hin
  refine ⟨u,rfl,by omega,by omega,_,hc,v,rfl,by omega,by omega,_,hd,?_⟩
  rw [bs_beq]
  refine Br.not (Br.dec (fun e=>?_) (fun e=>hK0 fun hx=>e (hx.2 i hin)))
  rw [show wi64 ((i:Int)+1)=((i+1:Nat):Int) by rw [wi64_id]<;>omega]
  refine ⟨⟨i+1,by omega,rfl,rfl,fun j hj=>?_⟩,by simp only [iAt0];omega⟩
  by_cases e2:j=i
  ·subst e2;exact e
  ·exact hh j (by omega)
 ·have:i=n:=by omega
  subst this
  exact hK1 rfl hh
theorem SlF.iat{xs:List Int}(s:SlF h A xs){i:Nat}(hi:i<xs.length):∃ x,A=some x/\h.cell? (Addr.add x (i*1))=some (I xs[i]):=by
 obtain ⟨x,e,hc⟩:=SlF.at (by decide) s hi
 have:=hc 0 _ rfl
 rw [add_zero'] at this
 exact ⟨x,e,this⟩
theorem kints_spec{xs ys:List Int}(x:SlF h A xs)(y:SlF h B ys)(hn:n=xs.length)(hm:m=ys.length)(hb:n<=1000000000)(hK1:xs=ys->K (.bool true) h)(hK0:xs≠ys->K (.bool false) h):FCall Tryz.prog f_KInts #[.slice A n a,.slice B m b] h K:=by
 refine KInts_ok _ _ _ _ _ _ ?_
 unfold KInts
 refine Br.bne (fun e=>hK0 fun hx=>e (by rw [hn,hm,hx])) (fun e=>?_)
 have e:n=m:=by omega
 subst e
 refine ⟨fun L hp=>∃ i:Nat,i<=n/\L=[I (i:Int)]/\hp=h/\∀ j,j<i->xs[j]? = ys[j]?,fun L _=>n-(iAt L 0).toNat,⟨0,by omega,rfl,rfl,fun j hj=>by omega⟩,?_⟩
 rintro z hp ⟨i,hi,eL,rfl,hh⟩
 obtain rfl:z=(i:Int):=by simpa using eL
 refine Br.dec (fun hlt=>?_) (fun hge=>?_)
 ·have h1:i<xs.length:=by omega
  have h2:i<ys.length:=by omega
  obtain ⟨u,rfl,hc⟩:=SlF.iat x h1
  obtain ⟨v,rfl,hd⟩:=SlF.iat y h2
  refine ⟨u,rfl,by omega,by omega,_,hc,v,rfl,by omega,by omega,_,hd,?_⟩
  refine Br.bne (fun e=>hK0 fun hx=>e (by simp only [hx])) (fun e=>?_)
  rw [show wi64 ((i:Int)+1)=((i+1:Nat):Int) by rw [wi64_id]<;>omega]
  refine ⟨⟨i+1,by omega,rfl,rfl,fun j hj=>?_⟩,by simp only [iAt0];omega⟩
  by_cases e2:j=i
  ·subst e2;rw [List.getElem?_eq_getElem h1,List.getElem?_eq_getElem h2,e]
  ·exact hh j (by omega)
 ·have:i=n:=by omega
  subst this
  refine hK1 (List.ext_getElem? fun j=>?_)
  by_cases hj:j<i
  ·exact hh j hj
  ·rw [List.getElem?_eq_none (by omega),List.getElem?_eq_none (by omega)]
theorem kmatrices_spec(x:RowV SSr h A n ls)(y:RowV SSr h B m ls2)(hn:n<=1000000000)(hK1:r=r2->c=c2->n=m->(∀ i,i<n->ls i=ls2 i)->K (.bool true) h)(hK0:¬ (r=r2/\c=c2/\n=m/\∀ i,i<n->ls i=ls2 i)->K (.bool false) h):FCall Tryz.prog f_KMatrices #[matV r c A n a,matV r2 c2 B m b] h K:=by
 refine KMatrices_ok _ _ _ _ _ _ _ _ _ _ ?_
 unfold KMatrices
 refine Br.beq (fun e1=>Br.beq (fun e2=>?_) (fun e=>hK0 fun hx=>e hx.2.1)) (fun e=>hK0 fun hx=>e hx.1)
 exact kstrings_spec x y hn (fun h1 h2=>⟨_,rfl,hK1 e1 e2 h1 h2⟩) (fun hx=>⟨_,rfl,hK0 fun hy=>hx hy.2.2⟩)
structure Small (r c:Int) (n:Nat) (ls:Nat->List UInt8) (k d:Int):Prop where
 hr:r<=k
 hc:c<=k
 hn:(n:Int)<=k*k+2
 hl:∀ i,i<n->((ls i).length:Int)<=d
theorem ksmall_spec{k d:Int}(x:RowV SSr h A n ls)(hk:0<=k/\k<=1000)(hK1:Small r c n ls k d->K (.bool true) h)(hK0:¬ Small r c n ls k d->K (.bool false) h):FCall Tryz.prog f_KSmallMatrix #[matV r c A n a,I k,I d] h K:=by
 refine KSmallMatrix_ok _ _ _ _ _ _ _ ?_
 unfold KSmallMatrix
 have hkk:k*k<=1000*1000:=Int.mul_le_mul hk.2 hk.2 hk.1 (by omega)
 have hkk0:0<=k*k:=Int.mul_nonneg hk.1 hk.1
 have e1:wi64 (k*k)=k*k:=wi64_id (by omega) (by omega)
 have e2:wi64 (k*k+2)=k*k+2:=wi64_id (by omega) (by omega)
 rw [e1,e2]
 refine Br.dec (fun h1=>Br.dec (fun h2=>Br.dec (fun h3=>?_) (fun e=>hK0 fun x=>e x.hn)) (fun e=>hK0 fun x=>e x.hc)) (fun e=>hK0 fun x=>e x.hr)
 exact kshort_spec x (by omega) (fun hx=>⟨_,rfl,hK1 ⟨h1,h2,h3,hx⟩⟩) (fun hx=>⟨_,rfl,hK0 fun y=>hx y.hl⟩)
theorem lsmall_spec(x:RowV SSr h A n ls)(hK1:Small r c n ls 6 12->K (.bool true) h)(hK0:¬ Small r c n ls 6 12->K (.bool false) h):FCall Tryz.prog f_LSmall #[matV r c A n a] h K:=by
 refine LSmall_ok _ _ _ _ _ ?_
 unfold LSmall
 exact ksmall_spec x (by omega) (fun hx=>⟨_,rfl,hK1 hx⟩) (fun hx=>⟨_,rfl,hK0 hx⟩)
end
theorem flat_str(ls:List (List UInt8)):(ls.flatMap fun l=>[Value.string (bs l)])=ls.map fun l=>Value.string (bs l):=by
 induction ls with
 | nil=>rfl
 | cons x l ih=>rw [List.flatMap_cons,ih];rfl
theorem row_of_sl{h:Heap}{A:Option Addr}{ls:List (List UInt8)}(s:SlV h A (ls.map fun l=>Value.string (bs l))):RowV SSr h A ls.length (fun i=>ls.getD i []):=by
 refine ⟨ls,?_,rfl,fun i hi=>⟨ls[i],List.getElem?_eq_getElem hi,?_⟩⟩
 ·show SlV h A (ls.flatMap fun l=>[Value.string (bs l)])
  rw [flat_str];exact s
 ·show ls[i]=ls.getD i []
  simp [hi]
theorem rvs_list(l:List Rat):rvs (fun i=>(l.map txtQ).getD i [])=fun i=>l.getD i 0:=by
 funext i
 show rv ((l.map txtQ).getD i [])=_
 by_cases hi:i<l.length
 ·rw [List.getD_eq_getElem?_getD,List.getD_eq_getElem?_getD,List.getElem?_map,List.getElem?_eq_getElem hi]
  exact rv_txt _
 ·rw [List.getD_eq_getElem?_getD,List.getD_eq_getElem?_getD,List.getElem?_map,List.getElem?_eq_none (by omega)]
  exact rv_not (by rintro ⟨q,hq⟩;exact absurd hq.symm (by
   have:=txtQ_head q
   obtain ⟨c,r,e,_⟩:=this
   rw [e];simp))
theorem txt1:txtQ 1=[49]:=by
 have:digs 1=[49]:=by decide +kernel
 simp [txtQ,txtI,this]
theorem txt2:txtQ 2=[50]:=by
 have:digs 2=[50]:=by decide +kernel
 have h1:(2:Rat).den=1:=by decide +kernel
 have h2:(2:Rat).num=2:=by decide +kernel
 simp [txtQ,txtI,this,h1,h2]
theorem txt3:txtQ 3=[51]:=by
 have:digs 3=[51]:=by decide +kernel
 have h1:(3:Rat).den=1:=by decide +kernel
 have h2:(3:Rat).num=3:=by decide +kernel
 simp [txtQ,txtI,this,h1,h2]
theorem txt4:txtQ 4=[52]:=by
 have:digs 4=[52]:=by decide +kernel
 have h1:(4:Rat).den=1:=by decide +kernel
 have h2:(4:Rat).num=4:=by decide +kernel
 simp [txtQ,txtI,this,h1,h2]
theorem txtm2:txtQ (-2)=[45,50]:=by
 have:digs 2=[50]:=by decide +kernel
 have h1:(-2:Rat).den=1:=by decide +kernel
 have h2:(-2:Rat).num= -2:=by decide +kernel
 simp [txtQ,txtI,this,h1,h2]
theorem aw1:(elE (fun i=>([2,4,1,2]:List Rat).getD i 0) 2 2 2).cs=[0]:=by decide +kernel
theorem aw2:∀ k,k<4->redF (fun i=>([2,4,1,2]:List Rat).getD i 0) 2 2 k=([1,2,0,0]:List Rat).getD k 0:=by decide +kernel
theorem aw3:detQ (fun i=>([1,2,3,4]:List Rat).getD i 0) 2= -2:=by decide +kernel
theorem awake_spec{h:Heap}{K:Value->Heap->Prop}(gl:Gl h)(hK:∀ h',h.le h'->K (.bool true) h'):FCall Tryz.prog f_LAwake #[] h K:=by
 refine LAwake_ok ?_
 unfold LAwake
 have sz:∀ (ls:List (List UInt8)),(∀ x∈ls,x.length<=1)->∀ i,i<ls.length->(ls.getD i []).length<=1:=by
  intro ls h i hi
  rw [List.getD_eq_getElem?_getD,List.getElem?_eq_getElem hi]
  exact h _ (List.getElem_mem hi)
 refine litS_ok tStrings (ls:=[2,4,1,2].map txtQ) rfl (by simp) (by rw [show ([2,4,1,2]:List Rat).map txtQ=[[50],[52],[49],[50]] by simp [txt1,txt2,txt4]];rfl) ?_
 intro b1 h1 l1 s1
 have r1:=row_of_sl s1
 have z1:=sz (([2,4,1,2]:List Rat).map txtQ) (by simp [txt1,txt2,txt4])
 refine ⟨_,_,_,rfl,?_⟩
 have hb:∀ rows cols,MOk 2 2 4 (fun i=>(([2,4,1,2]:List Rat).map txtQ).getD i []) rows cols->2*(3^cols*bnd cols 4)+1<=40000000:=by
  intro rows cols mk
  have:=mk.ec
  have:cols=2:=by omega
  subst this
  decide
 refine mreduce_spec (m:=4) (gl.mono l1) r1 (by simp) (fun i hi=>Nat.le_trans (z1 i hi) (by omega)) (fun i hi=>rv_sz (k:=1) (z1 i hi) (by omega)) hb ?_ ?_
 ·intro rows cols mk b2 h2 A' cap' own
  have e1:=mk.er;have e2:=mk.ec
  have:rows=2:=by omega
  subst this
  have:cols=2:=by omega
  subst this
  have lo:=own.le
  have so:=own.strs
  have io:=own.ints
  rw [rvs_list] at so io
  rw [aw1] at io
  refine ⟨_,_,_,_,_,_,_,_,_,rfl,?_⟩
  rw [rvs_list,aw1]
  refine litS_ok tStrings (ls:=[1,2,3,4].map txtQ) rfl (by simp) (by rw [show ([1,2,3,4]:List Rat).map txtQ=[[49],[50],[51],[52]] by simp [txt1,txt2,txt3,txt4]];rfl) ?_
  intro b3 h3 l3 s3
  have r3:=row_of_sl s3
  have z3:=sz (([1,2,3,4]:List Rat).map txtQ) (by simp [txt1,txt2,txt3,txt4])
  refine ⟨_,_,_,rfl,?_⟩
  have l13:=Heap.le_trans l1 (Heap.le_trans lo l3)
  have num3:Mx 2 2 4 (fun i=>(([1,2,3,4]:List Rat).map txtQ).getD i []):=by
   refine Mx.iff.2 ⟨⟨by omega,by omega,by omega,by omega,by omega⟩,fun i hi=>?_⟩
   have hi':i<([1,2,3,4]:List Rat).length:=hi
   exact ⟨([1,2,3,4]:List Rat)[i],by rw [List.getD_eq_getElem?_getD,List.getElem?_map,List.getElem?_eq_getElem hi'];rfl⟩
  refine mdet_spec (m:=4) (gl.mono l13) r3 (by simp) (fun i hi=>Nat.le_trans (z3 i hi) (by omega)) (fun i hi=>rv_sz (k:=1) (z3 i hi) (by omega)) ?_ ?_ (fun _ e=>absurd rfl e) (fun hno=>absurd num3 hno)
  ·intro rows cols mk
   have:=mk.ec
   have:cols=2:=by omega
   subst this
   decide
  ·intro q mk h4 l4
   have:q=2:=by have:=mk.er;omega
   subst this
   rw [rvs_list,aw3]
   refine ⟨_,_,rfl,Br.beq (fun _=>?_) (fun e=>absurd rfl e)⟩
   refine litS_ok tStrings (ls:=[1,2,0,0].map txtQ) rfl (by simp) (by rw [show ([1,2,0,0]:List Rat).map txtQ=[[49],[50],[48],[48]] by simp [txt1,txt2,txtQ_zero]];rfl) ?_
   intro b5 h5 l5 s5
   have r5:=row_of_sl s5
   refine ⟨_,_,_,rfl,?_⟩
   have l25:=Heap.le_trans l3 (Heap.le_trans l4 l5)
   refine kstrings_spec (so.mono monSS l25) r5 (by simp) (fun _ _=>⟨_,rfl,?_⟩) (fun hno=>absurd ⟨rfl,fun i hi=>?_⟩ hno)
   ·refine lit1_ok tInts rfl ?_
    intro b6 h6
    refine ⟨_,_,_,rfl,?_⟩
    have l6:=Heap.le_put (.cells #[I (0:Int)] ty_tInts_e) h6
    refine kints_spec (io.1.mono (Heap.le_trans l25 l6)) (blkF_sl ty_tInts_e h5 b6 ([0]:List Int)) rfl rfl (by simp) (fun _=>⟨_,rfl,?_⟩) (fun hno=>absurd rfl hno)
    have:(ByteArray.toList (bs (txtQ (-2)))==ByteArray.toList ({ data:=#[45,50] }:ByteArray))=true:=by
     rw [txtm2]
     exact (bs_beq _ _).trans (by decide)
    rw [this]
    have:=hK _ (Heap.le_trans l13 (Heap.le_trans l4 (Heap.le_trans l5 l6)))
    exact this
   ·show txtQ (redF (fun i=>([2,4,1,2]:List Rat).getD i 0) 2 2 i)=(([1,2,0,0]:List Rat).map txtQ).getD i []
    have hi':i<([1,2,0,0]:List Rat).length:=hi
    rw [aw2 i hi,List.getD_eq_getElem?_getD,List.getD_eq_getElem?_getD,List.getElem?_map,List.getElem?_eq_getElem hi']
    rfl
 ·intro hno
  exfalso
  refine hno (Mx.iff.2 ⟨⟨by omega,by omega,by omega,by omega,by simp⟩,fun i hi=>?_⟩)
  have hi':i<([2,4,1,2]:List Rat).length:=hi
  exact ⟨([2,4,1,2]:List Rat)[i],by rw [List.getD_eq_getElem?_getD,List.getElem?_map,List.getElem?_eq_getElem hi'];rfl⟩
end Go.Proofs.YthilnfgnpdeofaaGreatDoor
/-
 The null space's vectors;Reduce,Det of the reference;Contains.
-/
namespace Go.Proofs.YthilnfgnpdeofaaGreatDoor
open Go
set_option maxRecDepth 20000
section
variable {h:Heap} {K:Value->Heap->Prop} {A B:Option Addr} {n cap m:Nat} {r c:Int} {ls:Nat->List UInt8}
theorem mtx_sz{E:Nat->Rat}{rows cols:Nat}(hs:∀ i,i<rows*cols->Sz m (E i)):∀ i j,i<rows->j<cols->Sz m (mtx E cols i j):=fun _ _ hi hj=>hs _ (idx_lt hi hj)
end
end Go.Proofs.YthilnfgnpdeofaaGreatDoor
/-
 Null and Kernel of the reference.
-/
namespace Go.Proofs.YthilnfgnpdeofaaGreatDoor
open Go
set_option maxRecDepth 20000
section
variable {h:Heap} {K:Value->Heap->Prop} {A:Option Addr} {n cap m w:Nat} {r c:Int} {ls:Nat->List UInt8} {M:Nat->Nat->Rat}
end
end Go.Proofs.YthilnfgnpdeofaaGreatDoor
/-
 Blank rows,rows and columns exchanged.
-/
namespace Go.Proofs.YthilnfgnpdeofaaGreatDoor
open Go
set_option maxRecDepth 20000
section
variable {h:Heap} {K:Value->Heap->Prop} {A:Option Addr} {n cap m w:Nat} {r c:Int} {ls:Nat->List UInt8} {R:Nat->Nat->Rat}
theorem fblank_spec(hn:n<=10000)(hw:w<=10000)
 (hK:∀ h' g' o' bo rb,h.le g'->Mt h' g' o' bo rb n w (fun _ _=>0)->K (.slice (some ⟨bo,0,none⟩) n n) h'):FCall Tryz.prog f_FBlank #[I (n:Int),I (w:Int)] h K:=by
 refine FBlank_ok _ _ ?_
 unfold FBlank
 refine makeF_ok tQss (zx:=(⟨none,0,0⟩:HV)) rfl (by omega) (by omega) (by omega) (by omega) ?_
 intro bo hbo
 simp only [Int.toNat_natCast]
 refine ⟨_,_,_,rfl,fun L hp=>∃ (k:Nat) (g o:Heap) (hd:List HV) (rb:Nat->Nat),k<=n/\L=[I (k:Int)]/\h.le g/\Sep hp g o/\RowX o bo hd/\hd.length=n/\(∀ i,i<k->hd[i]? = some ⟨some ⟨rb i,0,none⟩,w,w⟩)/\(∀ i,i<k->rb i≠bo)/\(∀ i j,i<k->j<k->rb i=rb j->i=j)/\(∀ i,i<k->RowX o (rb i) (List.replicate w zeroQ)),fun L _=>n-(iAt L 0).toNat,
  ⟨0,h,noHeap.put bo _,List.replicate n ⟨none,0,0⟩,fun _=>0,by omega,rfl,Heap.le_refl _,Sep.single hbo,RowX.mk,List.length_replicate,fun i hi=>by omega,fun i hi=>by omega,fun i j hi=>by omega,fun i hi=>by omega⟩,?_⟩
 rintro z hp ⟨k,g,o,hd,rb,hk,eL,lg,s,rx,hl,h1,h2,h3,h4⟩
 obtain rfl:z=(k:Int):=by simpa using eL
 refine Br.dec (fun hlt=>?_) (fun hge=>?_)
 ·have hkn:k<n:=by omega
  refine makeF_ok tRats (zx:=zeroQ) rfl (by omega) (by omega) (by omega) (by omega) ?_
  intro b2 hb2
  simp only [Int.toNat_natCast]
  have ob2:∀ q x,o q=some x->q≠b2:=by
   rintro q x e rfl
   rw [s.own q x e] at hb2;cases hb2
  have nbo:bo≠b2:=by obtain ⟨e,he⟩:=rx;exact ob2 _ _ he
  have nrb:∀ i,i<k->rb i≠b2:=fun i hi=>by obtain ⟨e,he⟩:=h4 i hi;exact ob2 _ _ he
  refine ⟨_,_,_,rfl,_,rfl,by omega,by omega,?_⟩
  refine Sep.storeX tQss_one (y:=(⟨some ⟨b2,0,none⟩,w,w⟩:HV)) rfl (s.new hb2 _) (rx.other nbo _) (i:=k) (by omega) ?_
  intro h5 o5 x5 eo5 s5 rx5
  rw [show wi64 ((k:Int)+1)=((k+1:Nat):Int) by rw [wi64_id]<;>omega]
  refine ⟨⟨k+1,g,o5,_,fun i=>if i=k then b2 else rb i,by omega,rfl,lg,s5,rx5,by rw [List.length_set];exact hl,fun i hi=>?_,fun i hi=>?_,fun i j hi hj e=>?_,fun i hi=>?_⟩,by simp only [iAt0];omega⟩
  ·show (hd.set k _)[i]? = some (⟨some ⟨if i=k then b2 else rb i,0,none⟩,w,w⟩:HV)
   by_cases e:i=k
   ·subst e
    rw [if_pos rfl,List.getElem?_set_self (by omega)]
   ·rw [if_neg e,List.getElem?_set_ne (fun x=>e x.symm)]
    exact h1 i (by omega)
  ·show (if i=k then b2 else rb i)≠bo
   by_cases e:i=k
   ·rw [if_pos e];exact nbo.symm
   ·rw [if_neg e];exact h2 i (by omega)
  ·change (if i=k then b2 else rb i)=(if j=k then b2 else rb j) at e
   by_cases e1:i=k
   ·by_cases e2:j=k
    ·omega
    ·rw [if_pos e1,if_neg e2] at e
     exact absurd e.symm (nrb j (by omega))
   ·by_cases e2:j=k
    ·rw [if_neg e1,if_pos e2] at e
     exact absurd e (nrb i (by omega))
    ·rw [if_neg e1,if_neg e2] at e
     exact h3 i j (by omega) (by omega) e
  ·show RowX o5 (if i=k then b2 else rb i) _
   by_cases e:i=k
   ·rw [if_pos e,eo5]
    exact RowX.mk.other nbo.symm _
   ·rw [if_neg e,eo5]
    exact ((h4 i (by omega)).other (nrb i (by omega)) _).other (h2 i (by omega)) _
 ·have:k=n:=by omega
  subst this
  refine hK hp g o bo rb lg ⟨s,⟨hd,rx.rowB,hl,fun i hi=>⟨w,h1 i hi,Nat.le_refl _⟩⟩,h2,h3,fun i hi=>⟨_,(h4 i hi).rowB,List.length_replicate,fun j hj=>⟨zeroQ,by rw [List.getElem?_replicate,if_pos hj],NQ.zero⟩⟩⟩
theorem OwnSl.room{α:Type}[E:Enc α]{o:Heap}{b:Nat}{e:TypeId}{c:Nat}{zx:α}:OwnSl (o.put b (.cells ((List.replicate c zx).flatMap enc).toArray e)) e (some ⟨b,0,none⟩) c ([]:List α):=
 ⟨Nat.zero_le _,.inr ⟨b,_,rfl,Heap.put_same _ _ _,by rw [flat_len,List.length_replicate],by simp⟩⟩
def OwnS(h h':Heap)(A:Option Addr)(c n:Nat)(f:Nat->List UInt8):Prop:=∃ g o xs,h.le g/\Sep h' g o/\OwnSl o ty_tStrings_e A c xs/\xs.length=n/\Row SSr g xs n f
theorem OwnS.le{h h':Heap}{c n:Nat}{f:Nat->List UInt8}(w:OwnS h h' A c n f):h.le h':=by
 obtain ⟨g,o,xs,lg,s,_⟩:=w
 exact Heap.le_trans lg s.le
theorem OwnS.vis{h h':Heap}{c n:Nat}{f:Nat->List UInt8}(w:OwnS h h' A c n f):RowV SSr h' A n f:=by
 obtain ⟨g,o,xs,lg,s,ow,e,q⟩:=w
 exact ⟨xs,ow.slF s.ole,e,q.mono monSS s.le⟩
theorem OwnS.weak{h0 h h':Heap}{c n:Nat}{f:Nat->List UInt8}(l:h0.le h)(w:OwnS h h' A c n f):OwnS h0 h' A c n f:=by
 obtain ⟨g,o,xs,lg,x⟩:=w
 exact ⟨g,o,xs,Heap.le_trans l lg,x⟩
end
end Go.Proofs.YthilnfgnpdeofaaGreatDoor
/-
 Sums,differences and multiples of matrices.
-/
namespace Go.Proofs.YthilnfgnpdeofaaGreatDoor
open Go
set_option maxRecDepth 20000
theorem Br.nt{X Y:Prop}(y:Y):Br (!true) X Y:=y
theorem Br.nf{X Y:Prop}(x:X):Br (!false) X Y:=x
structure MOut where
 r:Int
 c:Int
 n:Nat
 f:Nat->List UInt8
 e:Int
def noM(e:Int):MOut:=⟨0,0,0,fun _=>[],e⟩
def CombO(r c:Int)(n:Nat)(la:Nat->List UInt8)(r2 c2:Int)(n2:Nat)(lb:Nat->List UInt8)(q:Rat)(o:MOut):Prop:=
 (¬ (Mx r c n la/\Mx r2 c2 n2 lb)/\o=noM 1)\/(Mx r c n la/\Mx r2 c2 n2 lb/\(r≠r2\/c≠c2)/\o=noM 4)\/(Mx r c n la/\Mx r2 c2 n2 lb/\r=r2/\c=c2/\o=⟨r,c,n,fun k=>txtQ (rv (la k)+q*rv (lb k)),0⟩)
theorem CombO.eq{r c r2 c2:Int}{n n2:Nat}{la lb:Nat->List UInt8}{q:Rat}{o p:MOut}(x:CombO r c n la r2 c2 n2 lb q o)(y:CombO r c n la r2 c2 n2 lb q p):o=p:=by
 rcases x with ⟨h1,rfl⟩|⟨h1,h2,h3,rfl⟩|⟨h1,h2,h3,h4,rfl⟩<;>rcases y with ⟨g1,rfl⟩|⟨g1,g2,g3,rfl⟩|⟨g1,g2,g3,g4,rfl⟩<;>first|rfl|(exfalso;exact h1 ⟨g1,g2⟩)|(exfalso;exact g1 ⟨h1,h2⟩)|(exfalso;omega)
def ScalO(s:List UInt8)(r c:Int)(n:Nat)(la:Nat->List UInt8)(o:MOut):Prop:=
 (¬ (IsNum s/\Mx r c n la)/\o=noM 1)\/(IsNum s/\Mx r c n la/\o=⟨r,c,n,fun k=>txtQ (rv s*rv (la k)),0⟩)
theorem ScalO.eq{s:List UInt8}{r c:Int}{n:Nat}{la:Nat->List UInt8}{o p:MOut}(x:ScalO s r c n la o)(y:ScalO s r c n la p):o=p:=by
 rcases x with ⟨h1,rfl⟩|⟨h1,h2,rfl⟩<;>rcases y with ⟨g1,rfl⟩|⟨g1,g2,rfl⟩<;>first|rfl|(exfalso;exact h1 ⟨g1,g2⟩)|(exfalso;exact g1 ⟨h1,h2⟩)
section
variable {h:Heap} {K:Value->Heap->Prop} {A B:Option Addr} {n n2 cap cap2 m w:Nat} {r c r2 c2:Int} {la lb:Nat->List UInt8}
end
end Go.Proofs.YthilnfgnpdeofaaGreatDoor
/-
 Vectors of numbers over one denominator;their products.
-/
namespace Go.Proofs.YthilnfgnpdeofaaGreatDoor
open Go
set_option maxRecDepth 20000
structure VV where
 A:Option Addr
 n:Nat
 c:Nat
 s:Bool
 B:Option Addr
 bn:Nat
 bc:Nat
abbrev VV.v(w:VV):Value:=.agg #[.slice w.A w.n w.c,.bool w.s,.slice w.B w.bn w.bc]
instance:Enc VV:=⟨⟨fun w=>[.slice w.A w.n w.c,.bool w.s,.slice w.B w.bn w.bc],3,fun _=>rfl,fun w v hv=>by
 simp only [List.mem_cons,List.not_mem_nil,or_false] at hv
 rcases hv with rfl|rfl|rfl<;>rfl⟩⟩
def VQr(w:Nat):Heap->VV->(Nat->Rat)->Prop:=fun h v f=>v.n=w/\ZI h v.s v.B v.bn v.bc (lcmD f w:Int)/\RowV ZIr h v.A w (fun j=>scl (f j) (lcmD f w:Int))
theorem monVQ(w:Nat):Mon (VQr w):=fun _ _ _ _ l i=>⟨i.1,i.2.1.mono l,i.2.2.mono monZI l⟩
section
variable {h:Heap} {K:Value->Heap->Prop} {A B:Option Addr} {n cap m w:Nat} {f f2:Nat->Rat}
theorem newVec_spec(gl:Gl h)(r:RowV RQr h A n f)(hn:n<=10000)(hs:∀ i,i<n->Sz m (f i))(hm:1+n*m+m<=6400000000)
 (hK:∀ v h',h.le h'->VQr n h' v f->K v.v h'):FCall Tryz.prog f_MNewVector #[.slice A n cap] h K:=by
 refine MNewVector_ok _ _ _ ?_
 unfold MNewVector
 have hd:=lcmD_zb (f:=f) n hs
 refine ⟨?_,?_⟩
 ·refine makeF_ok tZs (zx:=(⟨false,none,0,0⟩:IV)) rfl (by omega) (by omega) (by omega) (by omega) ?_
  intro b hb
  simp only [Int.toNat_natCast]
  have s0:=(Sep.refl h).new hb (.cells ((List.replicate n (⟨false,none,0,0⟩:IV)).flatMap enc).toArray ty_tZs_e)
  refine ⟨_,_,_,rfl,s0.le,s0.call (commonDen_spec gl r (by omega) hs hm ?_)⟩
  intro sd Bd bn bc g1 l1 id h1 s1
  refine ⟨_,_,_,_,rfl,s0.le_le s1 l1,?_⟩
  refine ⟨fun L hp=>∃ (k:Nat) (g o:Heap) (ys:List IV),k<=n/\L=[I (k:Int)]/\g1.le g/\Sep hp g o/\RowX o b ys/\ys.length=n/\Row ZIr g ys k (fun j=>scl (f j) (lcmD f n:Int)),fun L _=>n-(iAt L 0).toNat,⟨0,g1,_,List.replicate n ⟨false,none,0,0⟩,by omega,rfl,Heap.le_refl _,s1,RowX.mk,List.length_replicate,Row.nil⟩,?_⟩
  rintro z hp ⟨k,g,o,ys,hk,eL,lg,s,rx,hy,rr⟩
  obtain rfl:z=(k:Int):=by simpa using eL
  refine Br.dec (fun hlt=>?_) (fun hge=>?_)
  ·have hkn:k<n:=by omega
   obtain ⟨a,w,ea,iw,c0,c1,c2,c3⟩:=(r.mono monRQ (Heap.le_trans l1 lg)).qat hkn
   refine ⟨a,ea,by omega,by omega,_,_,_,_,_,_,_,_,Heap.cell?_le s.le c0,Heap.cell?_le s.le c1,Heap.cell?_le s.le c2,Heap.cell?_le s.le c3,?_⟩
   refine s.call (scaled_spec (m:=1+n*m+m) iw (id.mono lg) ((hs k hkn).mono (by omega)) (hd.mono (by omega)) hm ?_)
   intro s2 A2 n2 c2 g2 l2 i2 h2 sp2
   refine ⟨_,_,_,_,rfl,s.le_le sp2 l2,_,rfl,by omega,by omega,?_⟩
   refine Sep.storeX tZs_one (y:=(⟨s2,A2,n2,c2⟩:IV)) rfl sp2 rx (i:=k) (by omega) ?_
   intro h7 o7 x7 eo s7 rx7
   rw [show wi64 ((k:Int)+1)=((k+1:Nat):Int) by rw [wi64_id]<;>omega]
   exact ⟨⟨k+1,g2,o7,_,by omega,rfl,Heap.le_trans lg l2,s7,rx7,by rw [List.length_set];exact hy,(rr.mono monZI l2).set (by omega) i2⟩,by simp only [iAt0];omega⟩
  ·have:k=n:=by omega
   subst this
   exact hK ⟨some ⟨b,0,none⟩,k,k,sd,Bd,bn,bc⟩ hp (Heap.le_trans l1 (Heap.le_trans lg s.le)) ⟨rfl,id.mono (Heap.le_trans lg s.le),ys,rx.rowB.slF s.ole,hy,rr.mono monZI s.le⟩
 ·refine commonDen_spec gl r (by omega) hs hm ?_
  intro sd Bd bn bc g1 l1 id
  refine ⟨_,_,_,_,rfl,l1,makeF_ok tZs (zx:=(⟨false,none,0,0⟩:IV)) rfl (by omega) (by omega) (by omega) (by omega) ?_⟩
  intro b hb
  simp only [Int.toNat_natCast]
  have s1:=(Sep.refl g1).new hb (.cells ((List.replicate n (⟨false,none,0,0⟩:IV)).flatMap enc).toArray ty_tZs_e)
  refine ⟨_,_,_,rfl,s1.le,?_⟩
  refine ⟨fun L hp=>∃ (k:Nat) (g o:Heap) (ys:List IV),k<=n/\L=[I (k:Int)]/\g1.le g/\Sep hp g o/\RowX o b ys/\ys.length=n/\Row ZIr g ys k (fun j=>scl (f j) (lcmD f n:Int)),fun L _=>n-(iAt L 0).toNat,⟨0,g1,_,List.replicate n ⟨false,none,0,0⟩,by omega,rfl,Heap.le_refl _,s1,RowX.mk,List.length_replicate,Row.nil⟩,?_⟩
  rintro z hp ⟨k,g,o,ys,hk,eL,lg,s,rx,hy,rr⟩
  obtain rfl:z=(k:Int):=by simpa using eL
  refine Br.dec (fun hlt=>?_) (fun hge=>?_)
  ·have hkn:k<n:=by omega
   obtain ⟨a,w,ea,iw,c0,c1,c2,c3⟩:=(r.mono monRQ (Heap.le_trans l1 lg)).qat hkn
   refine ⟨a,ea,by omega,by omega,_,_,_,_,_,_,_,_,Heap.cell?_le s.le c0,Heap.cell?_le s.le c1,Heap.cell?_le s.le c2,Heap.cell?_le s.le c3,?_⟩
   refine s.call (scaled_spec (m:=1+n*m+m) iw (id.mono lg) ((hs k hkn).mono (by omega)) (hd.mono (by omega)) hm ?_)
   intro s2 A2 n2 c2 g2 l2 i2 h2 sp2
   refine ⟨_,_,_,_,rfl,s.le_le sp2 l2,_,rfl,by omega,by omega,?_⟩
   refine Sep.storeX tZs_one (y:=(⟨s2,A2,n2,c2⟩:IV)) rfl sp2 rx (i:=k) (by omega) ?_
   intro h7 o7 x7 eo s7 rx7
   rw [show wi64 ((k:Int)+1)=((k+1:Nat):Int) by rw [wi64_id]<;>omega]
   exact ⟨⟨k+1,g2,o7,_,by omega,rfl,Heap.le_trans lg l2,s7,rx7,by rw [List.length_set];exact hy,(rr.mono monZI l2).set (by omega) i2⟩,by simp only [iAt0];omega⟩
  ·have:k=n:=by omega
   subst this
   exact hK ⟨some ⟨b,0,none⟩,k,k,sd,Bd,bn,bc⟩ hp (Heap.le_trans l1 (Heap.le_trans lg s.le)) ⟨rfl,id.mono (Heap.le_trans lg s.le),ys,rx.rowB.slF s.ole,hy,rr.mono monZI s.le⟩
def smZ(x y:Nat->Int):Nat->Int
 | 0=>0
 | k+1=>smZ x y k+x k*y k
def smA(x y:Nat->Int):Nat->Int
 | 0=>0
 | k+1=>smA x y k+(x k*y k).natAbs
theorem smA_le{x y:Nat->Int}{m w:Nat}(hx:∀ j,j<w->ZB m (x j))(hy:∀ j,j<w->ZB m (y j)):∀ k,k<=w->smA x y k<=k*2^(2*m):=by
 intro k
 induction k with
 | zero=>intro _;simp [smA]
 | succ k ih=>
  intro hk
  have h1:=ih (by omega)
  have h2:=prod_le (hx k (by omega)) (hy k (by omega))
  have h3:((k+1:Nat):Int)*2^(2*m)=(k:Int)*2^(2*m)+2^(2*m):=by rw [Int.natCast_add,Int.add_mul];simp
  show smA x y k+((x k*y k).natAbs:Int)<=_
  rw [h3]
  omega
theorem smZ_abs(x y:Nat->Int):∀ k,((smZ x y k).natAbs:Int)<=smA x y k:=by
 intro k
 induction k with
 | zero=>exact Int.le_refl _
 | succ k ih=>
  show ((smZ x y k+x k*y k).natAbs:Int)<=smA x y k+((x k*y k).natAbs:Int)
  omega
theorem smZ_zb{x y:Nat->Int}{m w:Nat}(hx:∀ j,j<w->ZB m (x j))(hy:∀ j,j<w->ZB m (y j))(hw:w<=10000):ZB (2*m+14) (smZ x y w):=by
 have h1:=smA_le hx hy w (Nat.le_refl _)
 have h2:=smZ_abs x y w
 have e:(2:Int)^(2*m)=((2^(2*m):Nat):Int):=by simp
 rw [e,<- Int.natCast_mul] at h1
 have h3:w*2^(2*m)<=10000*2^(2*m):=Nat.mul_le_mul_right _ hw
 have h4:2^(2*m+14)=2^(2*m)*16384:=by rw [Nat.pow_add]
 have h5:0<2^(2*m):=Nat.pow_pos (by decide)
 unfold ZB
 rw [h4]
 omega
theorem smZ_eq{p q:Nat->Rat}{x y:Nat->Int}{d e:Int}{w:Nat}(hx:∀ j,j<w->(x j:Rat)=p j*d)(hy:∀ j,j<w->(y j:Rat)=q j*e):∀ k,k<=w->(smZ x y k:Rat)=sm k (fun j=>p j*q j)*((d*e:Int):Rat):=by
 intro k
 induction k with
 | zero=>intro _;show ((0:Int):Rat)=0*_;rw [Rat.zero_mul];rfl
 | succ k ih=>
  intro hk
  show ((smZ x y k+x k*y k:Int):Rat)=(sm k (fun j=>p j*q j)+p k*q k)*((d*e:Int):Rat)
  rw [Rat.intCast_add,ih (by omega),Rat.intCast_mul d e,Rat.intCast_mul (x k) (y k),hx k (by omega),hy k (by omega)]
  grind
theorem times_spec{v u:VV}(gl:Gl h)(iv:VQr w h v f)(iu:VQr w h u f2)(hw:w<=10000)(hs:∀ i,i<w->Sz m (f i))(hs2:∀ i,i<w->Sz m (f2 i))(hm1:1<=m)(hm:2*(1+w*m+m)+14<=100000000)
 (hK:∀ q h',h.le h'->RQ h' q (sm w (fun j=>f j*f2 j))->K q.v h'):FCall Tryz.prog f_MTimes #[v.v,u.v] h K:=by
 refine MTimes_ok _ _ _ _ _ _ _ _ _ _ _ _ _ _ ?_
 unfold MTimes
 obtain ⟨en1,id1,rz1⟩:=iv
 obtain ⟨en2,id2,rz2⟩:=iu
 have hd1:=lcmD_zb (f:=f) w hs
 have hd2:=lcmD_zb (f:=f2) w hs2
 have hx:∀ j,j<w->ZB (1+w*m+m) (scl (f j) (lcmD f w:Int)):=fun j hj=>(scl_zb (hs j hj) hd1).mono (by omega)
 have hy:∀ j,j<w->ZB (1+w*m+m) (scl (f2 j) (lcmD f2 w:Int)):=fun j hj=>(scl_zb (hs2 j hj) hd2).mono (by omega)
 refine alloc_ok sum_zero ?_
 intro bs hbs
 have Z0:SumS (h.put bs (.cells #[.slice none 0 0,.slice none 0 0] ty_tSum)) h bs ty_tSum 200000001 0 0:=SumS.zero hbs
 refine ⟨_,rfl,fun L hp=>∃ (k:Nat) (g:Heap),k<=w/\L=[I (k:Int)]/\h.le g/\SumS hp g bs ty_tSum 200000001 (smA (fun j=>scl (f j) (lcmD f w:Int)) (fun j=>scl (f2 j) (lcmD f2 w:Int)) k) (smZ (fun j=>scl (f j) (lcmD f w:Int)) (fun j=>scl (f2 j) (lcmD f2 w:Int)) k),fun L _=>w-(iAt L 0).toNat,⟨0,h,by omega,rfl,Heap.le_refl _,Z0⟩,?_⟩
 rintro z hp ⟨k,g,hk,eL,lg,Z⟩
 obtain rfl:z=(k:Int):=by simpa using eL
 refine Br.dec (fun hlt=>?_) (fun hge=>?_)
 ·have hkw:k<w:=by omega
  obtain ⟨a,x1,ea,zx,c0,c1⟩:=(rz1.mono monZI lg).zat hkw
  obtain ⟨a2,y1,ea2,zy,d0,d1⟩:=(rz2.mono monZI lg).zat hkw
  refine ⟨a,ea,by omega,by omega,_,_,_,_,Heap.cell?_le Z.le c0,Heap.cell?_le Z.le c1,a2,ea2,by omega,by omega,_,_,_,_,Heap.cell?_le Z.le d0,Heap.cell?_le Z.le d1,?_⟩
  have lx:x1.n<=100000000:=ZI.len zx (hx k hkw) (by omega)
  have ly:y1.n<=100000000:=ZI.len zy (hy k hkw) (by omega)
  have hA:=smA_le hx hy (k+1) hkw
  have hbig:=pow_big (m:=1+w*m+m) (k:=k+1) (by omega) (by omega)
  refine addProduct'_spec Z zx zy (by omega) (by omega) (N1:=1+w*m+m) (by show smA _ _ (k+1)<_;omega) (by omega) ?_
  intro h3 g3 l3 Z3
  rw [show wi64 ((k:Int)+1)=((k+1:Nat):Int) by rw [wi64_id]<;>omega]
  exact ⟨rfl,⟨k+1,g3,by omega,rfl,Heap.le_trans lg l3,Z3⟩,by simp only [iAt0];omega⟩
 ·have:k=w:=by omega
  subst this
  refine sumValue_spec Z (by omega) ?_
  intro sv Av nv cv h5 l5 z5
  have l05:=Heap.le_trans lg (Heap.le_trans Z.le l5)
  refine ⟨_,_,_,_,rfl,l5,?_⟩
  refine zmul_spec (m:=1+k*m+m) (id1.mono l05) (id2.mono l05) (hd1.mono (by omega)) (hd2.mono (by omega)) (by omega) ?_
  intro s6 A6 n6 c6 h6 l6 z6
  refine ⟨_,_,_,_,rfl,l6,?_⟩
  have l06:=Heap.le_trans l05 l6
  have e1:∀ j,j<k->(scl (f j) (lcmD f k:Int):Rat)=f j*((lcmD f k:Int):Rat):=fun j hj=>scl_eq (Int.natCast_dvd_natCast.2 (lcmD_dvd f k j hj))
  have e2:∀ j,j<k->(scl (f2 j) (lcmD f2 k:Int):Rat)=f2 j*((lcmD f2 k:Int):Rat):=fun j hj=>scl_eq (Int.natCast_dvd_natCast.2 (lcmD_dvd f2 k j hj))
  have es:=smZ_eq e1 e2 k (Nat.le_refl _)
  have hp1:=lcmD_pos f k
  have hp2:=lcmD_pos f2 k
  have hne:((lcmD f k:Int)*(lcmD f2 k:Int))≠0:=Int.mul_ne_zero (by omega) (by omega)
  have zb:ZB (2*(1+k*m+m)+14) (smZ (fun j=>scl (f j) (lcmD f k:Int)) (fun j=>scl (f2 j) (lcmD f2 k:Int)) k):=smZ_zb hx hy (by omega)
  refine fraction_spec (m:=2*(1+k*m+m)+14) (gl.mono l06).tz (z5.mono l6) z6 zb ((hd1.mul hd2).mono (by omega)) (by omega) ?_
  intro q h7 l7 i7
  refine ⟨_,_,_,_,_,_,_,_,rfl,l7,hK q h7 (Heap.le_trans l06 l7) ?_⟩
  have:Rat.divInt (smZ (fun j=>scl (f j) (lcmD f k:Int)) (fun j=>scl (f2 j) (lcmD f2 k:Int)) k) ((lcmD f k:Int)*(lcmD f2 k:Int))=sm k (fun j=>f j*f2 j):=by
   rw [Rat.divInt_eq_div,es]
   exact Rat.mul_div_cancel (ratCast_ne hne)
  rw [this] at i7
  exact i7
end
end Go.Proofs.YthilnfgnpdeofaaGreatDoor
/-
 The rows of a matrix as vectors.
-/
namespace Go.Proofs.YthilnfgnpdeofaaGreatDoor
open Go
set_option maxRecDepth 20000
theorem slT_vecs:Tryz.prog.cellsOf ty_tVecs=1/\(Tryz.prog.info? ty_tVecs).isSome=true:=by constructor<;>kernel_rfl
section
variable {h:Heap} {K:Value->Heap->Prop} {A:Option Addr} {cap m rows cols:Nat} {E:Nat->Rat}
theorem vectors_spec(gl:Gl h)(r:RowV RQr h A (rows*cols) E)(hcap:rows*cols<=cap)(hr2:rows<=10000)(hc:1<=cols)(hc2:cols<=10000)(hs:∀ i,i<rows*cols->Sz m (E i))(hm:1+cols*m+m<=6400000000)
 (hK:∀ A' c' h',h.le h'->RowV (VQr cols) h' A' rows (rowF E cols)->K (.slice A' rows c') h'):FCall Tryz.prog f_MVectors #[.slice A (rows*cols) cap,I (cols:Int)] h K:=by
 refine MVectors_ok _ _ _ _ ?_
 unfold MVectors
 have hrc:rows*cols<=100000000:=by
  have:rows*cols<=10000*10000:=Nat.mul_le_mul hr2 hc2
  omega
 refine alloc_ok (z:=.slice none 0 0) (by kernel_rfl) ?_
 intro bp hbp
 refine ⟨_,rfl,?_⟩
 have s0:=(Sep.refl h).new hbp (.cells #[.slice none 0 0] ty_tVecs)
 refine s0.call (chunk_spec hc ?_)
 intro v g0 l0 ic hp3 s3
 have bound:∀ k,k<rows->∀ j,j<cols->Sz m (E (k*cols+j)):=fun k hk j hj=>hs _ (idx_lt hk hj)
 refine ⟨_,rfl,range_chunk ic hc (by omega) hcap (fun k hp=>∃ (g1 o1:Heap) (vs:List VV) (A1:Option Addr) (c1:Nat),g0.le g1/\Sep hp g1 o1/\(∃ e,o1 bp=some (.cells #[.slice A1 k c1] e))/\OwnSl o1 ty_tVecs_e A1 c1 vs/\A1≠some ⟨bp,0,none⟩/\vs.length=k/\Row (VQr cols) g1 vs k (rowF E cols)) ?_ ?_ ?_ ?_⟩
 ·exact ⟨g0,_,[],none,0,Heap.le_refl _,s3,⟨_,Heap.put_same _ _ _⟩,OwnSl.nil,by simp,rfl,Row.nil⟩
 ·rintro k hp ⟨g1,o1,vs,A1,c1,lg,s1,_⟩
  exact Heap.le_trans lg s1.le
 ·rintro k hp4 hkr ⟨g1,o1,vs,A1,c1,lg1,s4,⟨e,hbo⟩,ow,ha,hvl,rr⟩
  have bk:=bound k hkr
  have hkc:(k+1)*cols<=rows*cols:=Nat.mul_le_mul_right _ hkr
  have hk1:(k+1)*cols=k*cols+cols:=by rw [Nat.add_mul,Nat.one_mul]
  have lh1:=Heap.le_trans l0 lg1
  have row0:RowV RQr h A ((k+1)*cols) E:=by
   have:=r.cut (c:=cap) (l:=0) (k:=(k+1)*cols) (by omega) hcap
   rw [cutA_zero] at this
   exact this.congr fun i _=>by rw [Nat.zero_add]
  have row1:RowV RQr h (cutA A ((k+1)*cols) (k*cols) 4) cols (rowF E cols k):=row0.cut (c:=(k+1)*cols) (l:=k*cols) (k:=cols) (by omega) (Nat.le_refl _)
  have cp:hp4.cell? ⟨bp,0,none⟩=some (.slice A1 k c1):=s4.cell (by unfold Heap.cell?;simp only [hbo];rfl)
  refine ⟨_,_,_,rfl,_,_,_,cp,s4.call (newVec_spec (gl.mono lh1) (row1.mono monRQ lh1) (by omega) bk hm ?_)⟩
  intro w g2 l2 iw hp5 s5
  refine ⟨_,_,_,_,_,_,_,rfl,s4.le_le s5 l2,?_⟩
  subst hvl
  refine OwnSl.push (ty:=ty_tVecs) tVecs s5 ow (y:=w) (v:=w.v) rfl (by decide) (by omega) (by omega) (K1:=fun hq=>hp5.le hq) (fun _ l=>l) ?_
  intro A3 c3 h6 g6 o6 l6 s6 ow6 kp
  have k2:=kp bp _ hbo ha
  show wpH _ (Instr.storeAt _ (.pointer (some (Addr.add ⟨bp,0,none⟩ 0))) _) _ _
  refine Sep.set1 slT_vecs rfl rfl s6 k2.1 (by simp) ?_
  intro h7 o7 s7 eo
  exact ⟨g6,o7,vs++[w],A3,c3,Heap.le_trans lg1 (Heap.le_trans l2 l6),s7,⟨e,by rw [eo,Heap.put_same];simp⟩,ow6.keep fun b y hb he=>by rw [eo,Heap.put_other _ _ (fun e=>k2.2 (by rw [<- e];exact hb))];exact he,k2.2,by simp,by
   have:=(Row.push (rr.mono (monVQ cols) (Heap.le_trans l2 l6)) (monVQ cols _ _ _ _ l6 iw))
   simpa using this⟩
 ·rintro hp4 ⟨g1,o1,vs,A1,c1,lg1,s4,⟨e,hbo⟩,ow,ha,hvl,rr⟩
  have cp:hp4.cell? ⟨bp,0,none⟩=some (.slice A1 rows c1):=s4.cell (by unfold Heap.cell?;simp only [hbo];rfl)
  exact ⟨_,_,_,cp,hK A1 c1 hp4 (Heap.le_trans l0 (Heap.le_trans lg1 s4.le)) ⟨vs,ow.slF s4.ole,hvl,rr.mono (monVQ cols) s4.le⟩⟩
end
end Go.Proofs.YthilnfgnpdeofaaGreatDoor
/-
 The reference's sums and multiples of matrices.
-/
namespace Go.Proofs.YthilnfgnpdeofaaGreatDoor
open Go
set_option maxRecDepth 20000
section
variable {h:Heap} {K:Value->Heap->Prop} {A B:Option Addr} {n n2 cap cap2 m:Nat} {r c r2 c2:Int} {la lb:Nat->List UInt8} {w:QV} {q:Rat}
end
end Go.Proofs.YthilnfgnpdeofaaGreatDoor
/-
 The reference's Dot and Act.
-/
namespace Go.Proofs.YthilnfgnpdeofaaGreatDoor
open Go
set_option maxRecDepth 20000
section
variable {h:Heap} {K:Value->Heap->Prop} {A B:Option Addr} {n w cap cap2 m:Nat} {f f2:Nat->Rat} {R:Nat->Nat->Rat}
theorem sm_sz(hs:∀ i,i<w->Sz m (f i))(hs2:∀ i,i<w->Sz m (f2 i)):∀ k,k<=w->Sz (1+k*(2*m+1)) (sm k (fun j=>f j*f2 j)):=by
 intro k
 induction k with
 | zero=>intro _;exact Sz.zero (by omega)
 | succ k ih=>
  intro hk
  have h1:=ih (by omega)
  have h2:=(hs k (by omega)).mul (hs2 k (by omega))
  have e:1+(k+1)*(2*m+1)=1+k*(2*m+1)+(m+m)+1:=by rw [Nat.add_mul];omega
  rw [e]
  exact h1.add h2
theorem fdot_spec(ra:RowV NQr h A w f)(rb:RowV NQr h B w f2)(hw:w<=10000)(hs:∀ i,i<w->Sz m (f i))(hs2:∀ i,i<w->Sz m (f2 i))(hm:1+w*(2*m+1)+2*m<=400000000)
 (hK:∀ v h',h.le h'->NQ h' v (sm w (fun j=>f j*f2 j))->K v.v h'):FCall Tryz.prog f_FDot #[.slice A w cap,.slice B w cap2] h K:=by
 refine FDot_ok _ _ _ _ _ _ ?_
 unfold FDot
 refine ⟨fun L hp=>∃ (k:Nat) (v:QV),k<=w/\L=I (k:Int)::qc v/\h.le hp/\NQ hp v (sm k (fun j=>f j*f2 j)),fun L _=>w-(iAt L 0).toNat,⟨0,zeroQ,by omega,rfl,Heap.le_refl _,NQ.zero⟩,?_⟩
 rintro z d0 d1A d1n d1c d2 d3A d3n d3c hp ⟨k,v,hk,eL,l,iv⟩
 simp only [List.cons.injEq,Value.int.injEq,true_and] at eL
 obtain ⟨rfl,eL⟩:=eL
 obtain ⟨rfl,_⟩:=qc_eq (by simpa only [List.cons.injEq,Value.bool.injEq,Value.slice.injEq,and_true] using eL:(.bool d0:Value) :: .slice d1A d1n d1c :: .bool d2 :: .slice d3A d3n d3c::[]= .bool v.s :: .slice v.A v.n v.c :: .bool v.s2 :: .slice v.A2 v.n2 v.c2::[])
 refine Br.dec (fun hlt=>?_) (fun hge=>?_)
 ·have hkw:k<w:=by omega
  obtain ⟨a5,w5,e5,n5,c0,c1,c2,c3⟩:=(ra.mono monNQ l).qat hkw
  obtain ⟨a6,w6,e6,n6,g0,g1,g2,g3⟩:=(rb.mono monNQ l).qat hkw
  have hkm:k*(2*m+1)<=w*(2*m+1):=Nat.mul_le_mul_right _ hk
  refine ⟨a5,e5,by omega,by omega,_,_,_,_,_,_,_,_,c0,c1,c2,c3,a6,e6,by omega,by omega,_,_,_,_,_,_,_,_,g0,g1,g2,g3,?_⟩
  refine rmul_spec (a:=w5) (b:=w6) n5 n6 (hs k hkw) (hs2 k hkw) (by omega) ?_
  intro w7 h7 l7 i7
  refine ⟨_,_,_,_,_,_,_,_,rfl,l7,?_⟩
  refine radd_spec (a:=⟨d0,d1A,d1n,d1c,d2,d3A,d3n,d3c⟩) (b:=w7) (m:=1+k*(2*m+1)+2*m) (NQ.mono l7 iv) i7 ((sm_sz hs hs2 k hk).mono (by omega)) (((hs k hkw).mul (hs2 k hkw)).mono (by omega)) (by omega) ?_
  intro w8 h8 l8 i8
  rw [show wi64 ((k:Int)+1)=((k+1:Nat):Int) by rw [wi64_id]<;>omega]
  refine ⟨_,_,_,_,_,_,_,_,rfl,l8,⟨k+1,w8,by omega,rfl,Heap.le_trans l (Heap.le_trans l7 l8),i8⟩,?_⟩
  show w-((k+1:Nat):Int).toNat<w-(k:Int).toNat
  omega
 ·have:k=w:=by omega
  subst this
  exact hK ⟨d0,d1A,d1n,d1c,d2,d3A,d3n,d3c⟩ hp l iv
theorem fact_spec(rs:RowsV h A n w R)(rx:RowV NQr h B w f)(hn:n<=10000)(hw:w<=10000)(hs:∀ i j,i<n->j<w->Sz m (R i j))(hs2:∀ i,i<w->Sz m (f i))(hm:1+w*(2*m+1)+2*m<=400000000)
 (hK:∀ b h',Own NQr h h' b n (fun i=>sm w (fun j=>R i j*f j))->K (.slice (some ⟨b,0,none⟩) n n) h'):FCall Tryz.prog f_FAct #[.slice A n cap,.slice B w cap2] h K:=by
 refine FAct_ok _ _ _ _ _ _ ?_
 unfold FAct
 refine makeF_ok tRats (zx:=zeroQ) rfl (by omega) (by omega) (by omega) (by omega) ?_
 intro b hb
 simp only [Int.toNat_natCast]
 refine ⟨_,_,_,rfl,fun L hp=>∃ k:Nat,k<=n/\L=[I (k:Int)]/\OwnK NQr h hp b n k (fun i=>sm w (fun j=>R i j*f j)),fun L _=>n-(iAt L 0).toNat,⟨0,by omega,rfl,OwnK.zero hb⟩,?_⟩
 rintro z hp ⟨k,hk,eL,g,o,xs,lg,s,rb,hx,rr⟩
 obtain rfl:z=(k:Int):=by simpa using eL
 refine Br.dec (fun hlt=>?_) (fun hge=>?_)
 ·have hkn:k<n:=by omega
  obtain ⟨a1,s1,ea1,f1,f2',hc1,row1⟩:=rs.at hkn
  refine ⟨a1,ea1,by omega,by omega,_,_,_,Heap.cell?_le (Heap.le_trans lg s.le) hc1,?_⟩
  rw [f1]
  refine s.call (fdot_spec (row1.mono monNQ lg) (rx.mono monNQ lg) hw (fun j hj=>hs k j hkn hj) hs2 hm ?_)
  intro v g2 l2 iv h2 s2
  refine ⟨_,_,_,_,_,_,_,_,rfl,_,rfl,by omega,by omega,?_⟩
  refine OwnK.store monNQ tRats_one (y:=v) lg l2 s2 rb hx rr hkn rfl iv ?_
  intro h3 ow
  rw [show wi64 ((k:Int)+1)=((k+1:Nat):Int) by rw [wi64_id]<;>omega]
  exact ⟨⟨k+1,by omega,rfl,ow⟩,by simp only [iAt0];omega⟩
 ·have:k=n:=by omega
  subst this
  exact hK b hp ⟨g,o,xs,lg,s,rb,hx,rr⟩
end
end Go.Proofs.YthilnfgnpdeofaaGreatDoor
/-
 The reference's Apply.
-/
namespace Go.Proofs.YthilnfgnpdeofaaGreatDoor
open Go
set_option maxRecDepth 20000
structure VOut where
 n:Nat
 f:Nat->List UInt8
 e:Int
def noV(e:Int):VOut:=⟨0,fun _=>[],e⟩
def ApplO(r c:Int)(n:Nat)(la:Nat->List UInt8)(n2:Nat)(lx:Nat->List UInt8)(o:VOut):Prop:=
 (¬ (Mx r c n la/\∀ i,i<n2->IsNum (lx i))/\o=noV 1)\/(Mx r c n la/\(∀ i,i<n2->IsNum (lx i))/\(n2:Int)≠c/\o=noV 4)\/(∃ rows cols,MOk r c n la rows cols/\(∀ i,i<n2->IsNum (lx i))/\(n2:Int)=c/\o=⟨rows,fun i=>txtQ (sm cols (fun j=>mtx (rvs la) cols i j*rv (lx j))),0⟩)
theorem ApplO.eq{r c:Int}{n n2:Nat}{la lx:Nat->List UInt8}{o p:VOut}(x:ApplO r c n la n2 lx o)(y:ApplO r c n la n2 lx p):o=p:=by
 rcases x with ⟨h1,rfl⟩|⟨h1,h2,h3,rfl⟩|⟨r1,c1,h1,h2,h3,rfl⟩<;>rcases y with ⟨g1,rfl⟩|⟨g1,g2,g3,rfl⟩|⟨r2,c2,g1,g2,g3,rfl⟩
 ·rfl
 ·exact absurd ⟨g1,g2⟩ h1
 ·exact absurd ⟨⟨_,_,g1⟩,g2⟩ h1
 ·exact absurd ⟨h1,h2⟩ g1
 ·rfl
 ·exact absurd g3 h3
 ·exact absurd ⟨⟨_,_,h1⟩,h2⟩ g1
 ·exact absurd h3 g3
 ·obtain rfl:r2=r1:=by have:=h1.er;have:=g1.er;omega
  obtain rfl:c2=c1:=by have:=h1.ec;have:=g1.ec;omega
  rfl
section
variable {h:Heap} {K:Value->Heap->Prop} {A B:Option Addr} {n n2 cap cap2 m:Nat} {r c:Int} {la lx:Nat->List UInt8}
theorem fapply_spec(ra:RowV SSr h A n la)(rx:RowV SSr h B n2 lx)(hn:n<=1000000)(hn2:n2<=1000000)(hl:∀ i,i<n->(la i).length<=100000000)(hl2:∀ i,i<n2->(lx i).length<=100000000)(hs:∀ i,i<n->Sz m (rv (la i)))(hs2:∀ i,i<n2->Sz m (rv (lx i)))(hm:1+64*(2*m+1)+2*m<=400000000)
 (hK:∀ o,ApplO r c n la n2 lx o->∀ A' cap' h',h.le h'->RowV SSr h' A' o.n o.f->K (.tuple #[.slice A' o.n cap',I o.e]) h'):FCall Tryz.prog f_FApply #[matV r c A n cap,.slice B n2 cap2] h K:=by
 refine FApply_ok _ _ _ _ _ _ _ _ ?_
 unfold FApply
 have bad:¬ (Mx r c n la/\∀ i,i<n2->IsNum (lx i))->∀ h',h.le h'->K (.tuple #[.slice none 0 0,I 1]) h':=fun hx h' l=>hK (noV 1) (.inl ⟨hx,rfl⟩) none 0 h' l RowV.nil
 refine frows_spec ra hn hl (fun rows cols mk b1 h1 l1 rs=>⟨_,_,_,_,rfl,?_⟩) (fun hno h1 l1=>⟨_,_,_,_,rfl,?_⟩)
 ·refine nums_spec (rx.mono monSS l1) hn2 hl2 (fun hnum b2 h2 own=>⟨_,_,_,_,rfl,Br.nt (Br.nt ?_)⟩) (fun hno h2 l2=>⟨_,_,_,_,rfl,Br.nt (Br.nf (bad (fun x=>hno x.2) h2 (Heap.le_trans l1 l2)))⟩)
  have l2:=own.le
  have lh2:=Heap.le_trans l1 l2
  refine Br.bne (fun e=>hK (noV 4) (.inr (.inl ⟨⟨_,_,mk⟩,hnum,e,rfl⟩)) none 0 h2 lh2 RowV.nil) (fun e=>?_)
  have good:=hK _ (.inr (.inr ⟨rows,cols,mk,hnum,e,rfl⟩))
  have:=mk.r2;have:=mk.c2
  obtain rfl:n2=cols:=by have:=mk.ec;omega
  obtain ⟨rfl,rfl,_,_,_,_,rfl,_⟩:=id mk
  have ms:=mtx_sz hs
  have hkm:n2*(2*m+1)<=64*(2*m+1):=Nat.mul_le_mul_right _ mk.c2
  refine fact_spec (m:=m) (RowsV.mono l2 rs) (own.vis monNQ) (by omega) (by omega) ms hs2 (by omega) ?_
  intro b3 h3 own3
  refine ⟨_,_,_,rfl,?_⟩
  refine texts_spec (m:=1+n2*(2*m+1)) (own3.vis monNQ) (by omega) (fun i hi=>sm_sz (fun j hj=>ms i j hi hj) hs2 n2 (Nat.le_refl _)) (by omega) ?_
  intro b4 h4 own4
  exact ⟨_,_,_,rfl,good _ _ h4 (Heap.le_trans lh2 (Heap.le_trans own3.le own4.le)) (own4.vis monSS)⟩
 ·refine nums_spec (rx.mono monSS l1) hn2 hl2 (fun hnum b2 h2 own=>⟨_,_,_,_,rfl,Br.nf (bad (fun x=>hno x.1) h2 (Heap.le_trans l1 own.le))⟩) (fun _ h2 l2=>⟨_,_,_,_,rfl,Br.nf (bad (fun x=>hno x.1) h2 (Heap.le_trans l1 l2))⟩)
end
end Go.Proofs.YthilnfgnpdeofaaGreatDoor
/-
 The program's Apply.
-/
namespace Go.Proofs.YthilnfgnpdeofaaGreatDoor
open Go
set_option maxRecDepth 20000
section
variable {h:Heap} {K:Value->Heap->Prop} {A B:Option Addr} {n n2 cap cap2 m:Nat} {r c:Int} {la lx:Nat->List UInt8}
theorem RowV.vat{w n:Nat}{f:Nat->Nat->Rat}(r:RowV (VQr w) h A n f){i:Nat}(hi:i<n):∃ a v,A=some a/\VQr w h v (f i)/\h.cell? (Addr.add (Addr.add a (i*3)) 0)=some (.slice v.A v.n v.c)/\h.cell? (Addr.add (Addr.add a (i*3)) 1)=some (.bool v.s)/\h.cell? (Addr.add (Addr.add a (i*3)) 2)=some (.slice v.B v.bn v.bc):=by
 obtain ⟨a,v,e,q,hc⟩:=RowV.at (by decide) r hi
 exact ⟨a,v,e,q,hc 0 _ rfl,hc 1 _ rfl,hc 2 _ rfl⟩
theorem mapply_spec(gl:Gl h)(ra:RowV SSr h A n la)(rx:RowV SSr h B n2 lx)(hn:n<=1000000)(hn2:n2<=1000000)(hl:∀ i,i<n->(la i).length<=100000000)(hl2:∀ i,i<n2->(lx i).length<=100000000)(hs:∀ i,i<n->Sz m (rv (la i)))(hs2:∀ i,i<n2->Sz m (rv (lx i)))(hm1:1<=m)(hm:2*(1+64*(2*m+1)+2*m)+14<=40000000)
 (hK:∀ o,ApplO r c n la n2 lx o->∀ A' cap' h',h.le h'->RowV SSr h' A' o.n o.f->K (.tuple #[.slice A' o.n cap',I o.e]) h'):FCall Tryz.prog f_MApply #[matV r c A n cap,.slice B n2 cap2] h K:=by
 refine MApply_ok _ _ _ _ _ _ _ _ ?_
 unfold MApply
 have bad:¬ (Mx r c n la/\∀ i,i<n2->IsNum (lx i))->∀ h',h.le h'->K (.tuple #[.slice none 0 0,I 1]) h':=fun hx h' l=>hK (noV 1) (.inl ⟨hx,rfl⟩) none 0 h' l RowV.nil
 refine mread_spec gl ra hn hl (fun rows cols mk b1 h1 own=>?_) (fun hno h1 l1=>⟨_,_,_,_,rfl,?_⟩)
 ·have l1:=own.le
  refine ⟨_,_,_,_,rfl,readAll_spec (gl.mono l1) (rx.mono monSS l1) hn2 hl2 (fun hnum b2 h2 own2=>⟨_,_,_,_,rfl,Br.nt (Br.nt ?_)⟩) (fun hno h2 l2=>⟨_,_,_,_,rfl,Br.nt (Br.nf (bad (fun x=>hno x.2) h2 (Heap.le_trans l1 l2)))⟩)⟩
  have l2:=own2.le
  have lh2:=Heap.le_trans l1 l2
  refine Br.bne (fun e=>hK (noV 4) (.inr (.inl ⟨⟨_,_,mk⟩,hnum,e,rfl⟩)) none 0 h2 lh2 RowV.nil) (fun e=>?_)
  have good:=hK _ (.inr (.inr ⟨rows,cols,mk,hnum,e,rfl⟩))
  have:=mk.r1;have:=mk.r2;have:=mk.c1;have:=mk.c2
  obtain rfl:n2=cols:=by have:=mk.ec;omega
  obtain ⟨rfl,rfl,_,_,_,_,rfl,_⟩:=id mk
  have ms:=mtx_sz hs
  have hkm:n2*(2*m+1)<=64*(2*m+1):=Nat.mul_le_mul_right _ mk.c2
  have hkm2:n2*m<=64*m:=Nat.mul_le_mul_right _ mk.c2
  refine newVec_spec (m:=m) (gl.mono lh2) (own2.vis monRQ) (by omega) hs2 (by omega) ?_
  intro w h3 l3 iw
  refine ⟨_,_,_,_,_,_,_,rfl,?_⟩
  refine makeF_ok tStrings (zx:=([]:List UInt8)) rfl (by omega) (by omega) (by omega) (by omega) ?_
  intro b hb
  simp only [Int.toNat_natCast]
  refine ⟨_,_,_,rfl,Sep.call ((Sep.refl h3).new hb _) (vectors_spec (m:=m) (gl.mono (Heap.le_trans lh2 l3)) ((own.vis monRQ).mono monRQ (Heap.le_trans l2 l3)) (Nat.le_refl _) (by omega) (by omega) (by omega) hs (by omega) ?_)⟩
  intro A4 c4 g4 l4 rv4 h4 s4
  have lg4:=Heap.le_trans lh2 (Heap.le_trans l3 l4)
  refine ⟨_,_,_,rfl,fun L hp=>∃ (k:Nat) (g o:Heap) (xs:List (List UInt8)) (A':Option Addr) (c':Nat),k<=rows/\L=[.slice A' k c',I (k:Int)]/\g4.le g/\Sep hp g o/\OwnSl o ty_tStrings_e A' c' xs/\xs.length=k/\Row SSr g xs k (fun i=>txtQ (sm n2 (fun j=>mtx (rvs la) n2 i j*rv (lx j)))),fun L _=>rows-(iAt L 1).toNat,
   ⟨0,g4,_,[],_,_,by omega,rfl,Heap.le_refl _,s4,OwnSl.room,rfl,Row.nil⟩,?_⟩
  rintro rA rn rc z hp ⟨k,g,o,xs,A',c',hk,eL,lg,s,ow,hxl,rr⟩
  simp only [List.cons.injEq,Value.int.injEq,Value.slice.injEq,true_and,and_true] at eL
  obtain ⟨⟨rfl,rfl,rfl⟩,rfl⟩:=eL
  refine Br.dec (fun hlt=>?_) (fun hge=>?_)
  ·have hkr:rn<rows:=by omega
   obtain ⟨a,v,ea,iv,c0,c1,c2'⟩:=(rv4.mono (monVQ n2) lg).vat hkr
   refine ⟨a,ea,by omega,by omega,_,_,_,_,_,_,_,Heap.cell?_le s.le c0,Heap.cell?_le s.le c1,Heap.cell?_le s.le c2',?_⟩
   refine s.call (times_spec (m:=m) (v:=v) (u:=w) (gl.mono (Heap.le_trans lg4 lg)) iv (monVQ n2 _ _ _ _ (Heap.le_trans l4 lg) iw) (by omega) (fun j hj=>ms rn j hkr hj) hs2 hm1 (by omega) ?_)
   intro q g5 l5 iq h5 s5
   refine ⟨_,_,_,_,_,_,_,_,rfl,s5.call (rstring_spec (gl.mono (Heap.le_trans lg4 (Heap.le_trans lg l5))).p10 iq (sm_sz (fun j hj=>ms rn j hkr hj) hs2 n2 (Nat.le_refl _)) (by omega) ?_)⟩
   intro h6 s6
   refine ⟨_,rfl,?_⟩
   refine OwnSl.push' (ty:=ty_tStrings) tStrings s6 ow hxl.symm (y:=txtQ (sm n2 (fun j=>mtx (rvs la) n2 rn j*rv (lx j)))) rfl (by decide) (by omega) (by omega) ?_
   intro A7 c7 h7 g7 o7 l7 s7 ow7 _
   rw [hxl,show wi64 ((rn:Int)+1)=((rn+1:Nat):Int) by rw [wi64_id]<;>omega]
   refine ⟨⟨rn+1,g7,o7,_,A7,c7,by omega,rfl,Heap.le_trans lg (Heap.le_trans l5 l7),s7,ow7,by rw [List.length_append,hxl];rfl,?_⟩,?_⟩
   ·have rB:=Row.push (R:=SSr) (g:=g7) (xs:=xs) (f:=fun i=>txtQ (sm n2 (fun j=>mtx (rvs la) n2 i j*rv (lx j)))) (by rw [hxl];exact rr.mono monSS (Heap.le_trans l5 l7)) (w:=txtQ (sm n2 (fun j=>mtx (rvs la) n2 rn j*rv (lx j)))) (by rw [hxl])
    rw [List.length_append,hxl] at rB
    exact rB
   ·show rows-((rn+1:Nat):Int).toNat<rows-(rn:Int).toNat
    omega
  ·have:rn=rows:=by omega
   subst this
   exact good rA rc hp (Heap.le_trans lg4 (Heap.le_trans lg s.le)) ⟨xs,ow.slF s.ole,hxl,rr.mono monSS s.le⟩
 ·refine readAll_spec (gl.mono l1) (rx.mono monSS l1) hn2 hl2 (fun hnum b2 h2 own2=>⟨_,_,_,_,rfl,Br.nf (bad (fun x=>hno x.1) h2 (Heap.le_trans l1 own2.le))⟩) (fun _ h2 l2=>⟨_,_,_,_,rfl,Br.nf (bad (fun x=>hno x.1) h2 (Heap.le_trans l1 l2))⟩)
end
end Go.Proofs.YthilnfgnpdeofaaGreatDoor
/-
 The program's Mul.
-/
namespace Go.Proofs.YthilnfgnpdeofaaGreatDoor
open Go
set_option maxRecDepth 20000
def MulO(r c:Int)(n:Nat)(la:Nat->List UInt8)(r2 c2:Int)(n2:Nat)(lb:Nat->List UInt8)(o:MOut):Prop:=
 (¬ (Mx r c n la/\Mx r2 c2 n2 lb)/\o=noM 1)\/(Mx r c n la/\Mx r2 c2 n2 lb/\c≠r2/\o=noM 4)\/(∃ rows mid cols,MOk r c n la rows mid/\MOk r2 c2 n2 lb mid cols/\o=⟨r,c2,rows*cols,fun k=>txtQ (sm mid (fun j=>mtx (rvs la) mid (k/cols) j*mtx (rvs lb) cols j (k%cols))),0⟩)
theorem MulO.eq{r c r2 c2:Int}{n n2:Nat}{la lb:Nat->List UInt8}{o p:MOut}(x:MulO r c n la r2 c2 n2 lb o)(y:MulO r c n la r2 c2 n2 lb p):o=p:=by
 rcases x with ⟨h1,rfl⟩|⟨h1,h2,h3,rfl⟩|⟨a1,b1,c1,h1,h2,rfl⟩<;>rcases y with ⟨g1,rfl⟩|⟨g1,g2,g3,rfl⟩|⟨a2,b2,c2,g1,g2,rfl⟩
 ·rfl
 ·exact absurd ⟨g1,g2⟩ h1
 ·exact absurd ⟨⟨_,_,g1⟩,⟨_,_,g2⟩⟩ h1
 ·exact absurd ⟨h1,h2⟩ g1
 ·rfl
 ·exact absurd (by rw [g1.ec,g2.er]) h3
 ·exact absurd ⟨⟨_,_,h1⟩,⟨_,_,h2⟩⟩ g1
 ·exact absurd (by rw [h1.ec,h2.er]) g3
 ·obtain rfl:a2=a1:=by have:=h1.er;have:=g1.er;omega
  obtain rfl:b2=b1:=by have:=h1.ec;have:=g1.ec;omega
  obtain rfl:c2=c1:=by have:=h2.ec;have:=g2.ec;omega
  rfl
theorem MulO.n_le{r c r2 c2:Int}{n n2:Nat}{la lb:Nat->List UInt8}{o:MOut}(x:MulO r c n la r2 c2 n2 lb o):o.n<=4096:=by
 rcases x with ⟨_,rfl⟩|⟨_,_,_,rfl⟩|⟨a1,b1,c1,h1,h2,rfl⟩
 ·exact Nat.zero_le _
 ·exact Nat.zero_le _
 ·have:a1*c1<=64*64:=Nat.mul_le_mul h1.r2 h2.c2
  exact this
theorem lcmD_congr{f f':Nat->Rat}: ∀ n,(∀ i,i<n->f i=f' i)->lcmD f n=lcmD f' n:=by
 intro n
 induction n with
 | zero=>intro _;rfl
 | succ n ih=>
  intro e
  show Nat.lcm (lcmD f n) (f n).den=Nat.lcm (lcmD f' n) (f' n).den
  rw [ih fun i hi=>e i (by omega),e n (by omega)]
theorem VQr.congr{h:Heap}{w:Nat}{v:VV}{f f':Nat->Rat}(x:VQr w h v f)(e:∀ i,i<w->f i=f' i):VQr w h v f':=by
 have hd:lcmD f w=lcmD f' w:=lcmD_congr w e
 obtain ⟨a,b,c⟩:=x
 rw [hd] at b c
 exact ⟨a,b,c.congr fun j hj=>by rw [e j hj]⟩
section
variable {h:Heap} {K:Value->Heap->Prop} {A B:Option Addr} {n n2 cap cap2 m:Nat} {r c r2 c2:Int} {la lb:Nat->List UInt8} {E:Nat->Rat}
theorem mtransQO_spec{rows cols:Nat}(rv':RowV RQr h A (rows*cols) E)(hr:rows<=10000)(hc:cols<=10000)
 (hK:∀ A' c' h' g' o' xs,h.le g'->Sep h' g' o'->OwnSl o' ty_tRqs_e A' c' xs->xs.length=rows*cols->Row RQr g' xs (rows*cols) (fun k=>E (k%rows*cols+k/rows))->K (.slice A' (rows*cols) c') h'):FCall Tryz.prog f_MTransposeQ #[.slice A (rows*cols) cap,I (rows:Int),I (cols:Int)] h K:=by
 refine MTransposeQ_ok _ _ _ _ _ ?_
 unfold MTransposeQ
 have hrc:rows*cols<=10000*10000:=Nat.mul_le_mul hr hc
 refine makeF_ok tRqs (zx:=zeroQ) rfl (by omega) (by omega) (by omega) (by omega) ?_
 intro b hb
 simp only [Int.toNat_natCast]
 refine ⟨_,_,_,rfl,fun L hp=>∃ (j:Nat) (g o:Heap) (xs:List QV) (A':Option Addr) (c':Nat),j<=cols/\L=[.slice A' (j*rows) c',I (j:Int)]/\h.le g/\Sep hp g o/\OwnSl o ty_tRqs_e A' c' xs/\xs.length=j*rows/\Row RQr g xs (j*rows) (fun k=>E (k%rows*cols+k/rows)),fun L _=>cols-(iAt L 1).toNat,
  ⟨0,h,noHeap.put b _,[],some ⟨b,0,none⟩,rows*cols,by omega,by rw [Nat.zero_mul];rfl,Heap.le_refl _,Sep.single hb,OwnSl.room,by simp,by rw [Nat.zero_mul];exact Row.nil⟩,?_⟩
 rintro rA rn rc z hp ⟨j,g,o,xs,A',c',hj,eL,lg,s,ow,hxl,rr⟩
 simp only [List.cons.injEq,Value.int.injEq,Value.slice.injEq,true_and,and_true] at eL
 obtain ⟨⟨rfl,rfl,rfl⟩,rfl⟩:=eL
 refine Br.dec (fun hlt=>?_) (fun hge=>?_)
 ·have hjc:j<cols:=by omega
  have hj1:(j+1)*rows=j*rows+rows:=by rw [Nat.add_mul,Nat.one_mul]
  have hjr:(j+1)*rows<=cols*rows:=Nat.mul_le_mul_right _ hjc
  rw [Nat.mul_comm cols rows] at hjr
  refine ⟨fun L hp=>∃ (i:Nat) (g o:Heap) (xs:List QV) (A':Option Addr) (c':Nat),i<=rows/\L=[.slice A' (j*rows+i) c',I (i:Int)]/\h.le g/\Sep hp g o/\OwnSl o ty_tRqs_e A' c' xs/\xs.length=j*rows+i/\Row RQr g xs (j*rows+i) (fun k=>E (k%rows*cols+k/rows)),fun L _=>rows-(iAt L 1).toNat,
   ⟨0,g,o,xs,rA,rc,by omega,rfl,lg,s,ow,hxl,rr⟩,?_⟩
  rintro qA qn qc z hp2 ⟨i,g2,o2,ys,A2,c2,hi,eL,lg2,s2,ow2,hyl,rr2⟩
  simp only [List.cons.injEq,Value.int.injEq,Value.slice.injEq,true_and,and_true] at eL
  obtain ⟨⟨rfl,rfl,rfl⟩,rfl⟩:=eL
  refine Br.dec (fun hlt2=>?_) (fun hge2=>?_)
  ·have hir:i<rows:=by omega
   have hidx:=idx_lt hir hjc
   have ew:wi64 (wi64 ((i:Int)*(cols:Int))+(j:Int))=((i*cols+j:Nat):Int):=by
    rw [<- Int.natCast_mul,wi64_nat (by omega)]
    exact wi64_nat (n:=i*cols+j) (by omega)
   rw [ew]
   obtain ⟨a,w,ea,iw,c0,c1,c2',c3⟩:=(rv'.mono monRQ lg2).qat hidx
   refine ⟨a,ea,by omega,by omega,_,_,_,_,_,_,_,_,Heap.cell?_le s2.le c0,Heap.cell?_le s2.le c1,Heap.cell?_le s2.le c2',Heap.cell?_le s2.le c3,?_⟩
   refine OwnSl.push' (ty:=ty_tRqs) tRqs s2 ow2 hyl.symm (y:=w) rfl (by decide) (by rw [hyl];omega) (by rw [hyl];omega) ?_
   intro A3 c3 h3 g3 o3 l3 s3 ow3 _
   rw [hyl,show wi64 ((i:Int)+1)=((i+1:Nat):Int) by rw [wi64_id]<;>omega]
   refine ⟨⟨i+1,g3,o3,_,A3,c3,by omega,by rw [Nat.add_assoc],Heap.le_trans lg2 l3,s3,ow3,by rw [List.length_append,hyl];rfl,?_⟩,?_⟩
   ·have rB:=Row.push (R:=RQr) (g:=g3) (xs:=ys) (f:=fun k=>E (k%rows*cols+k/rows)) (by rw [hyl];exact rr2.mono monRQ l3) (w:=w) (by
     show RQ g3 w (E (ys.length%rows*cols+ys.length/rows))
     rw [hyl,Nat.add_comm (j*rows) i,Nat.add_mul_mod_self_right,Nat.mod_eq_of_lt hir,Nat.add_mul_div_right _ _ (by omega),Nat.div_eq_of_lt hir,Nat.zero_add]
     exact monRQ _ _ _ _ l3 iw)
    rw [List.length_append,hyl] at rB
    exact rB
   ·show rows-((i+1:Nat):Int).toNat<rows-(i:Int).toNat
    omega
  ·have:i=rows:=by omega
   subst this
   rw [show wi64 ((j:Int)+1)=((j+1:Nat):Int) by rw [wi64_id]<;>omega,<- hj1]
   rw [<- hj1] at hyl rr2
   refine ⟨⟨j+1,g2,o2,ys,qA,qc,by omega,rfl,lg2,s2,ow2,hyl,rr2⟩,?_⟩
   show cols-((j+1:Nat):Int).toNat<cols-(j:Int).toNat
   omega
 ·have:j=cols:=by omega
  subst this
  rw [Nat.mul_comm j rows] at hxl rr ⊢
  exact hK rA rc hp g o xs lg s ow hxl rr
theorem mtransQ_spec{rows cols:Nat}(rv':RowV RQr h A (rows*cols) E)(hr:rows<=10000)(hc:cols<=10000)
 (hK:∀ A' c' h',h.le h'->rows*cols<=c'->RowV RQr h' A' (rows*cols) (fun k=>E (k%rows*cols+k/rows))->K (.slice A' (rows*cols) c') h'):FCall Tryz.prog f_MTransposeQ #[.slice A (rows*cols) cap,I (rows:Int),I (cols:Int)] h K:=
 mtransQO_spec rv' hr hc fun A' c' h' _ _ xs lg s ow hxl rr=>hK A' c' h' (Heap.le_trans lg s.le) (by have:=ow.1;omega) ⟨xs,ow.slF s.ole,hxl,rr.mono monRQ s.le⟩
theorem mmul_spec(gl:Gl h)(ra:RowV SSr h A n la)(rb:RowV SSr h B n2 lb)(hn:n<=1000000)(hn2:n2<=1000000)(hl:∀ i,i<n->(la i).length<=100000000)(hl2:∀ i,i<n2->(lb i).length<=100000000)(hs:∀ i,i<n->Sz m (rv (la i)))(hs2:∀ i,i<n2->Sz m (rv (lb i)))(hm1:1<=m)(hm:2*(1+64*(2*m+1)+2*m)+14<=40000000)
 (hK:∀ o,MulO r c n la r2 c2 n2 lb o->∀ A' cap' h',h.le h'->RowV SSr h' A' o.n o.f->K (.tuple #[matV o.r o.c A' o.n cap',I o.e]) h'):FCall Tryz.prog f_MMul #[matV r c A n cap,matV r2 c2 B n2 cap2] h K:=by
 refine MMul_ok _ _ _ _ _ _ _ _ _ _ ?_
 unfold MMul
 have bad:¬ (Mx r c n la/\Mx r2 c2 n2 lb)->∀ h',h.le h'->K (.tuple #[matV 0 0 none 0 0,I 1]) h':=fun hx h' l=>hK (noM 1) (.inl ⟨hx,rfl⟩) none 0 h' l RowV.nil
 refine mread_spec gl ra hn hl (fun rows mid mk b1 h1 own=>?_) (fun hno h1 l1=>⟨_,_,_,_,rfl,?_⟩)
 ·have l1:=own.le
  refine ⟨_,_,_,_,rfl,mread_spec (gl.mono l1) (rb.mono monSS l1) hn2 hl2 (fun mid2 cols mk2 b2 h2 own2=>⟨_,_,_,_,rfl,Br.nt (Br.nt ?_)⟩) (fun hno h2 l2=>⟨_,_,_,_,rfl,Br.nt (Br.nf (bad (fun x=>hno x.2) h2 (Heap.le_trans l1 l2)))⟩)⟩
  have l2:=own2.le
  have lh2:=Heap.le_trans l1 l2
  refine Br.bne (fun e=>hK (noM 4) (.inr (.inl ⟨⟨_,_,mk⟩,⟨_,_,mk2⟩,e,rfl⟩)) none 0 h2 lh2 RowV.nil) (fun e=>?_)
  obtain rfl:mid2=mid:=by have:=mk.ec;have:=mk2.er;omega
  have good:=hK _ (.inr (.inr ⟨rows,mid2,cols,mk,mk2,rfl⟩))
  have:=mk.r1;have:=mk.r2;have:=mk.c1;have:=mk.c2;have:=mk2.c1;have:=mk2.c2
  obtain ⟨rfl,rfl,_,_,_,_,rfl,_⟩:=id mk
  obtain ⟨rfl,rfl,_,_,_,_,rfl,_⟩:=id mk2
  clear e
  have ms:=mtx_sz hs
  have ms2:=mtx_sz hs2
  have hkm:mid2*(2*m+1)<=64*(2*m+1):=Nat.mul_le_mul_right _ mk.c2
  have hkm2:mid2*m<=64*m:=Nat.mul_le_mul_right _ mk.c2
  have hrc:rows*cols<=64*64:=Nat.mul_le_mul (by omega) (by omega)
  refine vectors_spec (m:=m) (gl.mono lh2) ((own.vis monRQ).mono monRQ l2) (Nat.le_refl _) (by omega) (by omega) (by omega) hs (by omega) ?_
  intro A3 c3 h3 l3 rv3
  refine ⟨_,_,_,rfl,?_⟩
  refine mtransQ_spec ((own2.vis monRQ).mono monRQ l3) (by omega) (by omega) ?_
  intro A4 c4 h4 l4 hc4 rv4
  refine ⟨_,_,_,rfl,l4,?_⟩
  have lh4:=Heap.le_trans lh2 (Heap.le_trans l3 l4)
  rw [Nat.mul_comm mid2 cols] at rv4 hc4 ⊢
  refine vectors_spec (m:=m) (gl.mono lh4) rv4 hc4 (by omega) (by omega) (by omega) (fun i hi=>?_) (by omega) ?_
  ·have hi2:i/mid2<cols:=Nat.div_lt_of_lt_mul (by rw [Nat.mul_comm];exact hi)
   exact hs2 _ (idx_lt (Nat.mod_lt i (show 0<mid2 by omega)) hi2)
  intro A5 c5 h5 l5 rv5'
  have rv5:RowV (VQr mid2) h5 A5 cols (fun j i=>mtx (rvs lb) cols i j):=by
   obtain ⟨vs,sv,el,rr⟩:=rv5'
   refine ⟨vs,sv,el,fun j hj=>?_⟩
   obtain ⟨w,e1,hw⟩:=rr j hj
   refine ⟨w,e1,?_⟩
   have:=VQr.congr (f':=fun i=>mtx (rvs lb) cols i j) hw fun i hi=>?_
   ·exact this
   ·show rvs lb ((j*mid2+i)%mid2*cols+(j*mid2+i)/mid2)=rvs lb (i*cols+j)
    rw [Nat.add_comm (j*mid2) i,Nat.add_mul_mod_self_right,Nat.mod_eq_of_lt hi,Nat.add_mul_div_right _ _ (by omega),Nat.div_eq_of_lt hi,Nat.zero_add]
  clear rv5'
  refine ⟨_,_,_,rfl,l5,?_⟩
  have lh5:=Heap.le_trans lh4 l5
  have l35:=Heap.le_trans l4 l5
  have ewm:wi64 ((rows:Int)*(cols:Int))=((rows*cols:Nat):Int):=by rw [<- Int.natCast_mul];exact wi64_nat (by omega)
  rw [ewm]
  refine makeF_ok tRqs (zx:=zeroQ) rfl (by omega) (by omega) (by omega) (by omega) ?_
  intro b hb
  simp only [Int.toNat_natCast]
  have sz:∀ i j,i<rows->j<cols->Sz (1+64*(2*m+1)) (sm mid2 (fun t=>mtx (rvs la) mid2 i t*mtx (rvs lb) cols t j)):=fun i j hi hj=>(sm_sz (f:=fun t=>mtx (rvs la) mid2 i t) (f2:=fun t=>mtx (rvs lb) cols t j) (fun t ht=>ms i t hi ht) (fun t ht=>ms2 t j ht hj) mid2 (Nat.le_refl _)).mono (by omega)
  refine ⟨_,_,_,rfl,fun L hp=>∃ (k:Nat) (g o:Heap) (xs:List QV) (A':Option Addr) (c':Nat),k<=rows/\L=[.slice A' (k*cols) c',I (k:Int)]/\h5.le g/\Sep hp g o/\OwnSl o ty_tRqs_e A' c' xs/\xs.length=k*cols/\Row RQr g xs (k*cols) (fun k=>sm mid2 (fun j=>mtx (rvs la) mid2 (k/cols) j*mtx (rvs lb) cols j (k%cols))),fun L _=>rows-(iAt L 1).toNat,
   ⟨0,h5,noHeap.put b _,[],some ⟨b,0,none⟩,rows*cols,by omega,by rw [Nat.zero_mul];rfl,Heap.le_refl _,Sep.single hb,OwnSl.room,by simp,by rw [Nat.zero_mul];exact Row.nil⟩,?_⟩
  rintro rA rn rc z hp ⟨k,g,o,xs,A',c',hk,eL,lg,s,ow,hxl,rr⟩
  simp only [List.cons.injEq,Value.int.injEq,Value.slice.injEq,true_and,and_true] at eL
  obtain ⟨⟨rfl,rfl,rfl⟩,rfl⟩:=eL
  refine Br.dec (fun hlt=>?_) (fun hge=>?_)
  ·have hkr:k<rows:=by omega
   have hj1:(k+1)*cols=k*cols+cols:=by rw [Nat.add_mul,Nat.one_mul]
   have hjr:(k+1)*cols<=rows*cols:=Nat.mul_le_mul_right _ hkr
   obtain ⟨a,v,ea,iv,c0,c1,c2'⟩:=(rv3.mono (monVQ mid2) (Heap.le_trans l35 lg)).vat hkr
   refine ⟨a,ea,by omega,by omega,_,_,_,_,_,_,_,Heap.cell?_le s.le c0,Heap.cell?_le s.le c1,Heap.cell?_le s.le c2',?_⟩
   refine ⟨fun L hp=>∃ (j:Nat) (g' o:Heap) (xs:List QV) (A':Option Addr) (c':Nat),j<=cols/\L=[.slice A' (k*cols+j) c',I (j:Int)]/\g.le g'/\Sep hp g' o/\OwnSl o ty_tRqs_e A' c' xs/\xs.length=k*cols+j/\Row RQr g' xs (k*cols+j) (fun k=>sm mid2 (fun j=>mtx (rvs la) mid2 (k/cols) j*mtx (rvs lb) cols j (k%cols))),fun L _=>cols-(iAt L 1).toNat,
    ⟨0,g,o,xs,rA,rc,by omega,rfl,Heap.le_refl _,s,ow,hxl,rr⟩,?_⟩
   rintro qA qn qc z hp2 ⟨j,g2,o2,ys,A2,c2,hj,eL,lg2,s2,ow2,hyl,rr2⟩
   simp only [List.cons.injEq,Value.int.injEq,Value.slice.injEq,true_and,and_true] at eL
   obtain ⟨⟨rfl,rfl,rfl⟩,rfl⟩:=eL
   refine Br.dec (fun hlt2=>?_) (fun hge2=>?_)
   ·have hjc:j<cols:=by omega
    obtain ⟨a6,u,ea6,iu,d0,d1,d2⟩:=(rv5.mono (monVQ mid2) (Heap.le_trans lg lg2)).vat hjc
    refine ⟨a6,ea6,by omega,by omega,_,_,_,_,_,_,_,Heap.cell?_le s2.le d0,Heap.cell?_le s2.le d1,Heap.cell?_le s2.le d2,?_⟩
    refine s2.call (times_spec (m:=m) (v:=v) (u:=u) (gl.mono (Heap.le_trans lh5 (Heap.le_trans lg lg2))) (monVQ mid2 _ _ _ _ lg2 iv) iu (by omega) (fun t ht=>ms k t hkr ht) (fun t ht=>ms2 t j ht hjc) hm1 (by omega) ?_)
    intro q g7 l7 iq h7 s7
    refine ⟨_,_,_,_,_,_,_,_,rfl,?_⟩
    refine OwnSl.push' (ty:=ty_tRqs) tRqs s7 ow2 hyl.symm (y:=q) rfl (by decide) (by rw [hyl];omega) (by rw [hyl];omega) ?_
    intro A8 c8 h8 g8 o8 l8 s8 ow8 _
    rw [hyl,show wi64 ((j:Int)+1)=((j+1:Nat):Int) by rw [wi64_id]<;>omega]
    refine ⟨⟨j+1,g8,o8,_,A8,c8,by omega,by rw [Nat.add_assoc],Heap.le_trans lg2 (Heap.le_trans l7 l8),s8,ow8,by rw [List.length_append,hyl];rfl,?_⟩,?_⟩
    ·have rB:=Row.push (R:=RQr) (g:=g8) (xs:=ys) (f:=fun k=>sm mid2 (fun j=>mtx (rvs la) mid2 (k/cols) j*mtx (rvs lb) cols j (k%cols))) (by rw [hyl];exact rr2.mono monRQ (Heap.le_trans l7 l8)) (w:=q) (by
      show RQ g8 q (sm mid2 (fun t=>mtx (rvs la) mid2 (ys.length/cols) t*mtx (rvs lb) cols t (ys.length%cols)))
      rw [hyl,Nat.add_comm (k*cols) j,Nat.add_mul_mod_self_right,Nat.mod_eq_of_lt hjc,Nat.add_mul_div_right _ _ (by omega),Nat.div_eq_of_lt hjc,Nat.zero_add]
      exact monRQ _ _ _ _ l8 iq)
     rw [List.length_append,hyl] at rB
     exact rB
    ·show cols-((j+1:Nat):Int).toNat<cols-(j:Int).toNat
     omega
   ·have:j=cols:=by omega
    subst this
    rw [show wi64 ((k:Int)+1)=((k+1:Nat):Int) by rw [wi64_id]<;>omega,<- hj1]
    rw [<- hj1] at hyl rr2
    refine ⟨⟨k+1,g2,o2,ys,qA,qc,by omega,rfl,Heap.le_trans lg lg2,s2,ow2,hyl,rr2⟩,?_⟩
    show rows-((k+1:Nat):Int).toNat<rows-(k:Int).toNat
    omega
  ·have:k=rows:=by omega
   subst this
   have lh6:=Heap.le_trans lh5 (Heap.le_trans lg s.le)
   have rq:RowV RQr hp rA (k*cols) (fun t=>sm mid2 (fun j=>mtx (rvs la) mid2 (t/cols) j*mtx (rvs lb) cols j (t%cols))):=⟨xs,ow.slF s.ole,hxl,rr.mono monRQ s.le⟩
   refine mwrite_spec (m:=1+64*(2*m+1)) (gl.mono lh6) rq (by omega) (fun t ht=>?_) (by omega) ?_
   ·exact sz _ _ (Nat.div_lt_of_lt_mul (by rw [Nat.mul_comm];exact ht)) (Nat.mod_lt t (show 0<cols by omega))
   intro b9 h9 own9
   exact ⟨_,_,_,_,_,rfl,good _ _ h9 (Heap.le_trans lh6 own9.le) (own9.vis monSS)⟩
 ·refine mread_spec (gl.mono l1) (rb.mono monSS l1) hn2 hl2 (fun mid2 cols mk2 b2 h2 own2=>⟨_,_,_,_,rfl,Br.nf (bad (fun x=>hno x.1) h2 (Heap.le_trans l1 own2.le))⟩) (fun _ h2 l2=>⟨_,_,_,_,rfl,Br.nf (bad (fun x=>hno x.1) h2 (Heap.le_trans l1 l2))⟩)
end
end Go.Proofs.YthilnfgnpdeofaaGreatDoor
/-
 The reference's Times and Mul.
-/
namespace Go.Proofs.YthilnfgnpdeofaaGreatDoor
open Go
set_option maxRecDepth 20000
def prodP(P Q:Nat->Nat->Rat)(w i k j:Nat):Nat->Nat->Rat:=fun a b=>if a<i then sm w (fun t=>P a t*Q t b) else if a=i then (if b<j then sm (k+1) (fun t=>P a t*Q t b) else sm k (fun t=>P a t*Q t b)) else 0
theorem prodP_start(P Q:Nat->Nat->Rat)(w a b:Nat):prodP P Q w 0 0 0 a b=0:=by
 unfold prodP
 rw [if_neg (Nat.not_lt_zero a),if_neg (Nat.not_lt_zero b)]
 split<;>rfl
theorem prodP_step(P Q:Nat->Nat->Rat)(w i k j a b:Nat):updQ (prodP P Q w i k j) i j (sm k (fun t=>P i t*Q t j)+P i k*Q k j) a b=prodP P Q w i k (j+1) a b:=by
 unfold updQ prodP
 by_cases e:a=i/\b=j
 ·obtain ⟨rfl,rfl⟩:=e
  rw [if_pos ⟨rfl,rfl⟩,if_neg (Nat.lt_irrefl a),if_pos rfl,if_pos (Nat.lt_succ_self b)]
  rfl
 ·rw [if_neg e]
  by_cases h1:a<i
  ·rw [if_pos h1,if_pos h1]
  ·rw [if_neg h1,if_neg h1]
   by_cases h2:a=i
   ·rw [if_pos h2,if_pos h2]
    by_cases h3:b<j
    ·rw [if_pos h3,if_pos (by omega)]
    ·rw [if_neg h3,if_neg (by omega)]
   ·rw [if_neg h2,if_neg h2]
theorem prodP_next(P Q:Nat->Nat->Rat){w i k j c:Nat}(h:j=c\/P i k=0){a b:Nat}(hb:b<c):prodP P Q w i k j a b=prodP P Q w i (k+1) 0 a b:=by
 unfold prodP
 by_cases h1:a<i
 ·rw [if_pos h1,if_pos h1]
 ·rw [if_neg h1,if_neg h1]
  by_cases h2:a=i
  ·subst h2
   rw [if_pos rfl,if_pos rfl,if_neg (Nat.not_lt_zero b)]
   by_cases h3:b<j
   ·rw [if_pos h3]
   ·rw [if_neg h3]
    rcases h with h|h
    ·omega
    ·show _=sm k (fun t=>P a t*Q t b)+P a k*Q k b
     rw [h,Rat.zero_mul,Rat.add_zero]
  ·rw [if_neg h2,if_neg h2]
theorem prodP_row(P Q:Nat->Nat->Rat)(w i a b:Nat):prodP P Q w i w 0 a b=prodP P Q w (i+1) 0 0 a b:=by
 unfold prodP
 by_cases h1:a<i
 ·rw [if_pos h1,if_pos (by omega)]
 ·rw [if_neg h1]
  by_cases h2:a=i
  ·rw [if_pos h2,if_neg (Nat.not_lt_zero b),if_pos (by omega)]
  ·rw [if_neg h2,if_neg (by omega)]
   split
   ·rw [if_neg (Nat.not_lt_zero b)];rfl
   ·rfl
section
variable {h:Heap} {K:Value->Heap->Prop} {A B:Option Addr} {n n2 cap cap2 m w cols:Nat} {r c r2 c2:Int} {la lb:Nat->List UInt8} {P Q:Nat->Nat->Rat}
theorem ftimes_spec(ra:RowsV h A n w P)(rb:RowsV h B w cols Q)(hn1:1<=n)(hn:n<=10000)(hw1:1<=w)(hw:w<=10000)(hc1:1<=cols)(hc:cols<=10000)(hs:∀ i j,i<n->j<w->Sz m (P i j))(hs2:∀ i j,i<w->j<cols->Sz m (Q i j))(hm:1+w*(2*m+1)+2*m<=400000000)
 (hK:∀ bo h',h.le h'->RowsV h' (some ⟨bo,0,none⟩) n cols (fun a b=>sm w (fun t=>P a t*Q t b))->K (.slice (some ⟨bo,0,none⟩) n n) h'):FCall Tryz.prog f_FTimes #[.slice A n cap,.slice B w cap2] h K:=by
 refine FTimes_ok _ _ _ _ _ _ ?_
 unfold FTimes
 obtain ⟨aB,sB,eB,fB1,fB2,hcB,_⟩:=rb.at (i:=0) (by omega)
 refine ⟨aB,eB,by omega,by omega,_,_,_,hcB,?_⟩
 rw [fB1]
 refine fblank_spec hn hc ?_
 intro h1 g1 o1 bo rbo l1 t1
 refine ⟨_,_,_,rfl,fun L hp=>∃ (i:Nat) (g o:Heap),i<=n/\L=[I (i:Int)]/\h.le g/\Mt hp g o bo rbo n cols (prodP P Q w i 0 0),fun L _=>n-(iAt L 0).toNat,⟨0,g1,o1,by omega,rfl,l1,t1.congr fun a b _ _=>(prodP_start P Q w a b).symm⟩,?_⟩
 rintro z hp ⟨i,g,o,hi,eL,lg,t⟩
 obtain rfl:z=(i:Int):=by simpa using eL
 refine Br.dec (fun hlt=>?_) (fun hge=>?_)
 ·have hin:i<n:=by omega
  obtain ⟨a1,s1,ea1,f1,f2,hc1,row1⟩:=ra.at hin
  refine ⟨fun L hp=>∃ (k:Nat) (g o:Heap),k<=w/\L=[I (k:Int)]/\h.le g/\Mt hp g o bo rbo n cols (prodP P Q w i k 0),fun L _=>w-(iAt L 0).toNat,⟨0,g,o,by omega,rfl,lg,t⟩,?_⟩
  rintro z hp2 ⟨k,g2,o2,hk,eL2,lg2,t2⟩
  obtain rfl:z=(k:Int):=by simpa using eL2
  refine Br.dec (fun hlt2=>?_) (fun hge2=>?_)
  ·have hkw:k<w:=by omega
   obtain ⟨a2,s2,ea2,f3,f4,hc2,row2⟩:=rb.at hkw
   refine ⟨fun L hp=>∃ (j:Nat) (g o:Heap),j<=cols/\L=[I (j:Int)]/\h.le g/\Mt hp g o bo rbo n cols (prodP P Q w i k j),fun L _=>cols-(iAt L 0).toNat,⟨0,g2,o2,by omega,rfl,lg2,t2⟩,?_⟩
   rintro z hp3 ⟨j,g3,o3,hj,eL3,lg3,t3⟩
   obtain rfl:z=(j:Int):=by simpa using eL3
   have lhp:=Heap.le_trans lg3 t3.sep.le
   have next:(j=cols\/P i k=0)->((∃ (k':Nat) (g o:Heap),k'<=w/\[I (wi64 ((k:Int)+1))]=[I (k':Int)]/\h.le g/\Mt hp3 g o bo rbo n cols (prodP P Q w i k' 0))/\w-(iAt [I (wi64 ((k:Int)+1))] 0).toNat<w-(iAt [I (k:Int)] 0).toNat):=by
    intro hx
    rw [show wi64 ((k:Int)+1)=((k+1:Nat):Int) by rw [wi64_id]<;>omega]
    exact ⟨⟨k+1,g3,o3,by omega,rfl,lg3,t3.congr fun a b _ hb=>prodP_next P Q hx hb⟩,by simp only [iAt0];omega⟩
   refine ⟨aB,eB,by omega,by omega,_,_,_,Heap.cell?_le lhp hcB,?_⟩
   rw [fB1]
   refine Br.dec (fun hlt3=>?_) (fun hge3=>next (.inl (by omega)))
   have hjc:j<cols:=by omega
   obtain ⟨a5,w5,e5,n5,c0,c1,c2',c3⟩:=(row1.mono monNQ lg3).qat hkw
   obtain ⟨a6,w6,e6,n6,d0,d1,d2,d3⟩:=(row2.mono monNQ lg3).qat hjc
   obtain ⟨cc,hcc,hh⟩:=t3.head hin
   obtain ⟨x,ix,x0,x1,x2,x3⟩:=t3.elem hin hjc
   refine ⟨a1,ea1,by omega,by omega,_,_,_,Heap.cell?_le lhp hc1,a5,e5,by omega,by omega,_,_,_,_,_,_,_,_,Heap.cell?_le t3.sep.le c0,Heap.cell?_le t3.sep.le c1,Heap.cell?_le t3.sep.le c2',Heap.cell?_le t3.sep.le c3,?_⟩
   refine rsign_spec (NQ.mono t3.sep.le n5) ⟨_,rfl,Br.bne (fun hne=>?_) (fun he=>next (.inr (by rw [Int.sign_eq_zero_iff_zero] at he;exact Rat.num_eq_zero.1 he)))⟩
   refine ⟨_,rfl,by omega,by omega,_,_,_,t3.sep.cell hh,_,rfl,by omega,by omega,_,_,_,t3.sep.cell hh,_,rfl,by omega,by omega,_,_,_,_,_,_,_,_,t3.sep.cell x0,t3.sep.cell x1,t3.sep.cell x2,t3.sep.cell x3,a1,ea1,by omega,by omega,_,_,_,Heap.cell?_le lhp hc1,a5,e5,by omega,by omega,_,_,_,_,_,_,_,_,Heap.cell?_le t3.sep.le c0,Heap.cell?_le t3.sep.le c1,Heap.cell?_le t3.sep.le c2',Heap.cell?_le t3.sep.le c3,a2,ea2,by omega,by omega,_,_,_,Heap.cell?_le lhp hc2,a6,e6,by omega,by omega,_,_,_,_,_,_,_,_,Heap.cell?_le t3.sep.le d0,Heap.cell?_le t3.sep.le d1,Heap.cell?_le t3.sep.le d2,Heap.cell?_le t3.sep.le d3,?_⟩
   refine t3.sep.call (rmul_spec (a:=w5) (b:=w6) n5 n6 (hs i k hin hkw) (hs2 k j hkw hjc) (by omega) ?_)
   intro w7 g7 l7 i7 h7 s7
   refine ⟨_,_,_,_,_,_,_,_,rfl,t3.sep.le_le s7 l7,?_⟩
   have ev:prodP P Q w i k j i j=sm k (fun t=>P i t*Q t j):=by
    unfold prodP
    rw [if_neg (Nat.lt_irrefl i),if_pos rfl,if_neg (Nat.lt_irrefl j)]
   rw [ev] at ix
   have hkm:k*(2*m+1)<=w*(2*m+1):=Nat.mul_le_mul_right _ hk
   refine s7.call (radd_spec (a:=x) (b:=w7) (m:=1+k*(2*m+1)+2*m) (NQ.mono l7 ix) i7 ((sm_sz (f:=fun t=>P i t) (f2:=fun t=>Q t j) (fun t ht=>hs i t hin ht) (fun t ht=>hs2 t j ht hjc) k hk).mono (by omega)) (((hs i k hin hkw).mul (hs2 k j hkw hjc)).mono (by omega)) (by omega) ?_)
   intro w8 g8 l8 i8 h8 s8
   have t8:Mt h8 g8 o3 bo rbo n cols (prodP P Q w i k j):=t3.next s8 (Heap.le_trans l7 l8)
   refine ⟨_,_,_,_,_,_,_,_,rfl,s7.le_le s8 l8,_,rfl,by omega,by omega,?_⟩
   refine t8.store hin hjc i8 ?_
   intro h9 o9 t9 _
   rw [show wi64 ((j:Int)+1)=((j+1:Nat):Int) by rw [wi64_id]<;>omega]
   exact ⟨⟨j+1,g8,o9,by omega,rfl,Heap.le_trans lg3 (Heap.le_trans l7 l8),t9.congr fun a b _ _=>prodP_step P Q w i k j a b⟩,by simp only [iAt0];omega⟩
  ·have:k=w:=by omega
   subst this
   rw [show wi64 ((i:Int)+1)=((i+1:Nat):Int) by rw [wi64_id]<;>omega]
   exact ⟨⟨i+1,g2,o2,by omega,rfl,lg2,t2.congr fun a b _ _=>prodP_row P Q k i a b⟩,by simp only [iAt0];omega⟩
 ·have:i=n:=by omega
  subst this
  exact hK bo hp (Heap.le_trans lg t.sep.le) ((t.rowsV).congr fun a b ha _=>by unfold prodP;rw [if_pos ha])
theorem fmul_spec(ra:RowV SSr h A n la)(rb:RowV SSr h B n2 lb)(hn:n<=1000000)(hn2:n2<=1000000)(hl:∀ i,i<n->(la i).length<=100000000)(hl2:∀ i,i<n2->(lb i).length<=100000000)(hs:∀ i,i<n->Sz m (rv (la i)))(hs2:∀ i,i<n2->Sz m (rv (lb i)))(hm:1+64*(2*m+1)+2*m<=400000000)
 (hK:∀ o,MulO r c n la r2 c2 n2 lb o->∀ A' cap' h',h.le h'->RowV SSr h' A' o.n o.f->K (.tuple #[matV o.r o.c A' o.n cap',I o.e]) h'):FCall Tryz.prog f_FMul #[matV r c A n cap,matV r2 c2 B n2 cap2] h K:=by
 refine FMul_ok _ _ _ _ _ _ _ _ _ _ ?_
 unfold FMul
 have bad:¬ (Mx r c n la/\Mx r2 c2 n2 lb)->∀ h',h.le h'->K (.tuple #[matV 0 0 none 0 0,I 1]) h':=fun hx h' l=>hK (noM 1) (.inl ⟨hx,rfl⟩) none 0 h' l RowV.nil
 refine frows_spec ra hn hl (fun rows mid mk b1 h1 l1 rs=>⟨_,_,_,_,rfl,?_⟩) (fun hno h1 l1=>⟨_,_,_,_,rfl,?_⟩)
 ·refine frows_spec (rb.mono monSS l1) hn2 hl2 (fun mid2 cols mk2 b2 h2 l2 rs2=>⟨_,_,_,_,rfl,Br.nt (Br.nt ?_)⟩) (fun hno h2 l2=>⟨_,_,_,_,rfl,Br.nt (Br.nf (bad (fun x=>hno x.2) h2 (Heap.le_trans l1 l2)))⟩)
  have lh2:=Heap.le_trans l1 l2
  refine Br.bne (fun e=>hK (noM 4) (.inr (.inl ⟨⟨_,_,mk⟩,⟨_,_,mk2⟩,e,rfl⟩)) none 0 h2 lh2 RowV.nil) (fun e=>?_)
  obtain rfl:mid2=mid:=by have:=mk.ec;have:=mk2.er;omega
  have good:=hK _ (.inr (.inr ⟨rows,mid2,cols,mk,mk2,rfl⟩))
  have:=mk.r1;have:=mk.r2;have:=mk.c1;have:=mk.c2;have:=mk2.c1;have:=mk2.c2
  obtain ⟨rfl,rfl,_,_,_,_,rfl,_⟩:=id mk
  obtain ⟨rfl,rfl,_,_,_,_,rfl,_⟩:=id mk2
  clear e
  have ms:=mtx_sz hs
  have ms2:=mtx_sz hs2
  have hkm:mid2*(2*m+1)<=64*(2*m+1):=Nat.mul_le_mul_right _ mk.c2
  refine ftimes_spec (m:=m) (RowsV.mono l2 rs) rs2 (by omega) (by omega) (by omega) (by omega) (by omega) (by omega) ms ms2 (by omega) ?_
  intro bo h3 l3 r3
  refine ⟨_,_,_,rfl,?_⟩
  refine fpack_spec (m:=1+64*(2*m+1)) r3 (by omega) (by omega) (by omega) (by omega) (fun i j hi hj=>(sm_sz (f:=fun t=>mtx (rvs la) mid2 i t) (f2:=fun t=>mtx (rvs lb) cols t j) (fun t ht=>ms i t hi ht) (fun t ht=>ms2 t j ht hj) mid2 (Nat.le_refl _)).mono (by omega)) (by omega) ?_
  intro A3 c3 h4 l4 hc3 r4
  exact ⟨_,_,_,_,_,rfl,good A3 c3 h4 (Heap.le_trans lh2 (Heap.le_trans l3 l4)) r4⟩
 ·refine frows_spec (rb.mono monSS l1) hn2 hl2 (fun mid2 cols2 mk2 b2 h2 l2 rs2=>⟨_,_,_,_,rfl,Br.nf (bad (fun x=>hno x.1) h2 (Heap.le_trans l1 l2))⟩) (fun _ h2 l2=>⟨_,_,_,_,rfl,Br.nf (bad (fun x=>hno x.1) h2 (Heap.le_trans l1 l2))⟩)
end
end Go.Proofs.YthilnfgnpdeofaaGreatDoor
/-
 The law of Transpose,Add,Sub and Scale.
-/
namespace Go.Proofs.YthilnfgnpdeofaaGreatDoor
open Go
set_option maxRecDepth 20000
theorem Br.t1{X Y:Prop}(x:X):Br true X Y:=x
section
variable {h:Heap} {K:Value->Heap->Prop} {A B:Option Addr} {n n2 cap cap2 m:Nat} {r c r2 c2:Int} {la lb:Nat->List UInt8}
def TransO(r c:Int)(n:Nat)(ls:Nat->List UInt8)(o:MOut):Prop:=
 (∃ rows cols,MOk r c n ls rows cols/\o=⟨c,r,n,fun k=>ls (k%rows*cols+k/rows),0⟩)\/(¬ Mx r c n ls/\o=noM 1)
theorem TransO.eq{o p:MOut}(x:TransO r c n la o)(y:TransO r c n la p):o=p:=by
 rcases x with ⟨r1,c1,m1,rfl⟩|⟨h1,rfl⟩<;>rcases y with ⟨r2,c2,m2,rfl⟩|⟨g1,rfl⟩
 ·obtain rfl:r2=r1:=by have:=m1.er;have:=m2.er;omega
  obtain rfl:c2=c1:=by have:=m1.ec;have:=m2.ec;omega
  rfl
 ·exact absurd ⟨_,_,m1⟩ g1
 ·exact absurd ⟨_,_,m2⟩ h1
 ·rfl
theorem TransO.n_le{o:MOut}(x:TransO r c n la o):o.n<=n:=by
 rcases x with ⟨_,_,_,rfl⟩|⟨_,rfl⟩
 ·exact Nat.le_refl _
 ·exact Nat.zero_le _
theorem CombO.n_le{q:Rat}{o:MOut}(x:CombO r c n la r2 c2 n2 lb q o):o.n<=n:=by
 rcases x with ⟨_,rfl⟩|⟨_,_,_,rfl⟩|⟨_,_,_,_,rfl⟩
 ·exact Nat.zero_le _
 ·exact Nat.zero_le _
 ·exact Nat.le_refl _
theorem ScalO.n_le{s:List UInt8}{o:MOut}(x:ScalO s r c n la o):o.n<=n:=by
 rcases x with ⟨_,rfl⟩|⟨_,_,rfl⟩
 ·exact Nat.zero_le _
 ·exact Nat.le_refl _
end
end Go.Proofs.YthilnfgnpdeofaaGreatDoor
/-
 The law of Mul and Apply.
-/
namespace Go.Proofs.YthilnfgnpdeofaaGreatDoor
open Go
set_option maxRecDepth 20000
theorem ApplO.n_le{r c:Int}{n n2:Nat}{la lx:Nat->List UInt8}{o:VOut}(x:ApplO r c n la n2 lx o):o.n<=64:=by
 rcases x with ⟨_,rfl⟩|⟨_,_,_,rfl⟩|⟨a,b,h1,_,_,rfl⟩
 ·exact Nat.zero_le _
 ·exact Nat.zero_le _
 ·exact h1.r2
section
variable {h:Heap} {K:Value->Heap->Prop} {A B C:Option Addr} {n n2 n3 cap cap2 cap3 m:Nat} {r c r2 c2:Int} {la lb lx:Nat->List UInt8}
theorem law_matrixProducts(gl:Gl h)(s1:RowV SSr h A n la)(s2:RowV SSr h B n2 lb)(s3:RowV SSr h C n3 lx):FCall Tryz.prog f_LMatrixProducts #[matV r c A n cap,matV r2 c2 B n2 cap2,.slice C n3 cap3] h (LawK h):=by
 refine LMatrixProducts_ok _ _ _ _ _ _ _ _ _ _ _ _ _ ?_
 unfold LMatrixProducts
 have aw:∀ h',h.le h'->FCall Tryz.prog f_LAwake #[] h' (fun r hp=>∃ t,r= .bool t/\LawK h (.bool t) hp):=fun h' l=>awake_spec (gl.mono l) fun h'' l''=>⟨_,rfl,rfl,Heap.le_trans l l''⟩
 refine lsmall_spec s1 (fun sm1=>⟨_,rfl,Br.nt ?_⟩) (fun _=>⟨_,rfl,Br.nf (aw h (Heap.le_refl _))⟩)
 refine lsmall_spec s2 (fun sm2=>⟨_,rfl,Br.nt ?_⟩) (fun _=>⟨_,rfl,Br.nf (aw h (Heap.le_refl _))⟩)
 refine Br.dec (fun _=>aw h (Heap.le_refl _)) (fun hsz=>?_)
 refine kshort_spec s3 (by omega) (fun hsh=>⟨_,rfl,Br.nt ?_⟩) (fun _=>⟨_,rfl,Br.nf (aw h (Heap.le_refl _))⟩)
 have hn:n<=1000000:=by have:=sm1.hn;omega
 have hn2:n2<=1000000:=by have:=sm2.hn;omega
 have hn3:n3<=1000000:=by omega
 have hl:∀ i,i<n->(la i).length<=100000000:=fun i hi=>by have:=sm1.hl i hi;omega
 have hl2:∀ i,i<n2->(lb i).length<=100000000:=fun i hi=>by have:=sm2.hl i hi;omega
 have hl3:∀ i,i<n3->(lx i).length<=100000000:=fun i hi=>by have:=hsh i hi;omega
 have hs:∀ i,i<n->Sz 80 (rv (la i)):=fun i hi=>rv_sz (k:=20) (by have:=sm1.hl i hi;omega) (by omega)
 have hs2:∀ i,i<n2->Sz 80 (rv (lb i)):=fun i hi=>rv_sz (k:=20) (by have:=sm2.hl i hi;omega) (by omega)
 have hs3:∀ i,i<n3->Sz 80 (rv (lx i)):=fun i hi=>rv_sz (k:=20) (by have:=hsh i hi;omega) (by omega)
 refine mmul_spec (m:=80) gl s1 s2 hn hn2 hl hl2 hs hs2 (by omega) (by omega) ?_
 intro o1 ho1 A1 c1 h1 l1 r1
 refine ⟨_,_,_,_,_,_,rfl,?_⟩
 refine fmul_spec (m:=80) (s1.mono monSS l1) (s2.mono monSS l1) hn hn2 hl hl2 hs hs2 (by omega) ?_
 intro p1 hp1 A2 c2' h2 l2 r2'
 obtain rfl:=ho1.eq hp1
 refine ⟨_,_,_,_,_,_,rfl,?_⟩
 have l02:=Heap.le_trans l1 l2
 refine mapply_spec (m:=80) (gl.mono l02) (s1.mono monSS l02) (s3.mono monSS l02) hn hn3 hl hl3 hs hs3 (by omega) (by omega) ?_
 intro o2 ho2 A3 c3 h3 l3 r3
 refine ⟨_,_,_,_,rfl,?_⟩
 have l03:=Heap.le_trans l02 l3
 refine fapply_spec (m:=80) (s1.mono monSS l03) (s3.mono monSS l03) hn hn3 hl hl3 hs hs3 (by omega) ?_
 intro p2 hp2 A4 c4 h4 l4 r4
 obtain rfl:=ho2.eq hp2
 have l04:=Heap.le_trans l03 l4
 refine ⟨_,_,_,_,rfl,?_⟩
 refine kmatrices_spec (r1.mono monSS (Heap.le_trans l2 (Heap.le_trans l3 l4))) (r2'.mono monSS (Heap.le_trans l3 l4)) (by have:=ho1.n_le;omega) (fun _ _ _ _=>⟨_,rfl,Br.t1 ?_⟩) (fun hno=>absurd ⟨rfl,rfl,rfl,fun _ _=>rfl⟩ hno)
 refine Br.beq (fun _=>?_) (fun e=>absurd rfl e)
 refine kstrings_spec (r3.mono monSS l4) r4 (by have:=ho2.n_le;omega) (fun _ _=>⟨_,rfl,Br.t1 ?_⟩) (fun hno=>absurd ⟨rfl,fun _ _=>rfl⟩ hno)
 refine Br.beq (fun _=>?_) (fun e=>absurd rfl e)
 exact aw h4 l04
end
end Go.Proofs.YthilnfgnpdeofaaGreatDoor
/-
 A matrix (two numbers and a list of strings) and a list of strings that came in.
-/
namespace Go.Proofs.YthilnfgnpdeofaaGreatDoor
open Go Go.RowKit
set_option maxRecDepth 20000
theorem bs_dat(s:ByteArray):bs s.data.toList=s:=by
 cases s;simp [bs]
theorem open_strV{H:Type}{enc:TypeId × Value->H}{P:Program}{W:World}{base:Nat}{sp:Nat->Bool}{held:Bool}{t e:TypeId}{fuel:Nat}{A:Option Addr}{len cap:Nat}{x:DataW H × List MemPlace}(ht:P.underlying t=some (.slice e))(he:P.underlying e=some .string)(hc:P.cellsOf e=1)
 (hf:DataW.trod enc P W base sp held fuel t [.slice A len cap]=some x):∃ ls:Nat->List UInt8,RowV SSr (memOf W) A len ls/\len<=maxLen:=by
 rcases Deep.open_strs ht he hc hf with ⟨hcs,_⟩|⟨a,l,c,m,Sx,hcs,_,hl,hm,hmm,_,hcell⟩
 ·simp at hcs
  obtain ⟨rfl,rfl,rfl⟩:=hcs
  exact ⟨fun _=>[],RowV.nil,Nat.zero_le _⟩
 ·simp at hcs
  obtain ⟨rfl,rfl,rfl⟩:=hcs
  have hlm:len<=m:=by rw [hmm];split<;>omega
  have sl:SlV (memOf W) (some a) (((List.range len).map fun i=>(Sx i).data.toList).map fun l=>Value.string (bs l)):=by
   refine .inr ⟨a,rfl,fun i v hv=>?_⟩
   rw [List.getElem?_map,List.getElem?_map] at hv
   by_cases hi:i<len
   ·rw [List.getElem?_range hi] at hv
    simp only [Option.map_some,Option.some.injEq,bs_dat] at hv
    rw [<- hv]
    exact memOf_cell (hcell i (by omega)).1
   ·rw [List.getElem?_eq_none (by simpa using hi)] at hv;cases hv
  have:=row_of_sl sl
  rw [List.length_map,List.length_range] at this
  exact ⟨_,this,by omega⟩
theorem open_mat{H:Type}{enc:TypeId × Value->H}{P:Program}{W:World}{base:Nat}{sp:Nat->Bool}{held:Bool}{r:Reach}{b0:Nat}{t e:TypeId}{f0 f1 f2:Field}{v:Value}{d:DataW H}{ps:List MemPlace}(ht:P.underlying t=some (.struct #[f0,f1,f2]))(u0:P.underlying f0.type=some (.int .i64))(u1:P.underlying f1.type=some (.int .i64))(u2:P.underlying f2.type=some (.slice e))(ue:P.underlying e=some .string)
 (hoff:f0.offset=0/\f1.offset=1/\f2.offset=2/\P.cellsOf f0.type=1/\P.cellsOf f1.type=1/\P.cellsOf f2.type=1/\P.cellsOf t=3/\P.cellsOf e=1)
 (hval:Value.okWide P W r b0 t v) (hd:DataW.Trod enc P W base sp held t v d ps):∃ (x y:Int) (A:Option Addr) (len cap:Nat) (ls:Nat->List UInt8),v= .agg #[.int .i64 x,.int .i64 y,.slice A len cap]/\RowV SSr (memOf W) A len ls/\len<=maxLen:=by
 obtain ⟨o0,o1,o2,c0,c1,c2,ct,ce⟩:=hoff
 obtain ⟨cs,rfl,hcs⟩:=WideShapes.okWide_struct ht hval
 obtain ⟨fuel,hf⟩:=hd
 obtain ⟨y0,y1,y2,n,hx,hl,g0,g1,g2⟩:=Deep.trod_struct3 ht hf
 rw [o0,c0] at g0
 rw [o1,c1] at g1
 rw [o2,c2] at g2
 obtain ⟨s0,e0,_,_⟩:=DataW.trod_int u0 g0
 obtain ⟨s1,e1,_,_⟩:=DataW.trod_int u1 g1
 rw [ct] at hcs
 have hlen:cs.toList.length=3:=by simpa using hcs
 obtain ⟨p,q,z,hm⟩:∃ p q z,cs.toList=[p,q,z]:=by
  match h:cs.toList,hlen with
  | [p,q,z],_=>exact ⟨p,q,z,rfl⟩
 simp only [Value.cells] at e0 e1 g2
 rw [hm] at e0 e1 g2
 simp at e0 e1 g2
 have hA:∃ A len cap,z= .slice A len cap:=by
  rcases Deep.open_strs u2 ue ce g2 with ⟨hcs,_⟩|⟨a,l,c,m,Sx,hcs,_⟩
  ·simp at hcs;exact ⟨_,_,_,hcs⟩
  ·simp at hcs;exact ⟨_,_,_,hcs⟩
 obtain ⟨A,len,cap,rfl⟩:=hA
 obtain ⟨ls,hr,hml⟩:=open_strV u2 ue ce g2
 have:cs=#[.int .i64 s0,.int .i64 s1,.slice A len cap]:=by rw [<- Array.toArray_toList (xs:=cs),hm,e0,e1]
 exact ⟨s0,s1,A,len,cap,ls,by rw [this],hr,hml⟩
end Go.Proofs.YthilnfgnpdeofaaGreatDoor
