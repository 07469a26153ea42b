/-
  Texts of this proof, merged by a program of ours: MatN, MatO, MatEc, MatU, MatV, MatW, MatY, MatZ, MatZr, LawML, CardM.
-/
import Derived.Test.YthilnfgnpdeofaaGreatDoorG29
import Derived.Test.YthilnfgnpdeofaaGreatDoorG21
import Derived.Test.YthilnfgnpdeofaaGreatDoorG22
import Derived.Deep.Strs
/-
 The reference's Rows,Copy and Pack.
-/
namespace Go.Proofs.YthilnfgnpdeofaaGreatDoor
open Go
set_option maxRecDepth 20000
def RWr(w:Nat):Heap->HV->(Nat->Rat)->Prop:=fun h s f=>s.n=w/\w<=s.c/\RowV NQr h s.A w f
theorem monRW(w:Nat):Mon (RWr w):=fun _ _ _ _ l i=>⟨i.1,i.2.1,i.2.2.mono monNQ l⟩
theorem RowsV.of{h:Heap}{A:Option Addr}{n w:Nat}{M:Nat->Nat->Rat}(r:RowV (RWr w) h A n M):RowsV h A n w M:=r
section
variable {h:Heap} {K:Value->Heap->Prop} {A:Option Addr} {n cap m w:Nat} {r c:Int} {ls:Nat->List UInt8} {M:Nat->Nat->Rat}
theorem frows_spec(rv':RowV SSr h A n ls)(hn:n<=1000000)(hl:∀ i,i<n->(ls i).length<=100000000)
 (hK1:∀ rows cols,MOk r c n ls rows cols->∀ b h',h.le h'->RowsV h' (some ⟨b,0,none⟩) rows cols (mtx (rvs ls) cols)->K (.tuple #[.slice (some ⟨b,0,none⟩) rows rows,.bool true]) h')
 (hK0:¬ Mx r c n ls->∀ h',h.le h'->K (.tuple #[.slice none 0 0,.bool false]) h'):FCall Tryz.prog f_FRows #[matV r c A n cap] h K:=by
 refine FRows_ok _ _ _ _ _ ?_
 unfold FRows
 have no:∀ (_:¬ Shape r c n),K (.tuple #[.slice none 0 0,.bool false]) h:=fun hs=>hK0 (fun x=>hs (Mx.iff.1 x).1) h (Heap.le_refl _)
 refine Br.dec (fun e=>no fun s=>by have:=s.1;omega) (fun h1=>Br.dec (fun e=>no fun s=>by have:=s.2.1;omega) (fun h2=>Br.dec (fun e=>no fun s=>by have:=s.2.2.1;omega) (fun h3=>Br.dec (fun e=>no fun s=>by have:=s.2.2.2.1;omega) (fun h4=>?_))))
 have hrc:r*c<=64*64:=Int.mul_le_mul (by omega) (by omega) (by omega) (by omega)
 have hrc0:0<=r*c:=Int.mul_nonneg (by omega) (by omega)
 have ew:wi64 (r*c)=r*c:=wi64_id (by omega) (by omega)
 rw [ew]
 refine Br.bne (fun e=>no fun s=>e s.2.2.2.2) (fun h5=>?_)
 have sh:Shape r c n:=⟨by omega,by omega,by omega,by omega,h5⟩
 refine nums_spec rv' hn hl (fun hnum b h1' own=>?_) (fun hno h' l=>⟨_,_,_,_,rfl,hK0 (fun x=>hno (Mx.iff.1 x).2) h' l⟩)
 have mk:=MOk.of sh hnum
 generalize r.toNat=rows at mk
 generalize c.toNat=cols at mk
 have:=mk.r1;have:=mk.r2;have:=mk.c1;have:=mk.c2
 obtain ⟨rfl,rfl,_,_,_,_,rfl,_⟩:=id mk
 have ov:=own.vis monNQ
 refine ⟨_,_,_,_,rfl,makeF_ok tQss (zx:=(⟨none,0,0⟩:HV)) rfl (by omega) (by omega) (by omega) (by omega) ?_⟩
 intro b2 hb2
 refine ⟨_,_,_,rfl,fun L hp=>∃ k:Nat,k<=rows/\L=[I (k:Int)]/\OwnK (RWr cols) h1' hp b2 rows k (mtx (rvs ls) cols),fun L _=>rows-(iAt L 0).toNat,⟨0,by omega,rfl,OwnK.zero hb2⟩,?_⟩
 rintro z hp ⟨k,hk,eL,g,o,xs,lg,s,rb,hx,rr⟩
 obtain rfl:z=(k:Int):=by simpa using eL
 refine Br.dec (fun hlt=>?_) (fun hge=>?_)
 ·have hkr:k<rows:=by omega
  have h2:(k+1)*cols<=rows*cols:=Nat.mul_le_mul_right _ hkr
  have h3:(k+1)*cols=k*cols+cols:=by rw [Nat.add_mul,Nat.one_mul]
  have hrc':rows*cols<=64*64:=Nat.mul_le_mul (by omega) (by omega)
  have e0:wi64 ((k:Int)+1)=((k+1:Nat):Int):=wi64_id (by omega) (by omega)
  have e1:wi64 ((k:Int)*(cols:Int))=((k*cols:Nat):Int):=by rw [<- Int.natCast_mul];exact wi64_nat (by omega)
  have e2:wi64 (wi64 ((k:Int)+1)*(cols:Int))=(((k+1)*cols:Nat):Int):=by rw [e0,<- Int.natCast_mul];exact wi64_nat (by omega)
  rw [e1,e2,e0]
  refine ⟨⟨by omega,by omega⟩,⟨by omega,by simp only [Int.toNat_natCast];omega⟩,_,rfl,by omega,by omega,?_⟩
  simp only [Int.toNat_natCast]
  have e5:(k+1)*cols-k*cols=cols:=by omega
  rw [e5]
  have row:RowV NQr h1' (cutA (some ⟨b,0,none⟩) (rows*cols) (k*cols) 4) cols (mtx (rvs ls) cols k):=ov.cut (c:=rows*cols) (l:=k*cols) (k:=cols) (by omega) (Nat.le_refl _)
  refine OwnK.store (monRW cols) tQss_one (y:=(⟨cutA (some ⟨b,0,none⟩) (rows*cols) (k*cols) 4,cols,rows*cols-k*cols⟩:HV)) lg (Heap.le_refl _) s rb (by simpa using hx) rr hkr rfl ⟨rfl,by show cols<=rows*cols-k*cols;omega,row.mono monNQ lg⟩ ?_
  intro h4 ow
  exact ⟨⟨k+1,by omega,rfl,ow⟩,by simp only [iAt0];omega⟩
 ·have:k=rows:=by omega
  subst this
  have own2:Own (RWr cols) h1' hp b2 k (mtx (rvs ls) cols):=⟨g,o,xs,lg,s,rb,hx,rr⟩
  exact hK1 _ _ mk b2 hp (Heap.le_trans own.le own2.le) (RowsV.of (own2.vis (monRW cols)))
end
end Go.Proofs.YthilnfgnpdeofaaGreatDoor
/-
 The reference's Pack and Echelon.
-/
namespace Go.Proofs.YthilnfgnpdeofaaGreatDoor
open Go
set_option maxRecDepth 20000
section
variable {α:Type} [E:Enc α]
theorem OwnSl.app{P:Program}{t e ty:TypeId}{z:Value}{bytes:Nat}(st:SliceT P t e z E.default.size bytes){h g o:Heap}{A:Option Addr}{c:Nat}{xs:List α}(s:Sep h g o)(w:OwnSl o e A c xs){B:Option Addr}{d m n:Nat}{ys:List α}(hxn:n=xs.length)(hm:m=ys.length)(hne:ys≠[])(sy:SlF h B ys)(hb:(2*(xs.length+ys.length)+192)*bytes<=281474976710656)(hn:xs.length+ys.length<=9223372036854775807){K:Value->Heap->Prop}
 (x:∀ A' c' h' g' o',g.le g'->Sep h' g' o'->OwnSl o' e A' c' (xs++ys)->(∀ k u,o k=some u->A≠some ⟨k,0,none⟩->o' k=some u/\A'≠some ⟨k,0,none⟩)->K (.slice A' (xs.length+m) c') h'):
 wpH P (Builtin.append_ #[t,t] ty #[.slice A n c,.slice B m d]) K h:=by
 subst hxn
 obtain ⟨gb,p,hkeep⟩:=w.priv s
 refine appendF_ok st p hm sy hb hn ?_
 intro A' c' h' g' hg hp
 rw [List.length_append,<- hm]
 have hgk:∀ k u,h k=some u->A≠some ⟨k,0,none⟩->g' k=some u:=by
  intro k u e1 hne
  exact hg k u (hkeep k u e1 hne)
 have hnA:∀ k u,g k=some u->A≠some ⟨k,0,none⟩:=by
  intro k u e1 hA
  rcases w.2 with ⟨_,h0⟩|⟨b',arr,hA',hb',_⟩
  ·rw [hA] at h0;cases h0
  ·rw [hA] at hA'
   simp only [Option.some.injEq,Addr.mk.injEq,and_true] at hA'
   subst hA'
   rw [s.dis k _ hb'] at e1;cases e1
 rcases hp.2.2 with ⟨hc0,_⟩|⟨b',arr,hA',hb',hh',ha,ht⟩
 ·exfalso
  have:=hp.2.1
  rw [List.length_append] at this
  have:ys.length≠0:=fun h=>hne (List.eq_nil_of_length_eq_zero h)
  omega
 ·subst hA'
  let o':Heap:=fun k=>if k=b' then some (.cells (List.toArray arr) e) else if A=some ⟨k,0,none⟩ then none else o k
  have ob:o' b'=some (.cells (List.toArray arr) e):=by show (if b'=b' then _ else _)=_;rw [if_pos rfl]
  have ok:∀ k,k≠b'->A≠some ⟨k,0,none⟩->o' k=o k:=fun k h1 h2=>by show (if k=b' then _ else if _ then _ else _)=_;rw [if_neg h1,if_neg h2]
  have ono:∀ k,k≠b'->A=some ⟨k,0,none⟩->o' k=none:=fun k h1 h2=>by show (if k=b' then _ else if _ then _ else _)=_;rw [if_neg h1,if_pos h2]
  let g2:Heap:=fun k=>match o' k with|some _=>none|none=>h' k
  have gs:∀ k u,o' k=some u->g2 k=none:=fun k u e1=>by show (match o' k with|some _=>none|none=>h' k)=_;rw [e1]
  have gn:∀ k,o' k=none->g2 k=h' k:=fun k e1=>by show (match o' k with|some _=>none|none=>h' k)=_;rw [e1]
  have hput:∀ k u,k≠b'->g' k=some u->h' k=some u:=fun k u h1 e1=>by rw [hh',Heap.put_other _ _ h1];exact e1
  have hown:∀ k u,o k=some u->A≠some ⟨k,0,none⟩->k≠b':=by
   rintro k u e1 h2 rfl
   have:=hgk k u (s.own k u e1) h2
   rw [hb'] at this;cases this
  refine x _ c' h' g2 o' (fun k u e1=>?_) ⟨fun k u e1=>?_,fun k e1=>(gn k e1).symm,gs⟩ ⟨hp.2.1,.inr ⟨b',arr,rfl,ob,ha,ht⟩⟩ (fun k u e1 h2=>?_)
  ·have hk0:o k=none:=by
    cases ho:o k with
    | none=>rfl
    | some y=>rw [s.dis k y ho] at e1;cases e1
   have hA:=hnA k u e1
   have e3:=hgk k u (s.le k u e1) hA
   have hkb':k≠b':=by rintro rfl;rw [hb'] at e3;cases e3
   rw [gn k (by rw [ok k hkb' hA];exact hk0)]
   exact hput k u hkb' e3
  ·by_cases hkb:k=b'
   ·subst hkb
    rw [ob] at e1;cases e1
    rw [hh',Heap.put_same]
   ·by_cases hA:A=some ⟨k,0,none⟩
    ·rw [ono k hkb hA] at e1;cases e1
    ·rw [ok k hkb hA] at e1
     exact hput k u hkb (hgk k u (s.own k u e1) hA)
  ·have hkb:=hown k u e1 h2
   refine ⟨by rw [ok k hkb h2];exact e1,fun h3=>hkb ?_⟩
   simp only [Option.some.injEq,Addr.mk.injEq,and_true] at h3
   exact h3.symm
end
def flatT(M:Nat->Nat->Rat)(w:Nat):Nat->List UInt8:=fun k=>txtQ (M (k/w) (k%w))
section
variable {h:Heap} {K:Value->Heap->Prop} {A:Option Addr} {n cap m w:Nat} {M:Nat->Nat->Rat}
theorem fpack_spec(rs:RowsV h A n w M)(hn:n<=10000)(hw1:1<=w)(hw:w<=10000)(hn1:1<=n)(hs:∀ i j,i<n->j<w->Sz m (M i j))(hm:m<=400000000)
 (hK:∀ A' c' h',h.le h'->n*w<=c'->RowV SSr h' A' (n*w) (flatT M w)->K (matV n w A' (n*w) c') h'):FCall Tryz.prog f_FPack #[.slice A n cap] h K:=by
 refine FPack_ok _ _ _ ?_
 unfold FPack
 refine Br.beq (fun e=>by omega) (fun _=>?_)
 obtain ⟨a,sv,rfl,e1,e2,hc,_⟩:=rs.at (i:=0) (by omega)
 have hnw:n*w<=10000*10000:=Nat.mul_le_mul hn hw
 refine ⟨a,rfl,by omega,by omega,_,_,_,hc,fun L hp=>∃ (k:Nat) (g o:Heap) (xs:List (List UInt8)) (A':Option Addr) (c':Nat),k<=n/\L=[I (k:Int),I (n:Int),I (w:Int),.slice A' (k*w) c']/\h.le g/\Sep hp g o/\OwnSl o ty_tStrings_e A' c' xs/\xs.length=k*w/\Row SSr g xs (k*w) (flatT M w),fun L _=>n-(iAt L 0).toNat,⟨0,h,noHeap,[],none,0,by omega,by rw [e1,Nat.zero_mul];rfl,Heap.le_refl _,Sep.refl h,OwnSl.nil,by simp,by rw [Nat.zero_mul];exact Row.nil⟩,?_⟩
 rintro z m0 m1 mA mn mc hp ⟨k,g,o,xs,A',c',hk,eL,lg,s,ow,hxl,rr⟩
 simp only [List.cons.injEq,Value.int.injEq,Value.slice.injEq,true_and,and_true] at eL
 obtain ⟨rfl,rfl,rfl,rfl,rfl,rfl⟩:=eL
 refine Br.dec (fun hlt=>?_) (fun hge=>?_)
 ·have hkn:k<n:=by omega
  obtain ⟨a1,s1,ea,f1,f2,hc1,row⟩:=rs.at hkn
  have lhp:=Heap.le_trans lg s.le
  have hk1:(k+1)*w=k*w+w:=by rw [Nat.add_mul,Nat.one_mul]
  have hkw:(k+1)*w<=n*w:=Nat.mul_le_mul_right _ hkn
  refine ⟨a1,ea,by omega,by omega,_,_,_,Heap.cell?_le lhp hc1,?_⟩
  rw [f1]
  refine s.call (texts_spec (row.mono monNQ lg) (by omega) (fun j hj=>hs k j hkn hj) (by omega) ?_)
  intro b2 g2 own h2 s2
  have lg2:=own.le
  obtain ⟨ys,sy,hyl,qy⟩:=own.vis monSS
  refine ⟨_,_,_,rfl,s.le_le s2 lg2,?_⟩
  refine OwnSl.app (ty:=ty_tStrings) tStrings s2 ow (by omega) hyl.symm (by rintro rfl;simp at hyl;omega) (sy.mono s2.le) (by omega) (by omega) ?_
  intro A3 c3 h3 g3 o3 l3 s3 ow3 _
  rw [hxl,<- hk1,show wi64 ((k:Int)+1)=((k+1:Nat):Int) by rw [wi64_id]<;>omega]
  refine ⟨_,_,_,rfl,⟨k+1,g3,o3,_,A3,c3,by omega,rfl,Heap.le_trans lg (Heap.le_trans lg2 l3),s3,ow3,by rw [List.length_append,hxl,hyl,hk1],fun i hi=>?_⟩,by simp only [iAt0];omega⟩
  by_cases e:i<k*w
  ·obtain ⟨u,e1,hu⟩:=rr i e
   exact ⟨u,by rw [List.getElem?_append_left (by omega)];exact e1,hu⟩
  ·obtain ⟨j0,rfl⟩:∃ j0,i=k*w+j0:=⟨i-k*w,by omega⟩
   have hj0:j0<w:=by omega
   obtain ⟨u,e1,hu⟩:=qy j0 hj0
   refine ⟨u,by rw [List.getElem?_append_right (by omega),hxl,Nat.add_sub_cancel_left];exact e1,?_⟩
   have hu':u=txtQ (M k j0):=hu
   have hd:(k*w+j0)/w=k:=by rw [Nat.mul_comm,Nat.mul_add_div (by omega),Nat.div_eq_of_lt hj0,Nat.add_zero]
   have hm':(k*w+j0)%w=j0:=by rw [Nat.mul_comm,Nat.mul_add_mod,Nat.mod_eq_of_lt hj0]
   show u=flatT M w (k*w+j0)
   unfold flatT
   rw [hd,hm'];exact hu'
 ·have:k=n:=by omega
  subst this
  have hcap:=ow.1
  exact hK mA mc hp (Heap.le_trans lg s.le) (by omega) ⟨xs,ow.slF s.ole,hxl,rr.mono monSS s.le⟩
end
end Go.Proofs.YthilnfgnpdeofaaGreatDoor
/-
 The reference's Echelon.
-/
namespace Go.Proofs.YthilnfgnpdeofaaGreatDoor
open Go
set_option maxRecDepth 20000
abbrev ecE(M:Nat->Nat->Rat)(n c:Nat):ES:=runE n ⟨M,[],1⟩ c
abbrev qc(w:QV):List Value:=[.bool w.s,.slice w.A w.n w.c,.bool w.s2,.slice w.A2 w.n2 w.c2]
section
variable {g o h11 h14 h15 hp2:Heap} {bo n w r c i B:Nat} {rb:Nat->Nat} {R:Nat->Nat->Rat} {x:QV} {q:Rat} {Invv Invv3:List Value->Heap->Prop} {muv muv3:List Value->Heap->Nat}
end
section
variable {g o h5 h9 hp2:Heap} {bo n w r c B k:Nat} {rb:Nat->Nat} {R:Nat->Nat->Rat} {q:Rat} {Invv:List Value->Heap->Prop} {muv:List Value->Heap->Nat} {pA:Option Addr} {pc:Nat} {wd wd0:QV} {l:List Nat}
end
section
variable {h:Heap} {K:Value->Heap->Prop} {A:Option Addr} {n cap m w:Nat} {M:Nat->Nat->Rat}
end
end Go.Proofs.YthilnfgnpdeofaaGreatDoor
/-
 The statements' helpers: lists held against each other,small matrices.
-/
namespace Go.Proofs.YthilnfgnpdeofaaGreatDoor
open Go
set_option maxRecDepth 20000
section
variable {h:Heap} {K:Value->Heap->Prop} {A B:Option Addr} {n m a b:Nat} {r c r2 c2:Int} {ls ls2:Nat->List UInt8}
theorem kshort_spec{k:Int}(r:RowV SSr h A n ls)(hn:n<=1000000000)(hK1:(∀ i,i<n->((ls i).length:Int)<=k)->K (.bool true) h)(hK0:¬ (∀ i,i<n->((ls i).length:Int)<=k)->K (.bool false) h):FCall Tryz.prog f_KShort #[I k,.slice A n a] h K:=by
 refine KShort_ok _ _ _ _ ?_
 unfold KShort
 refine ⟨fun L hp=>∃ i:Nat,i<=n/\L=[I (i:Int)]/\hp=h/\∀ j,j<i->((ls j).length:Int)<=k,fun L _=>n-(iAt L 0).toNat,⟨0,by omega,rfl,rfl,fun j hj=>by omega⟩,?_⟩
 rintro z hp ⟨i,hi,eL,rfl,hh⟩
 obtain rfl:z=(i:Int):=by simpa using eL
 refine Br.dec (fun hlt=>?_) (fun hge=>?_)
 ·have hin:i<n:=by omega
  obtain ⟨x,rfl,hc⟩:=r.sat hin
  refine ⟨x,rfl,by omega,by omega,_,hc,?_⟩
  rw [bs_size]
  refine Br.dec (fun e=>hK0 fun hx=>by have:=hx i hin;omega) (fun e=>?_)
  rw [show wi64 ((i:Int)+1)=((i+1:Nat):Int) by rw [wi64_id]<;>omega]
  refine ⟨⟨i+1,by omega,rfl,rfl,fun j hj=>?_⟩,by simp only [iAt0];omega⟩
  by_cases e2:j=i
  ·subst e2;omega
  ·exact hh j (by omega)
 ·have:i=n:=by omega
  subst this
  exact hK1 hh
theorem kstrings_spec(x:RowV SSr h A n ls)(y:RowV SSr h B m ls2)(hn:n<=1000000000)(hK1:n=m->(∀ i,i<n->ls i=ls2 i)->K (.bool true) h)(hK0:¬ (n=m/\∀ i,i<n->ls i=ls2 i)->K (.bool false) h):FCall Tryz.prog f_KStrings #[.slice A n a,.slice B m b] h K:=by
 refine KStrings_ok _ _ _ _ _ _ ?_
 unfold KStrings
 refine Br.bne (fun e=>hK0 fun hx=>e (by omega)) (fun e=>?_)
 have e:n=m:=by omega
 subst e
 refine ⟨fun L hp=>∃ i:Nat,i<=n/\L=[I (i:Int)]/\hp=h/\∀ j,j<i->ls j=ls2 j,fun L _=>n-(iAt L 0).toNat,⟨0,by omega,rfl,rfl,fun j hj=>by omega⟩,?_⟩
 rintro z hp ⟨i,hi,eL,rfl,hh⟩
 obtain rfl:z=(i:Int):=by simpa using eL
 refine Br.dec (fun hlt=>?_) (fun hge=>?_)
 ·have hin:i<n:=by omega
  obtain ⟨u,rfl,hc⟩:=x.sat hin
  obtain ⟨v,rfl,hd⟩:=y.sat hin
  refine ⟨u,rfl,by omega,by omega,_,hc,v,rfl,by omega,by omega,_,hd,?_⟩
  rw [bs_beq]
  refine Br.not (Br.dec (fun e=>?_) (fun e=>hK0 fun hx=>e (hx.2 i hin)))
  rw [show wi64 ((i:Int)+1)=((i+1:Nat):Int) by rw [wi64_id]<;>omega]
  refine ⟨⟨i+1,by omega,rfl,rfl,fun j hj=>?_⟩,by simp only [iAt0];omega⟩
  by_cases e2:j=i
  ·subst e2;exact e
  ·exact hh j (by omega)
 ·have:i=n:=by omega
  subst this
  exact hK1 rfl hh
theorem SlF.iat{xs:List Int}(s:SlF h A xs){i:Nat}(hi:i<xs.length):∃ x,A=some x/\h.cell? (Addr.add x (i*1))=some (I xs[i]):=by
 obtain ⟨x,e,hc⟩:=SlF.at (by decide) s hi
 have:=hc 0 _ rfl
 rw [add_zero'] at this
 exact ⟨x,e,this⟩
theorem kints_spec{xs ys:List Int}(x:SlF h A xs)(y:SlF h B ys)(hn:n=xs.length)(hm:m=ys.length)(hb:n<=1000000000)(hK1:xs=ys->K (.bool true) h)(hK0:xs≠ys->K (.bool false) h):FCall Tryz.prog f_KInts #[.slice A n a,.slice B m b] h K:=by
 refine KInts_ok _ _ _ _ _ _ ?_
 unfold KInts
 refine Br.bne (fun e=>hK0 fun hx=>e (by rw [hn,hm,hx])) (fun e=>?_)
 have e:n=m:=by omega
 subst e
 refine ⟨fun L hp=>∃ i:Nat,i<=n/\L=[I (i:Int)]/\hp=h/\∀ j,j<i->xs[j]? = ys[j]?,fun L _=>n-(iAt L 0).toNat,⟨0,by omega,rfl,rfl,fun j hj=>by omega⟩,?_⟩
 rintro z hp ⟨i,hi,eL,rfl,hh⟩
 obtain rfl:z=(i:Int):=by simpa using eL
 refine Br.dec (fun hlt=>?_) (fun hge=>?_)
 ·have h1:i<xs.length:=by omega
  have h2:i<ys.length:=by omega
  obtain ⟨u,rfl,hc⟩:=SlF.iat x h1
  obtain ⟨v,rfl,hd⟩:=SlF.iat y h2
  refine ⟨u,rfl,by omega,by omega,_,hc,v,rfl,by omega,by omega,_,hd,?_⟩
  refine Br.bne (fun e=>hK0 fun hx=>e (by simp only [hx])) (fun e=>?_)
  rw [show wi64 ((i:Int)+1)=((i+1:Nat):Int) by rw [wi64_id]<;>omega]
  refine ⟨⟨i+1,by omega,rfl,rfl,fun j hj=>?_⟩,by simp only [iAt0];omega⟩
  by_cases e2:j=i
  ·subst e2;rw [List.getElem?_eq_getElem h1,List.getElem?_eq_getElem h2,e]
  ·exact hh j (by omega)
 ·have:i=n:=by omega
  subst this
  refine hK1 (List.ext_getElem? fun j=>?_)
  by_cases hj:j<i
  ·exact hh j hj
  ·rw [List.getElem?_eq_none (by omega),List.getElem?_eq_none (by omega)]
theorem kmatrices_spec(x:RowV SSr h A n ls)(y:RowV SSr h B m ls2)(hn:n<=1000000000)(hK1:r=r2->c=c2->n=m->(∀ i,i<n->ls i=ls2 i)->K (.bool true) h)(hK0:¬ (r=r2/\c=c2/\n=m/\∀ i,i<n->ls i=ls2 i)->K (.bool false) h):FCall Tryz.prog f_KMatrices #[matV r c A n a,matV r2 c2 B m b] h K:=by
 refine KMatrices_ok _ _ _ _ _ _ _ _ _ _ ?_
 unfold KMatrices
 refine Br.beq (fun e1=>Br.beq (fun e2=>?_) (fun e=>hK0 fun hx=>e hx.2.1)) (fun e=>hK0 fun hx=>e hx.1)
 exact kstrings_spec x y hn (fun h1 h2=>⟨_,rfl,hK1 e1 e2 h1 h2⟩) (fun hx=>⟨_,rfl,hK0 fun hy=>hx hy.2.2⟩)
structure Small (r c:Int) (n:Nat) (ls:Nat->List UInt8) (k d:Int):Prop where
 hr:r<=k
 hc:c<=k
 hn:(n:Int)<=k*k+2
 hl:∀ i,i<n->((ls i).length:Int)<=d
theorem ksmall_spec{k d:Int}(x:RowV SSr h A n ls)(hk:0<=k/\k<=1000)(hK1:Small r c n ls k d->K (.bool true) h)(hK0:¬ Small r c n ls k d->K (.bool false) h):FCall Tryz.prog f_KSmallMatrix #[matV r c A n a,I k,I d] h K:=by
 refine KSmallMatrix_ok _ _ _ _ _ _ _ ?_
 unfold KSmallMatrix
 have hkk:k*k<=1000*1000:=Int.mul_le_mul hk.2 hk.2 hk.1 (by omega)
 have hkk0:0<=k*k:=Int.mul_nonneg hk.1 hk.1
 have e1:wi64 (k*k)=k*k:=wi64_id (by omega) (by omega)
 have e2:wi64 (k*k+2)=k*k+2:=wi64_id (by omega) (by omega)
 rw [e1,e2]
 refine Br.dec (fun h1=>Br.dec (fun h2=>Br.dec (fun h3=>?_) (fun e=>hK0 fun x=>e x.hn)) (fun e=>hK0 fun x=>e x.hc)) (fun e=>hK0 fun x=>e x.hr)
 exact kshort_spec x (by omega) (fun hx=>⟨_,rfl,hK1 ⟨h1,h2,h3,hx⟩⟩) (fun hx=>⟨_,rfl,hK0 fun y=>hx y.hl⟩)
theorem lsmall_spec(x:RowV SSr h A n ls)(hK1:Small r c n ls 6 12->K (.bool true) h)(hK0:¬ Small r c n ls 6 12->K (.bool false) h):FCall Tryz.prog f_LSmall #[matV r c A n a] h K:=by
 refine LSmall_ok _ _ _ _ _ ?_
 unfold LSmall
 exact ksmall_spec x (by omega) (fun hx=>⟨_,rfl,hK1 hx⟩) (fun hx=>⟨_,rfl,hK0 hx⟩)
end
theorem flat_str(ls:List (List UInt8)):(ls.flatMap fun l=>[Value.string (bs l)])=ls.map fun l=>Value.string (bs l):=by
 induction ls with
 | nil=>rfl
 | cons x l ih=>rw [List.flatMap_cons,ih];rfl
theorem row_of_sl{h:Heap}{A:Option Addr}{ls:List (List UInt8)}(s:SlV h A (ls.map fun l=>Value.string (bs l))):RowV SSr h A ls.length (fun i=>ls.getD i []):=by
 refine ⟨ls,?_,rfl,fun i hi=>⟨ls[i],List.getElem?_eq_getElem hi,?_⟩⟩
 ·show SlV h A (ls.flatMap fun l=>[Value.string (bs l)])
  rw [flat_str];exact s
 ·show ls[i]=ls.getD i []
  simp [hi]
theorem rvs_list(l:List Rat):rvs (fun i=>(l.map txtQ).getD i [])=fun i=>l.getD i 0:=by
 funext i
 show rv ((l.map txtQ).getD i [])=_
 by_cases hi:i<l.length
 ·rw [List.getD_eq_getElem?_getD,List.getD_eq_getElem?_getD,List.getElem?_map,List.getElem?_eq_getElem hi]
  exact rv_txt _
 ·rw [List.getD_eq_getElem?_getD,List.getD_eq_getElem?_getD,List.getElem?_map,List.getElem?_eq_none (by omega)]
  exact rv_not (by rintro ⟨q,hq⟩;exact absurd hq.symm (by
   have:=txtQ_head q
   obtain ⟨c,r,e,_⟩:=this
   rw [e];simp))
theorem txt1:txtQ 1=[49]:=by
 have:digs 1=[49]:=by decide +kernel
 simp [txtQ,txtI,this]
theorem txt2:txtQ 2=[50]:=by
 have:digs 2=[50]:=by decide +kernel
 have h1:(2:Rat).den=1:=by decide +kernel
 have h2:(2:Rat).num=2:=by decide +kernel
 simp [txtQ,txtI,this,h1,h2]
theorem txt3:txtQ 3=[51]:=by
 have:digs 3=[51]:=by decide +kernel
 have h1:(3:Rat).den=1:=by decide +kernel
 have h2:(3:Rat).num=3:=by decide +kernel
 simp [txtQ,txtI,this,h1,h2]
theorem txt4:txtQ 4=[52]:=by
 have:digs 4=[52]:=by decide +kernel
 have h1:(4:Rat).den=1:=by decide +kernel
 have h2:(4:Rat).num=4:=by decide +kernel
 simp [txtQ,txtI,this,h1,h2]
theorem txtm2:txtQ (-2)=[45,50]:=by
 have:digs 2=[50]:=by decide +kernel
 have h1:(-2:Rat).den=1:=by decide +kernel
 have h2:(-2:Rat).num= -2:=by decide +kernel
 simp [txtQ,txtI,this,h1,h2]
theorem aw1:(elE (fun i=>([2,4,1,2]:List Rat).getD i 0) 2 2 2).cs=[0]:=by decide +kernel
theorem aw2:∀ k,k<4->redF (fun i=>([2,4,1,2]:List Rat).getD i 0) 2 2 k=([1,2,0,0]:List Rat).getD k 0:=by decide +kernel
theorem aw3:detQ (fun i=>([1,2,3,4]:List Rat).getD i 0) 2= -2:=by decide +kernel
theorem awake_spec{h:Heap}{K:Value->Heap->Prop}(gl:Gl h)(hK:∀ h',h.le h'->K (.bool true) h'):FCall Tryz.prog f_LAwake #[] h K:=by
 refine LAwake_ok ?_
 unfold LAwake
 have sz:∀ (ls:List (List UInt8)),(∀ x∈ls,x.length<=1)->∀ i,i<ls.length->(ls.getD i []).length<=1:=by
  intro ls h i hi
  rw [List.getD_eq_getElem?_getD,List.getElem?_eq_getElem hi]
  exact h _ (List.getElem_mem hi)
 refine litS_ok tStrings (ls:=[2,4,1,2].map txtQ) rfl (by simp) (by rw [show ([2,4,1,2]:List Rat).map txtQ=[[50],[52],[49],[50]] by simp [txt1,txt2,txt4]];rfl) ?_
 intro b1 h1 l1 s1
 have r1:=row_of_sl s1
 have z1:=sz (([2,4,1,2]:List Rat).map txtQ) (by simp [txt1,txt2,txt4])
 refine ⟨_,_,_,rfl,?_⟩
 have hb:∀ rows cols,MOk 2 2 4 (fun i=>(([2,4,1,2]:List Rat).map txtQ).getD i []) rows cols->2*(3^cols*bnd cols 4)+1<=40000000:=by
  intro rows cols mk
  have:=mk.ec
  have:cols=2:=by omega
  subst this
  decide
 refine mreduce_spec (m:=4) (gl.mono l1) r1 (by simp) (fun i hi=>Nat.le_trans (z1 i hi) (by omega)) (fun i hi=>rv_sz (k:=1) (z1 i hi) (by omega)) hb ?_ ?_
 ·intro rows cols mk b2 h2 A' cap' own
  have e1:=mk.er;have e2:=mk.ec
  have:rows=2:=by omega
  subst this
  have:cols=2:=by omega
  subst this
  have lo:=own.le
  have so:=own.strs
  have io:=own.ints
  rw [rvs_list] at so io
  rw [aw1] at io
  refine ⟨_,_,_,_,_,_,_,_,_,rfl,?_⟩
  rw [rvs_list,aw1]
  refine litS_ok tStrings (ls:=[1,2,3,4].map txtQ) rfl (by simp) (by rw [show ([1,2,3,4]:List Rat).map txtQ=[[49],[50],[51],[52]] by simp [txt1,txt2,txt3,txt4]];rfl) ?_
  intro b3 h3 l3 s3
  have r3:=row_of_sl s3
  have z3:=sz (([1,2,3,4]:List Rat).map txtQ) (by simp [txt1,txt2,txt3,txt4])
  refine ⟨_,_,_,rfl,?_⟩
  have l13:=Heap.le_trans l1 (Heap.le_trans lo l3)
  have num3:Mx 2 2 4 (fun i=>(([1,2,3,4]:List Rat).map txtQ).getD i []):=by
   refine Mx.iff.2 ⟨⟨by omega,by omega,by omega,by omega,by omega⟩,fun i hi=>?_⟩
   have hi':i<([1,2,3,4]:List Rat).length:=hi
   exact ⟨([1,2,3,4]:List Rat)[i],by rw [List.getD_eq_getElem?_getD,List.getElem?_map,List.getElem?_eq_getElem hi'];rfl⟩
  refine mdet_spec (m:=4) (gl.mono l13) r3 (by simp) (fun i hi=>Nat.le_trans (z3 i hi) (by omega)) (fun i hi=>rv_sz (k:=1) (z3 i hi) (by omega)) ?_ ?_ (fun _ e=>absurd rfl e) (fun hno=>absurd num3 hno)
  ·intro rows cols mk
   have:=mk.ec
   have:cols=2:=by omega
   subst this
   decide
  ·intro q mk h4 l4
   have:q=2:=by have:=mk.er;omega
   subst this
   rw [rvs_list,aw3]
   refine ⟨_,_,rfl,Br.beq (fun _=>?_) (fun e=>absurd rfl e)⟩
   refine litS_ok tStrings (ls:=[1,2,0,0].map txtQ) rfl (by simp) (by rw [show ([1,2,0,0]:List Rat).map txtQ=[[49],[50],[48],[48]] by simp [txt1,txt2,txtQ_zero]];rfl) ?_
   intro b5 h5 l5 s5
   have r5:=row_of_sl s5
   refine ⟨_,_,_,rfl,?_⟩
   have l25:=Heap.le_trans l3 (Heap.le_trans l4 l5)
   refine kstrings_spec (so.mono monSS l25) r5 (by simp) (fun _ _=>⟨_,rfl,?_⟩) (fun hno=>absurd ⟨rfl,fun i hi=>?_⟩ hno)
   ·refine lit1_ok tInts rfl ?_
    intro b6 h6
    refine ⟨_,_,_,rfl,?_⟩
    have l6:=Heap.le_put (.cells #[I (0:Int)] ty_tInts_e) h6
    refine kints_spec (io.1.mono (Heap.le_trans l25 l6)) (blkF_sl ty_tInts_e h5 b6 ([0]:List Int)) rfl rfl (by simp) (fun _=>⟨_,rfl,?_⟩) (fun hno=>absurd rfl hno)
    have:(ByteArray.toList (bs (txtQ (-2)))==ByteArray.toList ({ data:=#[45,50] }:ByteArray))=true:=by
     rw [txtm2]
     exact (bs_beq _ _).trans (by decide)
    rw [this]
    have:=hK _ (Heap.le_trans l13 (Heap.le_trans l4 (Heap.le_trans l5 l6)))
    exact this
   ·show txtQ (redF (fun i=>([2,4,1,2]:List Rat).getD i 0) 2 2 i)=(([1,2,0,0]:List Rat).map txtQ).getD i []
    have hi':i<([1,2,0,0]:List Rat).length:=hi
    rw [aw2 i hi,List.getD_eq_getElem?_getD,List.getD_eq_getElem?_getD,List.getElem?_map,List.getElem?_eq_getElem hi']
    rfl
 ·intro hno
  exfalso
  refine hno (Mx.iff.2 ⟨⟨by omega,by omega,by omega,by omega,by simp⟩,fun i hi=>?_⟩)
  have hi':i<([2,4,1,2]:List Rat).length:=hi
  exact ⟨([2,4,1,2]:List Rat)[i],by rw [List.getD_eq_getElem?_getD,List.getElem?_map,List.getElem?_eq_getElem hi'];rfl⟩
end Go.Proofs.YthilnfgnpdeofaaGreatDoor
/-
 The null space's vectors;Reduce,Det of the reference;Contains.
-/
namespace Go.Proofs.YthilnfgnpdeofaaGreatDoor
open Go
set_option maxRecDepth 20000
section
variable {h:Heap} {K:Value->Heap->Prop} {A B:Option Addr} {n cap m:Nat} {r c:Int} {ls:Nat->List UInt8}
theorem mtx_sz{E:Nat->Rat}{rows cols:Nat}(hs:∀ i,i<rows*cols->Sz m (E i)):∀ i j,i<rows->j<cols->Sz m (mtx E cols i j):=fun _ _ hi hj=>hs _ (idx_lt hi hj)
end
end Go.Proofs.YthilnfgnpdeofaaGreatDoor
/-
 Null and Kernel of the reference.
-/
namespace Go.Proofs.YthilnfgnpdeofaaGreatDoor
open Go
set_option maxRecDepth 20000
section
variable {h:Heap} {K:Value->Heap->Prop} {A:Option Addr} {n cap m w:Nat} {r c:Int} {ls:Nat->List UInt8} {M:Nat->Nat->Rat}
end
end Go.Proofs.YthilnfgnpdeofaaGreatDoor
/-
 Blank rows,rows and columns exchanged.
-/
namespace Go.Proofs.YthilnfgnpdeofaaGreatDoor
open Go
set_option maxRecDepth 20000
section
variable {h:Heap} {K:Value->Heap->Prop} {A:Option Addr} {n cap m w:Nat} {r c:Int} {ls:Nat->List UInt8} {R:Nat->Nat->Rat}
theorem fblank_spec(hn:n<=10000)(hw:w<=10000)
 (hK:∀ h' g' o' bo rb,h.le g'->Mt h' g' o' bo rb n w (fun _ _=>0)->K (.slice (some ⟨bo,0,none⟩) n n) h'):FCall Tryz.prog f_FBlank #[I (n:Int),I (w:Int)] h K:=by
 refine FBlank_ok _ _ ?_
 unfold FBlank
 refine makeF_ok tQss (zx:=(⟨none,0,0⟩:HV)) rfl (by omega) (by omega) (by omega) (by omega) ?_
 intro bo hbo
 simp only [Int.toNat_natCast]
 refine ⟨_,_,_,rfl,fun L hp=>∃ (k:Nat) (g o:Heap) (hd:List HV) (rb:Nat->Nat),k<=n/\L=[I (k:Int)]/\h.le g/\Sep hp g o/\RowX o bo hd/\hd.length=n/\(∀ i,i<k->hd[i]? = some ⟨some ⟨rb i,0,none⟩,w,w⟩)/\(∀ i,i<k->rb i≠bo)/\(∀ i j,i<k->j<k->rb i=rb j->i=j)/\(∀ i,i<k->RowX o (rb i) (List.replicate w zeroQ)),fun L _=>n-(iAt L 0).toNat,
  ⟨0,h,noHeap.put bo _,List.replicate n ⟨none,0,0⟩,fun _=>0,by omega,rfl,Heap.le_refl _,Sep.single hbo,RowX.mk,List.length_replicate,fun i hi=>by omega,fun i hi=>by omega,fun i j hi=>by omega,fun i hi=>by omega⟩,?_⟩
 rintro z hp ⟨k,g,o,hd,rb,hk,eL,lg,s,rx,hl,h1,h2,h3,h4⟩
 obtain rfl:z=(k:Int):=by simpa using eL
 refine Br.dec (fun hlt=>?_) (fun hge=>?_)
 ·have hkn:k<n:=by omega
  refine makeF_ok tRats (zx:=zeroQ) rfl (by omega) (by omega) (by omega) (by omega) ?_
  intro b2 hb2
  simp only [Int.toNat_natCast]
  have ob2:∀ q x,o q=some x->q≠b2:=by
   rintro q x e rfl
   rw [s.own q x e] at hb2;cases hb2
  have nbo:bo≠b2:=by obtain ⟨e,he⟩:=rx;exact ob2 _ _ he
  have nrb:∀ i,i<k->rb i≠b2:=fun i hi=>by obtain ⟨e,he⟩:=h4 i hi;exact ob2 _ _ he
  refine ⟨_,_,_,rfl,_,rfl,by omega,by omega,?_⟩
  refine Sep.storeX tQss_one (y:=(⟨some ⟨b2,0,none⟩,w,w⟩:HV)) rfl (s.new hb2 _) (rx.other nbo _) (i:=k) (by omega) ?_
  intro h5 o5 x5 eo5 s5 rx5
  rw [show wi64 ((k:Int)+1)=((k+1:Nat):Int) by rw [wi64_id]<;>omega]
  refine ⟨⟨k+1,g,o5,_,fun i=>if i=k then b2 else rb i,by omega,rfl,lg,s5,rx5,by rw [List.length_set];exact hl,fun i hi=>?_,fun i hi=>?_,fun i j hi hj e=>?_,fun i hi=>?_⟩,by simp only [iAt0];omega⟩
  ·show (hd.set k _)[i]? = some (⟨some ⟨if i=k then b2 else rb i,0,none⟩,w,w⟩:HV)
   by_cases e:i=k
   ·subst e
    rw [if_pos rfl,List.getElem?_set_self (by omega)]
   ·rw [if_neg e,List.getElem?_set_ne (fun x=>e x.symm)]
    exact h1 i (by omega)
  ·show (if i=k then b2 else rb i)≠bo
   by_cases e:i=k
   ·rw [if_pos e];exact nbo.symm
   ·rw [if_neg e];exact h2 i (by omega)
  ·change (if i=k then b2 else rb i)=(if j=k then b2 else rb j) at e
   by_cases e1:i=k
   ·by_cases e2:j=k
    ·omega
    ·rw [if_pos e1,if_neg e2] at e
     exact absurd e.symm (nrb j (by omega))
   ·by_cases e2:j=k
    ·rw [if_neg e1,if_pos e2] at e
     exact absurd e (nrb i (by omega))
    ·rw [if_neg e1,if_neg e2] at e
     exact h3 i j (by omega) (by omega) e
  ·show RowX o5 (if i=k then b2 else rb i) _
   by_cases e:i=k
   ·rw [if_pos e,eo5]
    exact RowX.mk.other nbo.symm _
   ·rw [if_neg e,eo5]
    exact ((h4 i (by omega)).other (nrb i (by omega)) _).other (h2 i (by omega)) _
 ·have:k=n:=by omega
  subst this
  refine hK hp g o bo rb lg ⟨s,⟨hd,rx.rowB,hl,fun i hi=>⟨w,h1 i hi,Nat.le_refl _⟩⟩,h2,h3,fun i hi=>⟨_,(h4 i hi).rowB,List.length_replicate,fun j hj=>⟨zeroQ,by rw [List.getElem?_replicate,if_pos hj],NQ.zero⟩⟩⟩
def turnP(R:Nat->Nat->Rat)(i k:Nat):Nat->Nat->Rat:=fun a b=>if b<i\/(b=i/\a<k) then R b a else 0
theorem fturn_spec(rs:RowsV h A n w R)(hn1:1<=n)(hn:n<=10000)(hw:w<=10000)
 (hK:∀ bo h',h.le h'->RowsV h' (some ⟨bo,0,none⟩) w n (fun a b=>R b a)->K (.slice (some ⟨bo,0,none⟩) w w) h'):FCall Tryz.prog f_FTurn #[.slice A n cap] h K:=by
 refine FTurn_ok _ _ _ ?_
 unfold FTurn
 obtain ⟨a,sv,ea,e1,e2,hc,_⟩:=rs.at (i:=0) (by omega)
 refine ⟨a,ea,by omega,by omega,_,_,_,hc,?_⟩
 rw [e1]
 refine fblank_spec hw hn ?_
 intro h1 g1 o1 bo rb l1 t1
 refine ⟨_,_,_,rfl,fun L hp=>∃ (i:Nat) (g o:Heap),i<=n/\L=[I (i:Int)]/\h.le g/\Mt hp g o bo rb w n (turnP R i 0),fun L _=>n-(iAt L 0).toNat,⟨0,g1,o1,by omega,rfl,l1,t1.congr fun a b _ _=>by unfold turnP;rw [if_neg (by omega)]⟩,?_⟩
 rintro z hp ⟨i,g,o,hi,eL,lg,t⟩
 obtain rfl:z=(i:Int):=by simpa using eL
 refine Br.dec (fun hlt=>?_) (fun hge=>?_)
 ·have hin:i<n:=by omega
  obtain ⟨a1,s1,ea1,f1,f2,hc1,row⟩:=rs.at hin
  refine ⟨fun L hp=>∃ (k:Nat) (g o:Heap),k<=w/\L=[I (k:Int)]/\h.le g/\Mt hp g o bo rb w n (turnP R i k),fun L _=>w-(iAt L 0).toNat,⟨0,g,o,by omega,rfl,lg,t⟩,?_⟩
  rintro z hp2 ⟨k,g2,o2,hk,eL2,lg2,t2⟩
  obtain rfl:z=(k:Int):=by simpa using eL2
  have lhp:=Heap.le_trans lg2 t2.sep.le
  refine ⟨a1,ea1,by omega,by omega,_,_,_,Heap.cell?_le lhp hc1,?_⟩
  rw [f1]
  refine Br.dec (fun hlt2=>?_) (fun hge2=>?_)
  ·have hkw:k<w:=by omega
   obtain ⟨cc,hcc,hh⟩:=t2.head hkw
   obtain ⟨a5,w5,e5,n5,c0,c1,c2',c3⟩:=(row.mono monNQ lg2).qat hkw
   refine ⟨_,rfl,by omega,by omega,_,_,_,t2.sep.cell hh,a1,ea1,by omega,by omega,_,_,_,Heap.cell?_le lhp hc1,a5,e5,by omega,by omega,_,_,_,_,_,_,_,_,Heap.cell?_le t2.sep.le c0,Heap.cell?_le t2.sep.le c1,Heap.cell?_le t2.sep.le c2',Heap.cell?_le t2.sep.le c3,_,rfl,by omega,by omega,?_⟩
   refine t2.store hkw hin n5 ?_
   intro h6 o6 t6 _
   rw [show wi64 ((k:Int)+1)=((k+1:Nat):Int) by rw [wi64_id]<;>omega]
   refine ⟨⟨k+1,g2,o6,by omega,rfl,lg2,t6.congr fun a b _ _=>?_⟩,by simp only [iAt0];omega⟩
   unfold updQ turnP
   by_cases e:a=k/\b=i
   ·rw [if_pos e,if_pos (by omega),e.1,e.2]
   ·rw [if_neg e]
    by_cases e3:b<i\/(b=i/\a<k)
    ·rw [if_pos e3,if_pos (by omega)]
    ·rw [if_neg e3,if_neg (by omega)]
  ·have:k=w:=by omega
   subst this
   rw [show wi64 ((i:Int)+1)=((i+1:Nat):Int) by rw [wi64_id]<;>omega]
   refine ⟨⟨i+1,g2,o2,by omega,rfl,lg2,t2.congr fun a b ha _=>?_⟩,by simp only [iAt0];omega⟩
   unfold turnP
   by_cases e3:b<i\/(b=i/\a<k)
   ·rw [if_pos e3,if_pos (by omega)]
   ·rw [if_neg e3,if_neg (by omega)]
 ·have:i=n:=by omega
  subst this
  exact hK bo hp (Heap.le_trans lg t.sep.le) ((t.rowsV).congr fun a b _ hb=>by unfold turnP;rw [if_pos (.inl hb)])
theorem ftranspose_spec(rv':RowV SSr h A n ls)(hn:n<=1000000)(hl:∀ i,i<n->(ls i).length<=100000000)(hs:∀ i,i<n->Sz m (rv (ls i)))(hm:m<=400000000)
 (hK1:∀ rows cols,MOk r c n ls rows cols->∀ h' A' c',h.le h'->RowV SSr h' A' n (fun k=>ls (k%rows*cols+k/rows))->K (.tuple #[matV c r A' n c',I 0]) h')
 (hK0:¬ Mx r c n ls->∀ h',h.le h'->K (.tuple #[matV 0 0 none 0 0,I 1]) h'):FCall Tryz.prog f_FTranspose #[matV r c A n cap] h K:=by
 refine FTranspose_ok _ _ _ _ _ ?_
 unfold FTranspose
 refine frows_spec rv' hn hl (fun rows cols mk b h1 l1 rs=>⟨_,_,_,_,rfl,?_⟩) (fun hno h' l=>⟨_,_,_,_,rfl,hK0 hno h' l⟩)
 have hk:=hK1 rows cols mk
 have:=mk.r1;have:=mk.r2;have:=mk.c1;have:=mk.c2
 obtain ⟨rfl,rfl,_,_,_,_,rfl,hnum⟩:=id mk
 have ms:=mtx_sz hs
 refine fturn_spec rs (by omega) (by omega) (by omega) ?_
 intro bo h2 l2 r2
 refine ⟨_,_,_,rfl,?_⟩
 refine fpack_spec (m:=m) r2 (by omega) (by omega) (by omega) (by omega) (fun i j hi hj=>ms j i hj hi) hm ?_
 intro A3 c3 h3 l3 hc3 r3
 refine ⟨_,_,_,_,_,rfl,?_⟩
 rw [Nat.mul_comm cols rows] at r3 ⊢
 refine hk h3 A3 c3 (Heap.le_trans l1 (Heap.le_trans l2 l3)) (r3.congr fun k hkk=>?_)
 have hi:k/rows<cols:=Nat.div_lt_of_lt_mul hkk
 have hj:=Nat.mod_lt k (show 0<rows by omega)
 exact txt_rv (hnum _ (idx_lt hj hi))
theorem OwnSl.room{α:Type}[E:Enc α]{o:Heap}{b:Nat}{e:TypeId}{c:Nat}{zx:α}:OwnSl (o.put b (.cells ((List.replicate c zx).flatMap enc).toArray e)) e (some ⟨b,0,none⟩) c ([]:List α):=
 ⟨Nat.zero_le _,.inr ⟨b,_,rfl,Heap.put_same _ _ _,by rw [flat_len,List.length_replicate],by simp⟩⟩
theorem mtransS_spec{rows cols:Nat}(rv':RowV SSr h A (rows*cols) ls)(hr:rows<=10000)(hc:cols<=10000)
 (hK:∀ A' c' h' g' o' xs,h.le g'->Sep h' g' o'->OwnSl o' ty_tStrings_e A' c' xs->xs.length=rows*cols->Row SSr g' xs (rows*cols) (fun k=>ls (k%rows*cols+k/rows))->K (.slice A' (rows*cols) c') h'):FCall Tryz.prog f_MTransposeS #[.slice A (rows*cols) cap,I (rows:Int),I (cols:Int)] h K:=by
 refine MTransposeS_ok _ _ _ _ _ ?_
 unfold MTransposeS
 have hrc:rows*cols<=10000*10000:=Nat.mul_le_mul hr hc
 refine makeF_ok tStrings (zx:=([]:List UInt8)) rfl (by omega) (by omega) (by omega) (by omega) ?_
 intro b hb
 simp only [Int.toNat_natCast]
 refine ⟨_,_,_,rfl,fun L hp=>∃ (j:Nat) (g o:Heap) (xs:List (List UInt8)) (A':Option Addr) (c':Nat),j<=cols/\L=[.slice A' (j*rows) c',I (j:Int)]/\h.le g/\Sep hp g o/\OwnSl o ty_tStrings_e A' c' xs/\xs.length=j*rows/\Row SSr g xs (j*rows) (fun k=>ls (k%rows*cols+k/rows)),fun L _=>cols-(iAt L 1).toNat,
  ⟨0,h,noHeap.put b _,[],some ⟨b,0,none⟩,rows*cols,by omega,by rw [Nat.zero_mul];rfl,Heap.le_refl _,Sep.single hb,OwnSl.room,by simp,by rw [Nat.zero_mul];exact Row.nil⟩,?_⟩
 rintro rA rn rc z hp ⟨j,g,o,xs,A',c',hj,eL,lg,s,ow,hxl,rr⟩
 simp only [List.cons.injEq,Value.int.injEq,Value.slice.injEq,true_and,and_true] at eL
 obtain ⟨⟨rfl,rfl,rfl⟩,rfl⟩:=eL
 refine Br.dec (fun hlt=>?_) (fun hge=>?_)
 ·have hjc:j<cols:=by omega
  have hj1:(j+1)*rows=j*rows+rows:=by rw [Nat.add_mul,Nat.one_mul]
  have hjr:(j+1)*rows<=cols*rows:=Nat.mul_le_mul_right _ hjc
  rw [Nat.mul_comm cols rows] at hjr
  refine ⟨fun L hp=>∃ (i:Nat) (g o:Heap) (xs:List (List UInt8)) (A':Option Addr) (c':Nat),i<=rows/\L=[.slice A' (j*rows+i) c',I (i:Int)]/\h.le g/\Sep hp g o/\OwnSl o ty_tStrings_e A' c' xs/\xs.length=j*rows+i/\Row SSr g xs (j*rows+i) (fun k=>ls (k%rows*cols+k/rows)),fun L _=>rows-(iAt L 1).toNat,
   ⟨0,g,o,xs,rA,rc,by omega,rfl,lg,s,ow,hxl,rr⟩,?_⟩
  rintro qA qn qc z hp2 ⟨i,g2,o2,ys,A2,c2,hi,eL,lg2,s2,ow2,hyl,rr2⟩
  simp only [List.cons.injEq,Value.int.injEq,Value.slice.injEq,true_and,and_true] at eL
  obtain ⟨⟨rfl,rfl,rfl⟩,rfl⟩:=eL
  refine Br.dec (fun hlt2=>?_) (fun hge2=>?_)
  ·have hir:i<rows:=by omega
   have hidx:=idx_lt hir hjc
   have ew:wi64 (wi64 ((i:Int)*(cols:Int))+(j:Int))=((i*cols+j:Nat):Int):=by
    rw [<- Int.natCast_mul,wi64_nat (by omega)]
    exact wi64_nat (n:=i*cols+j) (by omega)
   rw [ew]
   obtain ⟨a,ea,hc1⟩:=(rv'.mono monSS (Heap.le_trans lg2 s2.le)).sat hidx
   refine ⟨a,ea,by omega,by omega,_,hc1,?_⟩
   refine OwnSl.push' (ty:=ty_tStrings) tStrings s2 ow2 hyl.symm (y:=ls (i*cols+j)) rfl (by decide) (by rw [hyl];omega) (by rw [hyl];omega) ?_
   intro A3 c3 h3 g3 o3 l3 s3 ow3 _
   rw [hyl,show wi64 ((i:Int)+1)=((i+1:Nat):Int) by rw [wi64_id]<;>omega]
   refine ⟨⟨i+1,g3,o3,_,A3,c3,by omega,by rw [Nat.add_assoc],Heap.le_trans lg2 l3,s3,ow3,by rw [List.length_append,hyl];rfl,?_⟩,?_⟩
   ·have rB:=Row.push (R:=SSr) (g:=g3) (xs:=ys) (f:=fun k=>ls (k%rows*cols+k/rows)) (by rw [hyl];exact rr2.mono monSS l3) (w:=ls (i*cols+j)) (by
     show ls (i*cols+j)=ls (ys.length%rows*cols+ys.length/rows)
     rw [hyl,Nat.add_comm (j*rows) i,Nat.add_mul_mod_self_right,Nat.mod_eq_of_lt hir,Nat.add_mul_div_right _ _ (by omega),Nat.div_eq_of_lt hir,Nat.zero_add])
    rw [List.length_append,hyl] at rB
    exact rB
   ·show rows-((i+1:Nat):Int).toNat<rows-(i:Int).toNat
    omega
  ·have:i=rows:=by omega
   subst this
   rw [show wi64 ((j:Int)+1)=((j+1:Nat):Int) by rw [wi64_id]<;>omega,<- hj1]
   rw [<- hj1] at hyl rr2
   refine ⟨⟨j+1,g2,o2,ys,qA,qc,by omega,rfl,lg2,s2,ow2,hyl,rr2⟩,?_⟩
   show cols-((j+1:Nat):Int).toNat<cols-(j:Int).toNat
   omega
 ·have:j=cols:=by omega
  subst this
  rw [Nat.mul_comm j rows] at hxl rr ⊢
  exact hK rA rc hp g o xs lg s ow hxl rr
def OwnS(h h':Heap)(A:Option Addr)(c n:Nat)(f:Nat->List UInt8):Prop:=∃ g o xs,h.le g/\Sep h' g o/\OwnSl o ty_tStrings_e A c xs/\xs.length=n/\Row SSr g xs n f
theorem OwnS.le{h h':Heap}{c n:Nat}{f:Nat->List UInt8}(w:OwnS h h' A c n f):h.le h':=by
 obtain ⟨g,o,xs,lg,s,_⟩:=w
 exact Heap.le_trans lg s.le
theorem OwnS.vis{h h':Heap}{c n:Nat}{f:Nat->List UInt8}(w:OwnS h h' A c n f):RowV SSr h' A n f:=by
 obtain ⟨g,o,xs,lg,s,ow,e,q⟩:=w
 exact ⟨xs,ow.slF s.ole,e,q.mono monSS s.le⟩
theorem OwnS.weak{h0 h h':Heap}{c n:Nat}{f:Nat->List UInt8}(l:h0.le h)(w:OwnS h h' A c n f):OwnS h0 h' A c n f:=by
 obtain ⟨g,o,xs,lg,x⟩:=w
 exact ⟨g,o,xs,Heap.le_trans l lg,x⟩
theorem mtranspose_spec(gl:Gl h)(rv':RowV SSr h A n ls)(hn:n<=1000000)(hl:∀ i,i<n->(ls i).length<=100000000)
 (hK1:∀ rows cols,MOk r c n ls rows cols->∀ h' A' c',OwnS h h' A' c' n (fun k=>ls (k%rows*cols+k/rows))->K (.tuple #[matV c r A' n c',I 0]) h')
 (hK0:¬ Mx r c n ls->∀ h',h.le h'->K (.tuple #[matV 0 0 none 0 0,I 1]) h'):FCall Tryz.prog f_MTranspose #[matV r c A n cap] h K:=by
 refine MTranspose_ok _ _ _ _ _ ?_
 unfold MTranspose
 refine mvalid_spec gl rv' hn hl (fun hx=>⟨_,rfl,?_⟩) (fun hno=>⟨_,rfl,hK0 hno h (Heap.le_refl _)⟩)
 obtain ⟨rows,cols,mk⟩:=hx
 have hk:=hK1 rows cols mk
 obtain ⟨rfl,rfl,_,_,_,_,rfl,_⟩:=id mk
 have:=mk.r2;have:=mk.c2
 refine mtransS_spec rv' (by omega) (by omega) ?_
 intro A2 c2 h2 g2 o2 xs l2 s2 ow hxl rr
 exact ⟨_,_,_,rfl,Heap.le_trans l2 s2.le,hk h2 A2 c2 ⟨g2,o2,xs,l2,s2,ow,hxl,rr⟩⟩
end
end Go.Proofs.YthilnfgnpdeofaaGreatDoor
/-
 Sums,differences and multiples of matrices.
-/
namespace Go.Proofs.YthilnfgnpdeofaaGreatDoor
open Go
set_option maxRecDepth 20000
theorem Br.nt{X Y:Prop}(y:Y):Br (!true) X Y:=y
theorem Br.nf{X Y:Prop}(x:X):Br (!false) X Y:=x
theorem RowX.qcells{o:Heap}{b:Nat}{ys:List QV}(r:RowX o b ys){i:Nat}(hi:i<ys.length):o.cell? (Addr.add (Addr.add ⟨b,0,none⟩ (i*4)) 0)=some (.bool ys[i].s)/\o.cell? (Addr.add (Addr.add ⟨b,0,none⟩ (i*4)) 1)=some (.slice ys[i].A ys[i].n ys[i].c)/\o.cell? (Addr.add (Addr.add ⟨b,0,none⟩ (i*4)) 2)=some (.bool ys[i].s2)/\o.cell? (Addr.add (Addr.add ⟨b,0,none⟩ (i*4)) 3)=some (.slice ys[i].A2 ys[i].n2 ys[i].c2):=by
 obtain ⟨x,e,hc⟩:=SlF.at (by decide) (r.rowB.slF (Heap.le_refl o)) hi
 simp only [Option.some.injEq] at e
 subst e
 exact ⟨hc 0 _ rfl,hc 1 _ rfl,hc 2 _ rfl,hc 3 _ rfl⟩
structure MOut where
 r:Int
 c:Int
 n:Nat
 f:Nat->List UInt8
 e:Int
def noM(e:Int):MOut:=⟨0,0,0,fun _=>[],e⟩
def CombO(r c:Int)(n:Nat)(la:Nat->List UInt8)(r2 c2:Int)(n2:Nat)(lb:Nat->List UInt8)(q:Rat)(o:MOut):Prop:=
 (¬ (Mx r c n la/\Mx r2 c2 n2 lb)/\o=noM 1)\/(Mx r c n la/\Mx r2 c2 n2 lb/\(r≠r2\/c≠c2)/\o=noM 4)\/(Mx r c n la/\Mx r2 c2 n2 lb/\r=r2/\c=c2/\o=⟨r,c,n,fun k=>txtQ (rv (la k)+q*rv (lb k)),0⟩)
theorem CombO.eq{r c r2 c2:Int}{n n2:Nat}{la lb:Nat->List UInt8}{q:Rat}{o p:MOut}(x:CombO r c n la r2 c2 n2 lb q o)(y:CombO r c n la r2 c2 n2 lb q p):o=p:=by
 rcases x with ⟨h1,rfl⟩|⟨h1,h2,h3,rfl⟩|⟨h1,h2,h3,h4,rfl⟩<;>rcases y with ⟨g1,rfl⟩|⟨g1,g2,g3,rfl⟩|⟨g1,g2,g3,g4,rfl⟩<;>first|rfl|(exfalso;exact h1 ⟨g1,g2⟩)|(exfalso;exact g1 ⟨h1,h2⟩)|(exfalso;omega)
def ScalO(s:List UInt8)(r c:Int)(n:Nat)(la:Nat->List UInt8)(o:MOut):Prop:=
 (¬ (IsNum s/\Mx r c n la)/\o=noM 1)\/(IsNum s/\Mx r c n la/\o=⟨r,c,n,fun k=>txtQ (rv s*rv (la k)),0⟩)
theorem ScalO.eq{s:List UInt8}{r c:Int}{n:Nat}{la:Nat->List UInt8}{o p:MOut}(x:ScalO s r c n la o)(y:ScalO s r c n la p):o=p:=by
 rcases x with ⟨h1,rfl⟩|⟨h1,h2,rfl⟩<;>rcases y with ⟨g1,rfl⟩|⟨g1,g2,rfl⟩<;>first|rfl|(exfalso;exact h1 ⟨g1,g2⟩)|(exfalso;exact g1 ⟨h1,h2⟩)
section
variable {h:Heap} {K:Value->Heap->Prop} {A B:Option Addr} {n n2 cap cap2 m w:Nat} {r c r2 c2:Int} {la lb:Nat->List UInt8}
theorem mcombineA_spec(gl:Gl h)(ra:RowV SSr h A n la)(rb:RowV SSr h B n2 lb)(hn:n<=1000000)(hn2:n2<=1000000)(hl:∀ i,i<n->(la i).length<=100000000)(hl2:∀ i,i<n2->(lb i).length<=100000000)(hs:∀ i,i<n->Sz m (rv (la i)))(hs2:∀ i,i<n2->Sz m (rv (lb i)))(hm:2*m+1<=40000000)
 (hK:∀ o,CombO r c n la r2 c2 n2 lb (1) o->∀ A' cap' h',h.le h'->RowV SSr h' A' o.n o.f->K (.tuple #[matV o.r o.c A' o.n cap',I o.e]) h'):FCall Tryz.prog f_MCombine #[matV r c A n cap,matV r2 c2 B n2 cap2,.func (.func f_RAdd) #[] #[]] h K:=by
 refine MCombineA_ok _ _ _ _ _ _ _ _ _ _ ?_
 unfold MCombineA
 have bad:¬ (Mx r c n la/\Mx r2 c2 n2 lb)->∀ h',h.le h'->K (.tuple #[matV 0 0 none 0 0,I 1]) h':=fun hx h' l=>hK (noM 1) (.inl ⟨hx,rfl⟩) none 0 h' l RowV.nil
 refine mread_spec gl ra hn hl (fun rows cols mk b1 h1 own=>?_) (fun hno h1 l1=>⟨_,_,_,_,rfl,?_⟩)
 ·obtain ⟨g1,o1,xs,lg1,s1,rx,hx,rr⟩:=own.ex
  refine ⟨_,_,_,_,rfl,s1.call (mread_spec (gl.mono lg1) (rb.mono monSS lg1) hn2 hl2 ?_ ?_)⟩
  ·intro rows2 cols2 mk2 b2 g2 own2 h2 s2
   refine ⟨_,_,_,_,rfl,Br.nt (Br.nt ?_)⟩
   have l12:=own2.le
   have lh2:=Heap.le_trans lg1 (Heap.le_trans l12 s2.le)
   refine Br.bne (fun e=>hK (noM 4) (.inr (.inl ⟨⟨_,_,mk⟩,⟨_,_,mk2⟩,.inl e,rfl⟩)) none 0 h2 lh2 RowV.nil) (fun er=>Br.bne (fun e=>hK (noM 4) (.inr (.inl ⟨⟨_,_,mk⟩,⟨_,_,mk2⟩,.inr e,rfl⟩)) none 0 h2 lh2 RowV.nil) (fun ec=>?_))
   have good:=hK ⟨r,c,n,fun k=>txtQ (rv (la k)+(1)*rv (lb k)),0⟩ (.inr (.inr ⟨⟨_,_,mk⟩,⟨_,_,mk2⟩,er,ec,rfl⟩))
   have en:n2=n:=by
    have e1:rows2=rows:=by have:=mk.er;have:=mk2.er;omega
    have e2:cols2=cols:=by have:=mk.ec;have:=mk2.ec;omega
    rw [mk.len,mk2.len,e1,e2]
   have ov:=own2.vis monRQ
   refine ⟨fun L hp=>∃ (k:Nat) (g o:Heap) (ys:List QV),k<=n/\L=[I (k:Int)]/\g2.le g/\Sep hp g o/\RowX o b1 ys/\ys.length=n/\Row RQr g ys n (fun i=>if i<k then rv (la i)+(1)*rv (lb i) else rv (la i)),fun L _=>n-(iAt L 0).toNat,⟨0,g2,o1,xs,by omega,rfl,Heap.le_refl _,s2,rx,hx,(rr.mono monRQ l12).congr fun i _=>by rw [if_neg (Nat.not_lt_zero i)]⟩,?_⟩
   rintro z hp ⟨k,g,o,ys,hk,eL,lg,s,rx,hy,rr⟩
   obtain rfl:z=(k:Int):=by simpa using eL
   refine Br.dec (fun hlt=>?_) (fun hge=>?_)
   ·have hkn:k<n:=by omega
    obtain ⟨c0,c1,c2',c3⟩:=rx.qcells (i:=k) (by omega)
    obtain ⟨a2,w2,e2,i2,d0,d1,d2,d3⟩:=(ov.mono monRQ lg).qat (i:=k) (by omega)
    have iq:=rr.get (i:=k) hkn (by omega)
    rw [if_neg (Nat.lt_irrefl k)] at iq
    refine ⟨_,rfl,by omega,by omega,_,_,_,_,_,_,_,_,s.cell c0,s.cell c1,s.cell c2',s.cell c3,a2,e2,by omega,by omega,_,_,_,_,_,_,_,_,Heap.cell?_le s.le d0,Heap.cell?_le s.le d1,Heap.cell?_le s.le d2,Heap.cell?_le s.le d3,?_⟩
    refine s.call (radd'_spec (a:=ys[k]) (b:=w2) (gl.mono (Heap.le_trans lg1 (Heap.le_trans l12 lg))).tz iq i2 (hs k hkn) (hs2 k (by omega)) (by omega) ?_)
    intro w6 g6 l6 i6 h6 s6
    refine ⟨_,_,_,_,_,_,_,_,rfl,_,rfl,by omega,by omega,?_⟩
    refine Sep.storeX tRqs_one (y:=w6) rfl s6 rx (i:=k) (by omega) ?_
    intro h7 o7 x7 eo s7 rx7
    rw [show wi64 ((k:Int)+1)=((k+1:Nat):Int) by rw [wi64_id]<;>omega]
    refine ⟨⟨k+1,g6,o7,_,by omega,rfl,Heap.le_trans lg l6,s7,rx7,by rw [List.length_set];exact hy,((rr.mono monRQ l6).upd (by omega) i6).congr fun i _=>?_⟩,by simp only [iAt0];omega⟩
    show (if i=k then _ else _)=_
    by_cases e:i=k
    ·subst e
     rw [if_pos rfl,if_pos (Nat.lt_succ_self i)]
     rw [Rat.one_mul]
    ·rw [if_neg e]
     by_cases e3:i<k
     ·rw [if_pos e3,if_pos (by omega)]
     ·rw [if_neg e3,if_neg (by omega)]
   ·have:k=n:=by omega
    subst this
    have rq:RowV RQr hp (some ⟨b1,0,none⟩) k (fun i=>rv (la i)+(1)*rv (lb i)):=⟨ys,rx.rowB.slF s.ole,hy,(rr.mono monRQ s.le).congr fun i hi=>by rw [if_pos hi]⟩
    have q1:Sz 1 (1):=⟨by unfold ZB;decide +kernel,by unfold ZB;decide +kernel⟩
    refine mwrite_spec (m:=m+(1+m)+1) (gl.mono (Heap.le_trans lg1 (Heap.le_trans l12 (Heap.le_trans lg s.le)))) rq hn (fun i hi=>(hs i hi).add (q1.mul (hs2 i (by omega)))) (by omega) ?_
    intro b9 h9 own9
    exact ⟨_,_,_,_,_,rfl,good _ _ h9 (Heap.le_trans lg1 (Heap.le_trans l12 (Heap.le_trans lg (Heap.le_trans s.le own9.le)))) (own9.vis monSS)⟩
  ·intro hno g2 l2 h2 s2
   exact ⟨_,_,_,_,rfl,Br.nt (Br.nf (bad (fun x=>hno x.2) h2 (Heap.le_trans lg1 (Heap.le_trans l2 s2.le))))⟩
 ·refine mread_spec (gl.mono l1) (rb.mono monSS l1) hn2 hl2 (fun rows2 cols2 mk2 b2 h2 own2=>⟨_,_,_,_,rfl,Br.nf (bad (fun x=>hno x.1) h2 (Heap.le_trans l1 own2.le))⟩) (fun _ h2 l2=>⟨_,_,_,_,rfl,Br.nf (bad (fun x=>hno x.1) h2 (Heap.le_trans l1 l2))⟩)
theorem mcombineS_spec(gl:Gl h)(ra:RowV SSr h A n la)(rb:RowV SSr h B n2 lb)(hn:n<=1000000)(hn2:n2<=1000000)(hl:∀ i,i<n->(la i).length<=100000000)(hl2:∀ i,i<n2->(lb i).length<=100000000)(hs:∀ i,i<n->Sz m (rv (la i)))(hs2:∀ i,i<n2->Sz m (rv (lb i)))(hm:2*m+1<=40000000)
 (hK:∀ o,CombO r c n la r2 c2 n2 lb (-1) o->∀ A' cap' h',h.le h'->RowV SSr h' A' o.n o.f->K (.tuple #[matV o.r o.c A' o.n cap',I o.e]) h'):FCall Tryz.prog f_MCombine #[matV r c A n cap,matV r2 c2 B n2 cap2,.func (.func f_RSub) #[] #[]] h K:=by
 refine MCombineS_ok _ _ _ _ _ _ _ _ _ _ ?_
 unfold MCombineS
 have bad:¬ (Mx r c n la/\Mx r2 c2 n2 lb)->∀ h',h.le h'->K (.tuple #[matV 0 0 none 0 0,I 1]) h':=fun hx h' l=>hK (noM 1) (.inl ⟨hx,rfl⟩) none 0 h' l RowV.nil
 refine mread_spec gl ra hn hl (fun rows cols mk b1 h1 own=>?_) (fun hno h1 l1=>⟨_,_,_,_,rfl,?_⟩)
 ·obtain ⟨g1,o1,xs,lg1,s1,rx,hx,rr⟩:=own.ex
  refine ⟨_,_,_,_,rfl,s1.call (mread_spec (gl.mono lg1) (rb.mono monSS lg1) hn2 hl2 ?_ ?_)⟩
  ·intro rows2 cols2 mk2 b2 g2 own2 h2 s2
   refine ⟨_,_,_,_,rfl,Br.nt (Br.nt ?_)⟩
   have l12:=own2.le
   have lh2:=Heap.le_trans lg1 (Heap.le_trans l12 s2.le)
   refine Br.bne (fun e=>hK (noM 4) (.inr (.inl ⟨⟨_,_,mk⟩,⟨_,_,mk2⟩,.inl e,rfl⟩)) none 0 h2 lh2 RowV.nil) (fun er=>Br.bne (fun e=>hK (noM 4) (.inr (.inl ⟨⟨_,_,mk⟩,⟨_,_,mk2⟩,.inr e,rfl⟩)) none 0 h2 lh2 RowV.nil) (fun ec=>?_))
   have good:=hK ⟨r,c,n,fun k=>txtQ (rv (la k)+(-1)*rv (lb k)),0⟩ (.inr (.inr ⟨⟨_,_,mk⟩,⟨_,_,mk2⟩,er,ec,rfl⟩))
   have en:n2=n:=by
    have e1:rows2=rows:=by have:=mk.er;have:=mk2.er;omega
    have e2:cols2=cols:=by have:=mk.ec;have:=mk2.ec;omega
    rw [mk.len,mk2.len,e1,e2]
   have ov:=own2.vis monRQ
   refine ⟨fun L hp=>∃ (k:Nat) (g o:Heap) (ys:List QV),k<=n/\L=[I (k:Int)]/\g2.le g/\Sep hp g o/\RowX o b1 ys/\ys.length=n/\Row RQr g ys n (fun i=>if i<k then rv (la i)+(-1)*rv (lb i) else rv (la i)),fun L _=>n-(iAt L 0).toNat,⟨0,g2,o1,xs,by omega,rfl,Heap.le_refl _,s2,rx,hx,(rr.mono monRQ l12).congr fun i _=>by rw [if_neg (Nat.not_lt_zero i)]⟩,?_⟩
   rintro z hp ⟨k,g,o,ys,hk,eL,lg,s,rx,hy,rr⟩
   obtain rfl:z=(k:Int):=by simpa using eL
   refine Br.dec (fun hlt=>?_) (fun hge=>?_)
   ·have hkn:k<n:=by omega
    obtain ⟨c0,c1,c2',c3⟩:=rx.qcells (i:=k) (by omega)
    obtain ⟨a2,w2,e2,i2,d0,d1,d2,d3⟩:=(ov.mono monRQ lg).qat (i:=k) (by omega)
    have iq:=rr.get (i:=k) hkn (by omega)
    rw [if_neg (Nat.lt_irrefl k)] at iq
    refine ⟨_,rfl,by omega,by omega,_,_,_,_,_,_,_,_,s.cell c0,s.cell c1,s.cell c2',s.cell c3,a2,e2,by omega,by omega,_,_,_,_,_,_,_,_,Heap.cell?_le s.le d0,Heap.cell?_le s.le d1,Heap.cell?_le s.le d2,Heap.cell?_le s.le d3,?_⟩
    refine s.call (rsub'_spec (a:=ys[k]) (b:=w2) (gl.mono (Heap.le_trans lg1 (Heap.le_trans l12 lg))).tz iq i2 (hs k hkn) (hs2 k (by omega)) (by omega) ?_)
    intro w6 g6 l6 i6 h6 s6
    refine ⟨_,_,_,_,_,_,_,_,rfl,_,rfl,by omega,by omega,?_⟩
    refine Sep.storeX tRqs_one (y:=w6) rfl s6 rx (i:=k) (by omega) ?_
    intro h7 o7 x7 eo s7 rx7
    rw [show wi64 ((k:Int)+1)=((k+1:Nat):Int) by rw [wi64_id]<;>omega]
    refine ⟨⟨k+1,g6,o7,_,by omega,rfl,Heap.le_trans lg l6,s7,rx7,by rw [List.length_set];exact hy,((rr.mono monRQ l6).upd (by omega) i6).congr fun i _=>?_⟩,by simp only [iAt0];omega⟩
    show (if i=k then _ else _)=_
    by_cases e:i=k
    ·subst e
     rw [if_pos rfl,if_pos (Nat.lt_succ_self i)]
     rw [Rat.sub_eq_add_neg,Rat.neg_mul,Rat.one_mul]
    ·rw [if_neg e]
     by_cases e3:i<k
     ·rw [if_pos e3,if_pos (by omega)]
     ·rw [if_neg e3,if_neg (by omega)]
   ·have:k=n:=by omega
    subst this
    have rq:RowV RQr hp (some ⟨b1,0,none⟩) k (fun i=>rv (la i)+(-1)*rv (lb i)):=⟨ys,rx.rowB.slF s.ole,hy,(rr.mono monRQ s.le).congr fun i hi=>by rw [if_pos hi]⟩
    have q1:Sz 1 (-1):=⟨by unfold ZB;decide +kernel,by unfold ZB;decide +kernel⟩
    refine mwrite_spec (m:=m+(1+m)+1) (gl.mono (Heap.le_trans lg1 (Heap.le_trans l12 (Heap.le_trans lg s.le)))) rq hn (fun i hi=>(hs i hi).add (q1.mul (hs2 i (by omega)))) (by omega) ?_
    intro b9 h9 own9
    exact ⟨_,_,_,_,_,rfl,good _ _ h9 (Heap.le_trans lg1 (Heap.le_trans l12 (Heap.le_trans lg (Heap.le_trans s.le own9.le)))) (own9.vis monSS)⟩
  ·intro hno g2 l2 h2 s2
   exact ⟨_,_,_,_,rfl,Br.nt (Br.nf (bad (fun x=>hno x.2) h2 (Heap.le_trans lg1 (Heap.le_trans l2 s2.le))))⟩
 ·refine mread_spec (gl.mono l1) (rb.mono monSS l1) hn2 hl2 (fun rows2 cols2 mk2 b2 h2 own2=>⟨_,_,_,_,rfl,Br.nf (bad (fun x=>hno x.1) h2 (Heap.le_trans l1 own2.le))⟩) (fun _ h2 l2=>⟨_,_,_,_,rfl,Br.nf (bad (fun x=>hno x.1) h2 (Heap.le_trans l1 l2))⟩)
theorem mscale_spec{s:List UInt8}(gl:Gl h)(ra:RowV SSr h A n la)(hn:n<=1000000)(hl:∀ i,i<n->(la i).length<=100000000)(hls:s.length<=100000000)(hs:∀ i,i<n->Sz m (rv (la i)))(hsq:Sz m (rv s))(hm:2*m+1<=40000000)
 (hK:∀ o,ScalO s r c n la o->∀ A' cap' h',h.le h'->RowV SSr h' A' o.n o.f->K (.tuple #[matV o.r o.c A' o.n cap',I o.e]) h'):FCall Tryz.prog f_MScale #[.string (bs s),matV r c A n cap] h K:=by
 refine MScale_ok _ _ _ _ _ _ ?_
 unfold MScale
 have bad:¬ (IsNum s/\Mx r c n la)->∀ h',h.le h'->K (.tuple #[matV 0 0 none 0 0,I 1]) h':=fun hx h' l=>hK (noM 1) (.inl ⟨hx,rfl⟩) none 0 h' l RowV.nil
 refine read'_spec gl.tz hls (fun q eq w h0 l0 iw=>⟨_,_,_,_,_,_,_,_,_,rfl,?_⟩) (fun hno w h0 l0 _=>⟨_,_,_,_,_,_,_,_,_,rfl,?_⟩)
 ·have erv:rv s=q:=by rw [eq];exact rv_txt q
  rw [erv] at hsq
  refine mread_spec (gl.mono l0) (ra.mono monSS l0) hn hl (fun rows cols mk b1 h1 own=>?_) (fun hno h1 l1=>⟨_,_,_,_,rfl,Br.nt (Br.nf (bad (fun x=>hno x.2) h1 (Heap.le_trans l0 l1)))⟩)
  obtain ⟨g1,o1,xs,lg1,s1,rx,hx,rr⟩:=own.ex
  refine ⟨_,_,_,_,rfl,Br.nt (Br.nt ?_)⟩
  have good:=hK ⟨r,c,n,fun k=>txtQ (rv s*rv (la k)),0⟩ (.inr ⟨⟨q,eq⟩,⟨_,_,mk⟩,rfl⟩)
  refine ⟨fun L hp=>∃ (k:Nat) (g o:Heap) (ys:List QV),k<=n/\L=[I (k:Int)]/\g1.le g/\Sep hp g o/\RowX o b1 ys/\ys.length=n/\Row RQr g ys n (fun i=>if i<k then rv s*rv (la i) else rv (la i)),fun L _=>n-(iAt L 0).toNat,⟨0,g1,o1,xs,by omega,rfl,Heap.le_refl _,s1,rx,hx,rr.congr fun i _=>by rw [if_neg (Nat.not_lt_zero i)]⟩,?_⟩
  rintro z hp ⟨k,g,o,ys,hk,eL,lg,s',rx,hy,rr⟩
  obtain rfl:z=(k:Int):=by simpa using eL
  refine Br.dec (fun hlt=>?_) (fun hge=>?_)
  ·have hkn:k<n:=by omega
   obtain ⟨c0,c1,c2',c3⟩:=rx.qcells (i:=k) (by omega)
   have iq:=rr.get (i:=k) hkn (by omega)
   rw [if_neg (Nat.lt_irrefl k)] at iq
   refine ⟨_,rfl,by omega,by omega,_,_,_,_,_,_,_,_,s'.cell c0,s'.cell c1,s'.cell c2',s'.cell c3,?_⟩
   refine s'.call (rmul'_spec (a:=ys[k]) (b:=w) (gl.mono (Heap.le_trans l0 (Heap.le_trans lg1 lg))).tz iq (monRQ _ _ _ _ (Heap.le_trans lg1 lg) iw) (hs k hkn) hsq (by omega) ?_)
   intro w6 g6 l6 i6 h6 s6
   refine ⟨_,_,_,_,_,_,_,_,rfl,s'.le_le s6 l6,_,rfl,by omega,by omega,?_⟩
   refine Sep.storeX tRqs_one (y:=w6) rfl s6 rx (i:=k) (by omega) ?_
   intro h7 o7 x7 eo s7 rx7
   rw [show wi64 ((k:Int)+1)=((k+1:Nat):Int) by rw [wi64_id]<;>omega]
   refine ⟨⟨k+1,g6,o7,_,by omega,rfl,Heap.le_trans lg l6,s7,rx7,by rw [List.length_set];exact hy,((rr.mono monRQ l6).upd (by omega) i6).congr fun i _=>?_⟩,by simp only [iAt0];omega⟩
   show (if i=k then _ else _)=_
   by_cases e:i=k
   ·subst e
    rw [if_pos rfl,if_pos (Nat.lt_succ_self i),erv,Rat.mul_comm]
   ·rw [if_neg e]
    by_cases e3:i<k
    ·rw [if_pos e3,if_pos (by omega)]
    ·rw [if_neg e3,if_neg (by omega)]
  ·have:k=n:=by omega
   subst this
   have rq:RowV RQr hp (some ⟨b1,0,none⟩) k (fun i=>rv s*rv (la i)):=⟨ys,rx.rowB.slF s'.ole,hy,(rr.mono monRQ s'.le).congr fun i hi=>by rw [if_pos hi]⟩
   refine mwrite_spec (m:=m+m) (gl.mono (Heap.le_trans l0 (Heap.le_trans lg1 (Heap.le_trans lg s'.le)))) rq hn (fun i hi=>by rw [erv];exact hsq.mul (hs i hi)) (by omega) ?_
   intro b9 h9 own9
   exact ⟨_,_,_,_,_,rfl,good _ _ h9 (Heap.le_trans l0 (Heap.le_trans lg1 (Heap.le_trans lg (Heap.le_trans s'.le own9.le)))) (own9.vis monSS)⟩
 ·refine mread_spec (gl.mono l0) (ra.mono monSS l0) hn hl (fun rows cols mk b1 h1 own=>⟨_,_,_,_,rfl,Br.nf (bad (fun x=>hno x.1) h1 (Heap.le_trans l0 own.le))⟩) (fun _ h1 l1=>⟨_,_,_,_,rfl,Br.nf (bad (fun x=>hno x.1) h1 (Heap.le_trans l0 l1))⟩)
end
end Go.Proofs.YthilnfgnpdeofaaGreatDoor
/-
 The reference's sums and multiples of matrices.
-/
namespace Go.Proofs.YthilnfgnpdeofaaGreatDoor
open Go
set_option maxRecDepth 20000
def doneP(F:Nat->Nat->Rat)(i k:Nat):Nat->Nat->Rat:=fun a b=>if a<i\/(a=i/\b<k) then F a b else 0
theorem doneP_step(F:Nat->Nat->Rat)(i k a b:Nat):updQ (doneP F i k) i k (F i k) a b=doneP F i (k+1) a b:=by
 unfold updQ doneP
 by_cases e:a=i/\b=k
 ·rw [if_pos e,if_pos (by omega),e.1,e.2]
 ·rw [if_neg e]
  by_cases e3:a<i\/(a=i/\b<k)
  ·rw [if_pos e3,if_pos (by omega)]
  ·rw [if_neg e3,if_neg (by omega)]
theorem doneP_next(F:Nat->Nat->Rat){i w a b:Nat}(hb:b<w):doneP F i w a b=doneP F (i+1) 0 a b:=by
 unfold doneP
 by_cases e3:a<i\/(a=i/\b<w)
 ·rw [if_pos e3,if_pos (by omega)]
 ·rw [if_neg e3,if_neg (by omega)]
section
variable {h:Heap} {K:Value->Heap->Prop} {A B:Option Addr} {n n2 cap cap2 m:Nat} {r c r2 c2:Int} {la lb:Nat->List UInt8} {w:QV} {q:Rat}
theorem fcombine_spec(ra:RowV SSr h A n la)(rb:RowV SSr h B n2 lb)(hn:n<=1000000)(hn2:n2<=1000000)(hl:∀ i,i<n->(la i).length<=100000000)(hl2:∀ i,i<n2->(lb i).length<=100000000)(hs:∀ i,i<n->Sz m (rv (la i)))(hs2:∀ i,i<n2->Sz m (rv (lb i)))(iq:NQ h w q)(hq:Sz m q)(hm:3*m+1<=400000000)
 (hK:∀ o,CombO r c n la r2 c2 n2 lb q o->∀ A' cap' h',h.le h'->RowV SSr h' A' o.n o.f->K (.tuple #[matV o.r o.c A' o.n cap',I o.e]) h'):FCall Tryz.prog f_FCombine #[matV r c A n cap,w.v,matV r2 c2 B n2 cap2] h K:=by
 refine FCombine_ok _ _ _ _ _ _ _ _ _ _ _ _ _ _ _ _ _ _ ?_
 unfold FCombine
 have bad:¬ (Mx r c n la/\Mx r2 c2 n2 lb)->∀ h',h.le h'->K (.tuple #[matV 0 0 none 0 0,I 1]) h':=fun hx h' l=>hK (noM 1) (.inl ⟨hx,rfl⟩) none 0 h' l RowV.nil
 refine frows_spec ra hn hl (fun rows cols mk b1 h1 l1 rs=>⟨_,_,_,_,rfl,?_⟩) (fun hno h1 l1=>⟨_,_,_,_,rfl,?_⟩)
 ·refine frows_spec (rb.mono monSS l1) hn2 hl2 (fun rows2 cols2 mk2 b2 h2 l2 rs2=>⟨_,_,_,_,rfl,Br.nt (Br.nt ?_)⟩) (fun hno h2 l2=>⟨_,_,_,_,rfl,Br.nt (Br.nf (bad (fun x=>hno x.2) h2 (Heap.le_trans l1 l2)))⟩)
  have lh2:=Heap.le_trans l1 l2
  refine Br.bne (fun e=>hK (noM 4) (.inr (.inl ⟨⟨_,_,mk⟩,⟨_,_,mk2⟩,.inl e,rfl⟩)) none 0 h2 lh2 RowV.nil) (fun er=>Br.bne (fun e=>hK (noM 4) (.inr (.inl ⟨⟨_,_,mk⟩,⟨_,_,mk2⟩,.inr e,rfl⟩)) none 0 h2 lh2 RowV.nil) (fun ec=>?_))
  have good:=hK ⟨r,c,n,fun k=>txtQ (rv (la k)+q*rv (lb k)),0⟩ (.inr (.inr ⟨⟨_,_,mk⟩,⟨_,_,mk2⟩,er,ec,rfl⟩))
  obtain rfl:rows2=rows:=by have:=mk.er;have:=mk2.er;omega
  obtain rfl:cols2=cols:=by have:=mk.ec;have:=mk2.ec;omega
  have:=mk.r1;have:=mk.r2;have:=mk.c1;have:=mk.c2
  have en2:=mk2.len
  obtain ⟨rfl,rfl,_,_,_,_,rfl,_⟩:=id mk
  subst en2
  have ms:=mtx_sz hs
  have ms2:=mtx_sz hs2
  refine fblank_spec (by omega) (by omega) ?_
  intro h3 g3 o3 bo rb3 l3 t3
  have fz:∀ a b,a<rows2->b<cols2->Sz (m+(m+m)+1) (mtx (rvs la) cols2 a b+q*mtx (rvs lb) cols2 a b):=fun a b ha hb=>(ms a b ha hb).add (hq.mul (ms2 a b ha hb))
  refine ⟨_,_,_,rfl,fun L hp=>∃ (i:Nat) (g o:Heap),i<=rows2/\L=[I (i:Int)]/\h2.le g/\Mt hp g o bo rb3 rows2 cols2 (doneP (fun a b=>mtx (rvs la) cols2 a b+q*mtx (rvs lb) cols2 a b) i 0),fun L _=>rows2-(iAt L 0).toNat,⟨0,g3,o3,by omega,rfl,l3,t3.congr fun a b _ _=>by unfold doneP;rw [if_neg (by omega)]⟩,?_⟩
  rintro z hp ⟨i,g,o,hi,eL,lg,t⟩
  obtain rfl:z=(i:Int):=by simpa using eL
  refine Br.dec (fun hlt=>?_) (fun hge=>?_)
  ·have hin:i<rows2:=by omega
   obtain ⟨a1,s1,ea1,f1,f2,hc1,row1⟩:=(RowsV.mono l2 rs).at hin
   obtain ⟨a2,s2,ea2,f3,f4,hc2,row2⟩:=rs2.at hin
   refine ⟨fun L hp=>∃ (k:Nat) (g o:Heap),k<=cols2/\L=[I (k:Int)]/\h2.le g/\Mt hp g o bo rb3 rows2 cols2 (doneP (fun a b=>mtx (rvs la) cols2 a b+q*mtx (rvs lb) cols2 a b) i k),fun L _=>cols2-(iAt L 0).toNat,⟨0,g,o,by omega,rfl,lg,t⟩,?_⟩
   rintro z hp2 ⟨k,g2,o2,hk,eL2,lg2,t2⟩
   obtain rfl:z=(k:Int):=by simpa using eL2
   have lhp:=Heap.le_trans lg2 t2.sep.le
   refine Br.dec (fun hlt2=>?_) (fun hge2=>?_)
   ·have hkw:k<cols2:=by omega
    obtain ⟨cc,hcc,hh⟩:=t2.head hin
    obtain ⟨a5,w5,e5,n5,c0,c1,c2',c3⟩:=(row1.mono monNQ lg2).qat hkw
    obtain ⟨a6,w6,e6,n6,d0,d1,d2',d3⟩:=(row2.mono monNQ lg2).qat hkw
    refine ⟨_,rfl,by omega,by omega,_,_,_,t2.sep.cell hh,a1,ea1,by omega,by omega,_,_,_,Heap.cell?_le lhp hc1,a5,e5,by omega,by omega,_,_,_,_,_,_,_,_,Heap.cell?_le t2.sep.le c0,Heap.cell?_le t2.sep.le c1,Heap.cell?_le t2.sep.le c2',Heap.cell?_le t2.sep.le c3,a2,ea2,by omega,by omega,_,_,_,Heap.cell?_le lhp hc2,a6,e6,by omega,by omega,_,_,_,_,_,_,_,_,Heap.cell?_le t2.sep.le d0,Heap.cell?_le t2.sep.le d1,Heap.cell?_le t2.sep.le d2',Heap.cell?_le t2.sep.le d3,?_⟩
    refine t2.sep.call (rmul_spec (a:=w) (b:=w6) (NQ.mono (Heap.le_trans lh2 lg2) iq) n6 hq (ms2 i k hin hkw) (by omega) ?_)
    intro w7 g7 l7 i7 h7 s7
    refine ⟨_,_,_,_,_,_,_,_,rfl,t2.sep.le_le s7 l7,?_⟩
    refine s7.call (radd_spec (a:=w5) (b:=w7) (m:=m+m) (NQ.mono l7 n5) i7 ((ms i k hin hkw).mono (by omega)) (hq.mul (ms2 i k hin hkw)) (by omega) ?_)
    intro w8 g8 l8 i8 h8 s8
    have t8:Mt h8 g8 o2 bo rb3 rows2 cols2 (doneP (fun a b=>mtx (rvs la) cols2 a b+q*mtx (rvs lb) cols2 a b) i k):=t2.next s8 (Heap.le_trans l7 l8)
    refine ⟨_,_,_,_,_,_,_,_,rfl,s7.le_le s8 l8,_,rfl,by omega,by omega,?_⟩
    refine t8.store hin hkw i8 ?_
    intro h9 o9 t9 _
    rw [show wi64 ((k:Int)+1)=((k+1:Nat):Int) by rw [wi64_id]<;>omega]
    exact ⟨⟨k+1,g8,o9,by omega,rfl,Heap.le_trans lg2 (Heap.le_trans l7 l8),t9.congr fun a b _ _=>doneP_step (fun a b=>mtx (rvs la) cols2 a b+q*mtx (rvs lb) cols2 a b) i k a b⟩,by simp only [iAt0];omega⟩
   ·have:k=cols2:=by omega
    subst this
    rw [show wi64 ((i:Int)+1)=((i+1:Nat):Int) by rw [wi64_id]<;>omega]
    exact ⟨⟨i+1,g2,o2,by omega,rfl,lg2,t2.congr fun a b _ hb=>doneP_next _ hb⟩,by simp only [iAt0];omega⟩
  ·have:i=rows2:=by omega
   subst this
   have rf:RowsV hp (some ⟨bo,0,none⟩) i cols2 (fun a b=>mtx (rvs la) cols2 a b+q*mtx (rvs lb) cols2 a b):=(t.rowsV).congr fun a b ha _=>by unfold doneP;rw [if_pos (.inl ha)]
   refine fpack_spec (m:=m+(m+m)+1) rf (by omega) (by omega) (by omega) (by omega) fz (by omega) ?_
   intro A3 c3 h4 l4 hc3 r3
   refine ⟨_,_,_,_,_,rfl,good A3 c3 h4 (Heap.le_trans lh2 (Heap.le_trans lg (Heap.le_trans t.sep.le l4))) (r3.congr fun k hk=>?_)⟩
   show txtQ (rvs la (k/cols2*cols2+k%cols2)+q*rvs lb (k/cols2*cols2+k%cols2))=_
   rw [Nat.mul_comm,Nat.div_add_mod]
 ·refine frows_spec (rb.mono monSS l1) hn2 hl2 (fun rows2 cols2 mk2 b2 h2 l2 rs2=>⟨_,_,_,_,rfl,Br.nf (bad (fun x=>hno x.1) h2 (Heap.le_trans l1 l2))⟩) (fun _ h2 l2=>⟨_,_,_,_,rfl,Br.nf (bad (fun x=>hno x.1) h2 (Heap.le_trans l1 l2))⟩)
theorem fscale_spec{s:List UInt8}(ra:RowV SSr h A n la)(hn:n<=1000000)(hl:∀ i,i<n->(la i).length<=100000000)(hls:s.length<=100000000)(hs:∀ i,i<n->Sz m (rv (la i)))(hsq:Sz m (rv s))(hm:3*m+1<=400000000)
 (hK:∀ o,ScalO s r c n la o->∀ A' cap' h',h.le h'->RowV SSr h' A' o.n o.f->K (.tuple #[matV o.r o.c A' o.n cap',I o.e]) h'):FCall Tryz.prog f_FScale #[.string (bs s),matV r c A n cap] h K:=by
 refine FScale_ok _ _ _ _ _ _ ?_
 unfold FScale
 have bad:¬ (IsNum s/\Mx r c n la)->∀ h',h.le h'->K (.tuple #[matV 0 0 none 0 0,I 1]) h':=fun hx h' l=>hK (noM 1) (.inl ⟨hx,rfl⟩) none 0 h' l RowV.nil
 refine frows_spec ra hn hl (fun rows cols mk b1 h1 l1 rs=>⟨_,_,_,_,rfl,?_⟩) (fun hno h1 l1=>⟨_,_,_,_,rfl,?_⟩)
 ·refine read_spec hls (fun q eq w h2 l2 iq=>⟨_,_,_,_,_,_,_,_,_,rfl,Br.nt (Br.nt ?_)⟩) (fun hno w h2 l2=>⟨_,_,_,_,_,_,_,_,_,rfl,Br.nt (Br.nf (bad (fun x=>hno x.1) h2 (Heap.le_trans l1 l2)))⟩)
  have lh2:=Heap.le_trans l1 l2
  have erv:rv s=q:=by rw [eq];exact rv_txt q
  have good:=hK ⟨r,c,n,fun k=>txtQ (rv s*rv (la k)),0⟩ (.inr ⟨⟨q,eq⟩,⟨_,_,mk⟩,rfl⟩)
  rw [erv] at hsq good
  have:=mk.r1;have:=mk.r2;have:=mk.c1;have:=mk.c2
  obtain ⟨rfl,rfl,_,_,_,_,rfl,_⟩:=id mk
  have ms:=mtx_sz hs
  refine fblank_spec (by omega) (by omega) ?_
  intro h3 g3 o3 bo rb3 l3 t3
  have fz:∀ a b,a<rows->b<cols->Sz (m+m) (q*mtx (rvs la) cols a b):=fun a b ha hb=>hsq.mul (ms a b ha hb)
  refine ⟨_,_,_,rfl,fun L hp=>∃ (i:Nat) (g o:Heap),i<=rows/\L=[I (i:Int)]/\h2.le g/\Mt hp g o bo rb3 rows cols (doneP (fun a b=>q*mtx (rvs la) cols a b) i 0),fun L _=>rows-(iAt L 0).toNat,⟨0,g3,o3,by omega,rfl,l3,t3.congr fun a b _ _=>by unfold doneP;rw [if_neg (by omega)]⟩,?_⟩
  rintro z hp ⟨i,g,o,hi,eL,lg,t⟩
  obtain rfl:z=(i:Int):=by simpa using eL
  refine Br.dec (fun hlt=>?_) (fun hge=>?_)
  ·have hin:i<rows:=by omega
   obtain ⟨a1,s1,ea1,f1,f2,hc1,row1⟩:=(RowsV.mono l2 rs).at hin
   refine ⟨fun L hp=>∃ (k:Nat) (g o:Heap),k<=cols/\L=[I (k:Int)]/\h2.le g/\Mt hp g o bo rb3 rows cols (doneP (fun a b=>q*mtx (rvs la) cols a b) i k),fun L _=>cols-(iAt L 0).toNat,⟨0,g,o,by omega,rfl,lg,t⟩,?_⟩
   rintro z hp2 ⟨k,g2,o2,hk,eL2,lg2,t2⟩
   obtain rfl:z=(k:Int):=by simpa using eL2
   have lhp:=Heap.le_trans lg2 t2.sep.le
   refine Br.dec (fun hlt2=>?_) (fun hge2=>?_)
   ·have hkw:k<cols:=by omega
    obtain ⟨cc,hcc,hh⟩:=t2.head hin
    obtain ⟨a5,w5,e5,n5,c0,c1,c2',c3⟩:=(row1.mono monNQ lg2).qat hkw
    refine ⟨_,rfl,by omega,by omega,_,_,_,t2.sep.cell hh,a1,ea1,by omega,by omega,_,_,_,Heap.cell?_le lhp hc1,a5,e5,by omega,by omega,_,_,_,_,_,_,_,_,Heap.cell?_le t2.sep.le c0,Heap.cell?_le t2.sep.le c1,Heap.cell?_le t2.sep.le c2',Heap.cell?_le t2.sep.le c3,?_⟩
    refine t2.sep.call (rmul_spec (a:=w) (b:=w5) (NQ.mono lg2 iq) n5 hsq (ms i k hin hkw) (by omega) ?_)
    intro w7 g7 l7 i7 h7 s7
    refine ⟨_,_,_,_,_,_,_,_,rfl,t2.sep.le_le s7 l7,_,rfl,by omega,by omega,?_⟩
    have t8:=t2.next s7 l7
    refine t8.store hin hkw i7 ?_
    intro h9 o9 t9 _
    rw [show wi64 ((k:Int)+1)=((k+1:Nat):Int) by rw [wi64_id]<;>omega]
    exact ⟨⟨k+1,g7,o9,by omega,rfl,Heap.le_trans lg2 l7,t9.congr fun a b _ _=>doneP_step (fun a b=>q*mtx (rvs la) cols a b) i k a b⟩,by simp only [iAt0];omega⟩
   ·have:k=cols:=by omega
    subst this
    rw [show wi64 ((i:Int)+1)=((i+1:Nat):Int) by rw [wi64_id]<;>omega]
    exact ⟨⟨i+1,g2,o2,by omega,rfl,lg2,t2.congr fun a b _ hb=>doneP_next _ hb⟩,by simp only [iAt0];omega⟩
  ·have:i=rows:=by omega
   subst this
   have rf:RowsV hp (some ⟨bo,0,none⟩) i cols (fun a b=>q*mtx (rvs la) cols a b):=(t.rowsV).congr fun a b ha _=>by unfold doneP;rw [if_pos (.inl ha)]
   refine fpack_spec (m:=m+m) rf (by omega) (by omega) (by omega) (by omega) fz (by omega) ?_
   intro A3 c3 h4 l4 hc3 r3
   refine ⟨_,_,_,_,_,rfl,good A3 c3 h4 (Heap.le_trans lh2 (Heap.le_trans lg (Heap.le_trans t.sep.le l4))) (r3.congr fun k hk=>?_)⟩
   show txtQ (q*rvs la (k/cols*cols+k%cols))=_
   rw [Nat.mul_comm (k/cols),Nat.div_add_mod]
 ·refine read_spec hls (fun q eq w h2 l2 iq=>⟨_,_,_,_,_,_,_,_,_,rfl,Br.nf (bad (fun x=>hno x.2) h2 (Heap.le_trans l1 l2))⟩) (fun _ w h2 l2=>⟨_,_,_,_,_,_,_,_,_,rfl,Br.nf (bad (fun x=>hno x.2) h2 (Heap.le_trans l1 l2))⟩)
end
end Go.Proofs.YthilnfgnpdeofaaGreatDoor
/-
 The law of Transpose,Add,Sub and Scale.
-/
namespace Go.Proofs.YthilnfgnpdeofaaGreatDoor
open Go
set_option maxRecDepth 20000
theorem bs_dat2(s:ByteArray):bs s.data.toList=s:=by
 cases s;simp [bs]
theorem Br.t1{X Y:Prop}(x:X):Br true X Y:=x
section
variable {h:Heap} {K:Value->Heap->Prop} {A B:Option Addr} {n n2 cap cap2 m:Nat} {r c r2 c2:Int} {la lb:Nat->List UInt8}
def TransO(r c:Int)(n:Nat)(ls:Nat->List UInt8)(o:MOut):Prop:=
 (∃ rows cols,MOk r c n ls rows cols/\o=⟨c,r,n,fun k=>ls (k%rows*cols+k/rows),0⟩)\/(¬ Mx r c n ls/\o=noM 1)
theorem TransO.eq{o p:MOut}(x:TransO r c n la o)(y:TransO r c n la p):o=p:=by
 rcases x with ⟨r1,c1,m1,rfl⟩|⟨h1,rfl⟩<;>rcases y with ⟨r2,c2,m2,rfl⟩|⟨g1,rfl⟩
 ·obtain rfl:r2=r1:=by have:=m1.er;have:=m2.er;omega
  obtain rfl:c2=c1:=by have:=m1.ec;have:=m2.ec;omega
  rfl
 ·exact absurd ⟨_,_,m1⟩ g1
 ·exact absurd ⟨_,_,m2⟩ h1
 ·rfl
theorem TransO.n_le{o:MOut}(x:TransO r c n la o):o.n<=n:=by
 rcases x with ⟨_,_,_,rfl⟩|⟨_,rfl⟩
 ·exact Nat.le_refl _
 ·exact Nat.zero_le _
theorem CombO.n_le{q:Rat}{o:MOut}(x:CombO r c n la r2 c2 n2 lb q o):o.n<=n:=by
 rcases x with ⟨_,rfl⟩|⟨_,_,_,rfl⟩|⟨_,_,_,_,rfl⟩
 ·exact Nat.zero_le _
 ·exact Nat.zero_le _
 ·exact Nat.le_refl _
theorem ScalO.n_le{s:List UInt8}{o:MOut}(x:ScalO s r c n la o):o.n<=n:=by
 rcases x with ⟨_,rfl⟩|⟨_,_,rfl⟩
 ·exact Nat.zero_le _
 ·exact Nat.le_refl _
theorem mtransO_spec(gl:Gl h)(rv':RowV SSr h A n la)(hn:n<=1000000)(hl:∀ i,i<n->(la i).length<=100000000)
 (hK:∀ o,TransO r c n la o->∀ A' cap' h',h.le h'->RowV SSr h' A' o.n o.f->K (.tuple #[matV o.r o.c A' o.n cap',I o.e]) h'):FCall Tryz.prog f_MTranspose #[matV r c A n cap] h K:=
 mtranspose_spec gl rv' hn hl (fun rows cols mk h' A' c' ow=>hK ⟨c,r,n,fun k=>la (k%rows*cols+k/rows),0⟩ (.inl ⟨rows,cols,mk,rfl⟩) A' c' h' ow.le ow.vis) (fun hno h' l=>hK (noM 1) (.inr ⟨hno,rfl⟩) none 0 h' l RowV.nil)
theorem ftransO_spec(rv':RowV SSr h A n la)(hn:n<=1000000)(hl:∀ i,i<n->(la i).length<=100000000)(hs:∀ i,i<n->Sz m (rv (la i)))(hm:m<=400000000)
 (hK:∀ o,TransO r c n la o->∀ A' cap' h',h.le h'->RowV SSr h' A' o.n o.f->K (.tuple #[matV o.r o.c A' o.n cap',I o.e]) h'):FCall Tryz.prog f_FTranspose #[matV r c A n cap] h K:=
 ftranspose_spec rv' hn hl hs hm (fun rows cols mk h' A' c' l rr=>hK ⟨c,r,n,fun k=>la (k%rows*cols+k/rows),0⟩ (.inl ⟨rows,cols,mk,rfl⟩) A' c' h' l rr) (fun hno h' l=>hK (noM 1) (.inr ⟨hno,rfl⟩) none 0 h' l RowV.nil)
theorem madd_spec(gl:Gl h)(ra:RowV SSr h A n la)(rb:RowV SSr h B n2 lb)(hn:n<=1000000)(hn2:n2<=1000000)(hl:∀ i,i<n->(la i).length<=100000000)(hl2:∀ i,i<n2->(lb i).length<=100000000)(hs:∀ i,i<n->Sz m (rv (la i)))(hs2:∀ i,i<n2->Sz m (rv (lb i)))(hm:2*m+1<=40000000)
 (hK:∀ o,CombO r c n la r2 c2 n2 lb 1 o->∀ A' cap' h',h.le h'->RowV SSr h' A' o.n o.f->K (.tuple #[matV o.r o.c A' o.n cap',I o.e]) h'):FCall Tryz.prog f_MAdd #[matV r c A n cap,matV r2 c2 B n2 cap2] h K:=by
 refine MAdd_ok _ _ _ _ _ _ _ _ _ _ ?_
 unfold MAdd
 exact mcombineA_spec gl ra rb hn hn2 hl hl2 hs hs2 hm fun o ho A' cap' h' l rr=>⟨_,_,_,_,_,_,rfl,hK o ho A' cap' h' l rr⟩
theorem msub_spec(gl:Gl h)(ra:RowV SSr h A n la)(rb:RowV SSr h B n2 lb)(hn:n<=1000000)(hn2:n2<=1000000)(hl:∀ i,i<n->(la i).length<=100000000)(hl2:∀ i,i<n2->(lb i).length<=100000000)(hs:∀ i,i<n->Sz m (rv (la i)))(hs2:∀ i,i<n2->Sz m (rv (lb i)))(hm:2*m+1<=40000000)
 (hK:∀ o,CombO r c n la r2 c2 n2 lb (-1) o->∀ A' cap' h',h.le h'->RowV SSr h' A' o.n o.f->K (.tuple #[matV o.r o.c A' o.n cap',I o.e]) h'):FCall Tryz.prog f_MSub #[matV r c A n cap,matV r2 c2 B n2 cap2] h K:=by
 refine MSub_ok _ _ _ _ _ _ _ _ _ _ ?_
 unfold MSub
 exact mcombineS_spec gl ra rb hn hn2 hl hl2 hs hs2 hm fun o ho A' cap' h' l rr=>⟨_,_,_,_,_,_,rfl,hK o ho A' cap' h' l rr⟩
theorem law_matrixLinear{cb:ByteArray}(gl:Gl h)(s1:RowV SSr h A n la)(s2:RowV SSr h B n2 lb):FCall Tryz.prog f_LMatrixLinear #[matV r c A n cap,matV r2 c2 B n2 cap2,.string cb] h (LawK h):=by
 refine LMatrixLinear_ok _ _ _ _ _ _ _ _ _ _ _ ?_
 unfold LMatrixLinear
 obtain ⟨s,rfl⟩:∃ s,cb=bs s:=⟨cb.data.toList,(bs_dat2 cb).symm⟩
 have aw:∀ h',h.le h'->FCall Tryz.prog f_LAwake #[] h' (fun r hp=>∃ t,r= .bool t/\LawK h (.bool t) hp):=fun h' l=>awake_spec (gl.mono l) fun h'' l''=>⟨_,rfl,rfl,Heap.le_trans l l''⟩
 refine lsmall_spec s1 (fun sm=>⟨_,rfl,Br.nt ?_⟩) (fun _=>⟨_,rfl,Br.nf (aw h (Heap.le_refl _))⟩)
 refine lsmall_spec s2 (fun sm2=>⟨_,rfl,Br.nt ?_⟩) (fun _=>⟨_,rfl,Br.nf (aw h (Heap.le_refl _))⟩)
 refine Br.dec (fun _=>aw h (Heap.le_refl _)) (fun hsz=>?_)
 rw [bs_size] at hsz
 have hls:s.length<=40:=by omega
 have hsq:Sz 160 (rv s):=rv_sz (k:=40) hls (by omega)
 have hn:n<=1000000:=by have:=sm.hn;omega
 have hn2:n2<=1000000:=by have:=sm2.hn;omega
 have hl:∀ i,i<n->(la i).length<=100000000:=fun i hi=>by have:=sm.hl i hi;omega
 have hl2:∀ i,i<n2->(lb i).length<=100000000:=fun i hi=>by have:=sm2.hl i hi;omega
 have hs:∀ i,i<n->Sz 160 (rv (la i)):=fun i hi=>rv_sz (k:=40) (by have:=sm.hl i hi;omega) (by omega)
 have hs2:∀ i,i<n2->Sz 160 (rv (lb i)):=fun i hi=>rv_sz (k:=40) (by have:=sm2.hl i hi;omega) (by omega)
 have q1:Sz 160 (1:Rat):=⟨by unfold ZB;decide +kernel,by unfold ZB;decide +kernel⟩
 have q2:Sz 160 (-1:Rat):=⟨by unfold ZB;decide +kernel,by unfold ZB;decide +kernel⟩
 refine mtransO_spec gl s1 hn hl ?_
 intro o1 ho1 A1 c1 h1 l1 r1
 refine ⟨_,_,_,_,_,_,rfl,?_⟩
 refine ftransO_spec (m:=160) (s1.mono monSS l1) hn hl hs (by omega) ?_
 intro p1 hp1 A2 c2' h2 l2 r2'
 obtain rfl:=ho1.eq hp1
 refine ⟨_,_,_,_,_,_,rfl,?_⟩
 have l02:=Heap.le_trans l1 l2
 refine madd_spec (m:=160) (gl.mono l02) (s1.mono monSS l02) (s2.mono monSS l02) hn hn2 hl hl2 hs hs2 (by omega) ?_
 intro o2 ho2 A3 c3 h3 l3 r3
 refine ⟨_,_,_,_,_,_,rfl,?_⟩
 have l03:=Heap.le_trans l02 l3
 refine r_spec ⟨by omega,by omega⟩ ?_
 intro w4 h4 l4 i4
 rw [show ((1:Int):Rat)=1 from rfl] at i4
 have l04:=Heap.le_trans l03 l4
 refine ⟨_,_,_,_,_,_,_,_,rfl,l4,?_⟩
 refine fcombine_spec (m:=160) (w:=w4) (s1.mono monSS l04) (s2.mono monSS l04) hn hn2 hl hl2 hs hs2 i4 q1 (by omega) ?_
 intro p2 hp2 A5 c5 h5 l5 r5
 obtain rfl:=ho2.eq hp2
 have l05:=Heap.le_trans l04 l5
 refine ⟨_,_,_,_,_,_,rfl,l5,?_⟩
 refine kmatrices_spec (r1.mono monSS (Heap.le_trans l2 (Heap.le_trans l3 (Heap.le_trans l4 l5)))) (r2'.mono monSS (Heap.le_trans l3 (Heap.le_trans l4 l5))) (by have:=ho1.n_le;omega) (fun _ _ _ _=>⟨_,rfl,Br.nt ?_⟩) (fun hno=>absurd ⟨rfl,rfl,rfl,fun _ _=>rfl⟩ hno)
 refine Br.bne (fun e=>absurd rfl e) (fun _=>?_)
 refine kmatrices_spec (r3.mono monSS (Heap.le_trans l4 l5)) r5 (by have:=ho2.n_le;omega) (fun _ _ _ _=>⟨_,rfl,Br.nt ?_⟩) (fun hno=>absurd ⟨rfl,rfl,rfl,fun _ _=>rfl⟩ hno)
 refine Br.bne (fun e=>absurd rfl e) (fun _=>?_)
 refine msub_spec (m:=160) (gl.mono l05) (s1.mono monSS l05) (s2.mono monSS l05) hn hn2 hl hl2 hs hs2 (by omega) ?_
 intro o3 ho3 A6 c6 h6 l6 r6
 refine ⟨_,_,_,_,_,_,rfl,?_⟩
 have l06:=Heap.le_trans l05 l6
 refine r_spec ⟨by omega,by omega⟩ ?_
 intro w7 h7 l7 i7
 rw [show ((-1:Int):Rat)= -1 from rfl] at i7
 have l07:=Heap.le_trans l06 l7
 refine ⟨_,_,_,_,_,_,_,_,rfl,l7,?_⟩
 refine fcombine_spec (m:=160) (w:=w7) (s1.mono monSS l07) (s2.mono monSS l07) hn hn2 hl hl2 hs hs2 i7 q2 (by omega) ?_
 intro p3 hp3 A8 c8 h8 l8 r8
 obtain rfl:=ho3.eq hp3
 have l08:=Heap.le_trans l07 l8
 refine ⟨_,_,_,_,_,_,rfl,l8,?_⟩
 refine mscale_spec (m:=160) (gl.mono l08) (s1.mono monSS l08) hn hl (by omega) hs hsq (by omega) ?_
 intro o4 ho4 A9 c9 h9 l9 r9
 refine ⟨_,_,_,_,_,_,rfl,?_⟩
 have l09:=Heap.le_trans l08 l9
 refine fscale_spec (m:=160) (s1.mono monSS l09) hn hl (by omega) hs hsq (by omega) ?_
 intro p4 hp4 A10 c10 h10 l10 r10
 obtain rfl:=ho4.eq hp4
 have l010:=Heap.le_trans l09 l10
 refine ⟨_,_,_,_,_,_,rfl,?_⟩
 refine kmatrices_spec (r6.mono monSS (Heap.le_trans l7 (Heap.le_trans l8 (Heap.le_trans l9 l10)))) (r8.mono monSS (Heap.le_trans l9 l10)) (by have:=ho3.n_le;omega) (fun _ _ _ _=>⟨_,rfl,Br.t1 ?_⟩) (fun hno=>absurd ⟨rfl,rfl,rfl,fun _ _=>rfl⟩ hno)
 refine Br.beq (fun _=>?_) (fun e=>absurd rfl e)
 refine kmatrices_spec (r9.mono monSS l10) r10 (by have:=ho4.n_le;omega) (fun _ _ _ _=>⟨_,rfl,Br.t1 ?_⟩) (fun hno=>absurd ⟨rfl,rfl,rfl,fun _ _=>rfl⟩ hno)
 refine Br.beq (fun _=>?_) (fun e=>absurd rfl e)
 exact aw h10 l010
end
end Go.Proofs.YthilnfgnpdeofaaGreatDoor
/-
 A matrix (two numbers and a list of strings) and a list of strings that came in.
-/
namespace Go.Proofs.YthilnfgnpdeofaaGreatDoor
open Go Go.RowKit
set_option maxRecDepth 20000
theorem bs_dat(s:ByteArray):bs s.data.toList=s:=by
 cases s;simp [bs]
theorem open_strV{H:Type}{enc:TypeId × Value->H}{P:Program}{W:World}{base:Nat}{sp:Nat->Bool}{held:Bool}{t e:TypeId}{fuel:Nat}{A:Option Addr}{len cap:Nat}{x:DataW H × List MemPlace}(ht:P.underlying t=some (.slice e))(he:P.underlying e=some .string)(hc:P.cellsOf e=1)
 (hf:DataW.trod enc P W base sp held fuel t [.slice A len cap]=some x):∃ ls:Nat->List UInt8,RowV SSr (memOf W) A len ls/\len<=maxLen:=by
 rcases Deep.open_strs ht he hc hf with ⟨hcs,_⟩|⟨a,l,c,m,Sx,hcs,_,hl,hm,hmm,_,hcell⟩
 ·simp at hcs
  obtain ⟨rfl,rfl,rfl⟩:=hcs
  exact ⟨fun _=>[],RowV.nil,Nat.zero_le _⟩
 ·simp at hcs
  obtain ⟨rfl,rfl,rfl⟩:=hcs
  have hlm:len<=m:=by rw [hmm];split<;>omega
  have sl:SlV (memOf W) (some a) (((List.range len).map fun i=>(Sx i).data.toList).map fun l=>Value.string (bs l)):=by
   refine .inr ⟨a,rfl,fun i v hv=>?_⟩
   rw [List.getElem?_map,List.getElem?_map] at hv
   by_cases hi:i<len
   ·rw [List.getElem?_range hi] at hv
    simp only [Option.map_some,Option.some.injEq,bs_dat] at hv
    rw [<- hv]
    exact memOf_cell (hcell i (by omega)).1
   ·rw [List.getElem?_eq_none (by simpa using hi)] at hv;cases hv
  have:=row_of_sl sl
  rw [List.length_map,List.length_range] at this
  exact ⟨_,this,by omega⟩
theorem open_mat{H:Type}{enc:TypeId × Value->H}{P:Program}{W:World}{base:Nat}{sp:Nat->Bool}{held:Bool}{r:Reach}{b0:Nat}{t e:TypeId}{f0 f1 f2:Field}{v:Value}{d:DataW H}{ps:List MemPlace}(ht:P.underlying t=some (.struct #[f0,f1,f2]))(u0:P.underlying f0.type=some (.int .i64))(u1:P.underlying f1.type=some (.int .i64))(u2:P.underlying f2.type=some (.slice e))(ue:P.underlying e=some .string)
 (hoff:f0.offset=0/\f1.offset=1/\f2.offset=2/\P.cellsOf f0.type=1/\P.cellsOf f1.type=1/\P.cellsOf f2.type=1/\P.cellsOf t=3/\P.cellsOf e=1)
 (hval:Value.okWide P W r b0 t v) (hd:DataW.Trod enc P W base sp held t v d ps):∃ (x y:Int) (A:Option Addr) (len cap:Nat) (ls:Nat->List UInt8),v= .agg #[.int .i64 x,.int .i64 y,.slice A len cap]/\RowV SSr (memOf W) A len ls/\len<=maxLen:=by
 obtain ⟨o0,o1,o2,c0,c1,c2,ct,ce⟩:=hoff
 obtain ⟨cs,rfl,hcs⟩:=WideShapes.okWide_struct ht hval
 obtain ⟨fuel,hf⟩:=hd
 obtain ⟨y0,y1,y2,n,hx,hl,g0,g1,g2⟩:=Deep.trod_struct3 ht hf
 rw [o0,c0] at g0
 rw [o1,c1] at g1
 rw [o2,c2] at g2
 obtain ⟨s0,e0,_,_⟩:=DataW.trod_int u0 g0
 obtain ⟨s1,e1,_,_⟩:=DataW.trod_int u1 g1
 rw [ct] at hcs
 have hlen:cs.toList.length=3:=by simpa using hcs
 obtain ⟨p,q,z,hm⟩:∃ p q z,cs.toList=[p,q,z]:=by
  match h:cs.toList,hlen with
  | [p,q,z],_=>exact ⟨p,q,z,rfl⟩
 simp only [Value.cells] at e0 e1 g2
 rw [hm] at e0 e1 g2
 simp at e0 e1 g2
 have hA:∃ A len cap,z= .slice A len cap:=by
  rcases Deep.open_strs u2 ue ce g2 with ⟨hcs,_⟩|⟨a,l,c,m,Sx,hcs,_⟩
  ·simp at hcs;exact ⟨_,_,_,hcs⟩
  ·simp at hcs;exact ⟨_,_,_,hcs⟩
 obtain ⟨A,len,cap,rfl⟩:=hA
 obtain ⟨ls,hr,hml⟩:=open_strV u2 ue ce g2
 have:cs=#[.int .i64 s0,.int .i64 s1,.slice A len cap]:=by rw [<- Array.toArray_toList (xs:=cs),hm,e0,e1]
 exact ⟨s0,s1,A,len,cap,ls,by rw [this],hr,hml⟩
end Go.Proofs.YthilnfgnpdeofaaGreatDoor
