/-
  Texts of this proof, merged by a program of ours.
-/
import Derived.Test.YtajkakhfcokljaaGreatDoorG30
import Derived.Test.YtajkakhfcokljaaGreatDoorG22
import Derived.Test.YtajkakhfcokljaaGreatDoorG23
import Derived.Test.YtajkakhfcokljaaGreatDoorG21
import Derived.Deep.Strs
import Derived.Test.YtajkakhfcokljaaGreatDoorRows
open Go.Proofs.Tryz
set_option linter.all false
open Bool renaming false_eq_true->B9l
open _root_.Go.Builtin renaming zeroCells->B9f,append_->B9v
open _root_.ByteArray renaming toList->B95
open Int renaming toNat_natCast->B94,natCast_mul->B9i
open List renaming replicate->B8t,getD_eq_getElem?_getD->B8v,length_replicate->B8w,getElem?_eq_getElem->B8x,getElem?_map->B8y,getElem?_eq_none->B8z,getElem?_toArray->B92,range->B93,length_append->B96,getElem?_replicate->B97,getElem?_append_left->B9d,getElem?_range->B9k,length_range->B9m,length_map->B9u,getElem?_append_right->B9x
open List.cons renaming injEq->B9c
open Nat renaming mul_le_mul_right->B90,mul_le_mul->B91,zero_mul->B99,zero_add->B9a,zero_le->B9g,mul_comm->B9h,div_lt_of_lt_mul->B9j,le_trans->B9n,mod_eq_of_lt->B9o,div_eq_of_lt->B9p,one_mul->B9r,mul_one->B9s,add_mul->B9t,add_mul_mod_self_right->B9w
open Option renaming map_some->B9q
open Option.some renaming injEq->B98
open _root_.Go.Value renaming string->B8u
open _root_.Go.Value.int renaming injEq->B9b
open _root_.Go.Value.slice renaming injEq->B9e
namespace Go.Proofs.YtajkakhfcokljaaGreatDoor
set_option maxRecDepth 20000
open Go
section
variable {α:Type} [E:Enc α]
theorem OwnSl.app{P:Program}{t e ty:TypeId}{z:Value}{bytes:Nat}(st:SliceT P t e z E.default.size bytes){h g o:Heap}{A:Option Addr}{c:Nat}{xs:List α}(s:Sep h g o)(w:OwnSl o e A c xs){B:Option Addr}{d m n:Nat}{ys:List α}(hxn:n=xs.length)(hm:m=ys.length)(hne:ys≠[])(sy:SlF h B ys)(hb:(2*(xs.length+ys.length)+192)*bytes<=281474976710656)(hn:xs.length+ys.length<=9223372036854775807){K:VP}
 (x:∀ A' c' h' g' o',g.le g'->Sep h' g' o'->OwnSl o' e A' c' (xs++ys)->(∀ k u,o k=some u->A≠some ⟨k,0,none⟩->o' k=some u/\A'≠some ⟨k,0,none⟩)->K (.slice A' (xs.length+m) c') h'):
 wpH P (B9v #[t,t] ty #[.slice A n c,.slice B m d]) K h:=by
 subst hxn
 obtain ⟨gb,p,hkeep⟩:=w.priv s
 refine Ky st p hm sy hb hn ?_
 intro A' c' h' g' hg hp
 rw [B96,<- hm]
 have hgk:∀ k u,h k=some u->A≠some ⟨k,0,none⟩->g' k=some u:=by
  intro k u e1 hne
  exact hg k u (hkeep k u e1 hne)
 have hnA:∀ k u,g k=some u->A≠some ⟨k,0,none⟩:=by
  intro k u e1 hA
  rcases w.2 with ⟨_,h0⟩|⟨b',arr,hA',hb',_⟩
  ·rw [hA] at h0;cases h0
  ·rw [hA] at hA'
   simp only [B98,Addr.mk.injEq,and_true] at hA'
   subst hA'
   rw [s.dis k _ hb'] at e1;cases e1
 rcases hp.2.2 with ⟨hc0,_⟩|⟨b',arr,hA',hb',hh',ha,ht⟩
 ·exfalso
  have:=hp.2.1
  rw [B96] at this
  have:ys.length≠0:=fun h=>hne (List.eq_nil_of_length_eq_zero h)
  omega
 ·subst hA'
  let o':Heap:=fun k=>if k=b' then some (.cells (List.toArray arr) e) else if A=some ⟨k,0,none⟩ then none else o k
  have ob:o' b'=some (.cells (List.toArray arr) e):=by show (if b'=b' then _ else _)=_;rw [if_pos rfl]
  have ok:∀ k,k≠b'->A≠some ⟨k,0,none⟩->o' k=o k:=fun k h1 h2=>by show (if k=b' then _ else if _ then _ else _)=_;rw [if_neg h1,if_neg h2]
  have ono:∀ k,k≠b'->A=some ⟨k,0,none⟩->o' k=none:=fun k h1 h2=>by show (if k=b' then _ else if _ then _ else _)=_;rw [if_neg h1,if_pos h2]
  let g2:Heap:=fun k=>match o' k with|some _=>none|none=>h' k
  have gs:∀ k u,o' k=some u->g2 k=none:=fun k u e1=>by show (match o' k with|some _=>none|none=>h' k)=_;rw [e1]
  have gn:∀ k,o' k=none->g2 k=h' k:=fun k e1=>by show (match o' k with|some _=>none|none=>h' k)=_;rw [e1]
  have hput:∀ k u,k≠b'->g' k=some u->h' k=some u:=fun k u h1 e1=>by rw [hh',B6 _ _ h1];exact e1
  have hown:∀ k u,o k=some u->A≠some ⟨k,0,none⟩->k≠b':=by
   rintro k u e1 h2 rfl
   have:=hgk k u (s.own k u e1) h2
   rw [hb'] at this;cases this
  refine x _ c' h' g2 o' (fun k u e1=>?_) ⟨fun k u e1=>?_,fun k e1=>(gn k e1).symm,gs⟩ ⟨hp.2.1,.inr ⟨b',arr,rfl,ob,ha,ht⟩⟩ (fun k u e1 h2=>?_)
  ·have hk0:o k=none:=by
    cases ho:o k with
    | none=>rfl
    | some y=>rw [s.dis k y ho] at e1;cases e1
   have hA:=hnA k u e1
   have e3:=hgk k u (s.le k u e1) hA
   have hkb':k≠b':=by rintro rfl;rw [hb'] at e3;cases e3
   rw [gn k (by rw [ok k hkb' hA];exact hk0)]
   exact hput k u hkb' e3
  ·by_cases hkb:k=b'
   ·subst hkb
    rw [ob] at e1;cases e1
    rw [hh',B9]
   ·by_cases hA:A=some ⟨k,0,none⟩
    ·rw [ono k hkb hA] at e1;cases e1
    ·rw [ok k hkb hA] at e1
     exact hput k u hkb (hgk k u (s.own k u e1) hA)
  ·have hkb:=hown k u e1 h2
   refine ⟨by rw [ok k hkb h2];exact e1,fun h3=>hkb ?_⟩
   simp only [B98,Addr.mk.injEq,and_true] at h3
   exact h3.symm
end
def A06(M:Nat->Nat->Rat)(w:Nat):Nat->List UInt8:=fun k=>O2 (M (k/w) (k%w))
section
variable {h:Heap} {K:VP} {A:Option Addr} {n cap m w:Nat} {M:Nat->Nat->Rat}
theorem A3g(rs:RowsV h A n w M)(hn:n<=10000)(hw1:1<=w)(hw:w<=10000)(hn1:1<=n)(hs:∀ i j,i<n->j<w->Sz m (M i j))(hm:m<=400000000)
 (hK:∀ A' c' h',h.le h'->n*w<=c'->RowV SSr h' A' (n*w) (A06 M w)->K (Kl n w A' (n*w) c') h'):FCall prog A0h #[.slice A n cap] h K:=by
 refine B17 _ _ _ ?_
 unfold B6f
 refine D8 (fun e=>by omega) (fun _=>?_)
 obtain ⟨a,sv,rfl,e1,e2,hc,_⟩:=rs.at (i:=0) (by omega)
 have hnw:n*w<=10000*10000:=B91 hn hw
 refine ⟨a,rfl,by omega,by omega,_,_,_,hc,fun L hp=>∃ (k:Nat) (g o:Heap) (xs:List (List UInt8)) (A':Option Addr) (c':Nat),k<=n/\L=[I (k:Int),I (n:Int),I (w:Int),.slice A' (k*w) c']/\h.le g/\Sep hp g o/\OwnSl o E5 A' c' xs/\xs.length=k*w/\Row SSr g xs (k*w) (A06 M w),fun L _=>n-(iAt L 0).toNat,⟨0,h,Ln,[],none,0,by omega,by rw [e1,B99];rfl,B0 _,Sep.refl h,OwnSl.nil,by simp,by rw [B99];exact Row.nil⟩,?_⟩
 rintro z m0 m1 mA mn mc hp ⟨k,g,o,xs,A',c',hk,eL,lg,s,ow,hxl,rr⟩
 simp only [B9c,B9b,B9e,true_and,and_true] at eL
 obtain ⟨rfl,rfl,rfl,rfl,rfl,rfl⟩:=eL
 refine B4 (fun hlt=>?_) (fun hge=>?_)
 ·have hkn:k<n:=by omega
  obtain ⟨a1,s1,ea,f1,f2,hc1,row⟩:=rs.at hkn
  have lhp:=Heap.le_trans lg s.le
  have hk1:(k+1)*w=k*w+w:=by rw [B9t,B9r]
  have hkw:(k+1)*w<=n*w:=B90 _ hkn
  refine ⟨a1,ea,by omega,by omega,_,_,_,C5 lhp hc1,?_⟩
  rw [f1]
  refine s.call (A2t (row.mono Wo lg) (by omega) (fun j hj=>hs k j hkn hj) (by omega) ?_)
  intro b2 g2 own h2 s2
  have lg2:=own.le
  obtain ⟨ys,sy,hyl,qy⟩:=own.vis V6
  refine ⟨_,_,_,rfl,s.le_le s2 lg2,?_⟩
  refine OwnSl.app (ty:=Cq) O3 s2 ow (by omega) hyl.symm (by rintro rfl;simp at hyl;omega) (sy.mono s2.le) (by omega) (by omega) ?_
  intro A3 c3 h3 g3 o3 l3 s3 ow3 _
  rw [hxl,<- hk1,wiS k (by omega)]
  refine ⟨_,_,_,rfl,⟨k+1,g3,o3,_,A3,c3,by omega,rfl,Heap.le_trans lg (Heap.le_trans lg2 l3),s3,ow3,by rw [B96,hxl,hyl,hk1],fun i hi=>?_⟩,by simp only [Hf];omega⟩
  by_cases e:i<k*w
  ·obtain ⟨u,e1,hu⟩:=rr i e
   exact ⟨u,by rw [B9d (by omega)];exact e1,hu⟩
  ·obtain ⟨j0,rfl⟩:∃ j0,i=k*w+j0:=⟨i-k*w,by omega⟩
   have hj0:j0<w:=by omega
   obtain ⟨u,e1,hu⟩:=qy j0 hj0
   refine ⟨u,by rw [B9x (by omega),hxl,Nat.add_sub_cancel_left];exact e1,?_⟩
   have hu':u=O2 (M k j0):=hu
   have hd:(k*w+j0)/w=k:=by rw [B9h,Nat.mul_add_div (by omega),B9p hj0,Nat.add_zero]
   have hm':(k*w+j0)%w=j0:=by rw [B9h,Nat.mul_add_mod,B9o hj0]
   show u=A06 M w (k*w+j0)
   unfold A06
   rw [hd,hm'];exact hu'
 ·have:k=n:=by omega
  subst this
  have hcap:=ow.1
  exact hK mA mc hp (Heap.le_trans lg s.le) (by omega) ⟨xs,ow.slF s.ole,hxl,rr.mono V6 s.le⟩
end
abbrev ecE(M:Nat->Nat->Rat)(n c:Nat):ES:=B6m n ⟨M,[],1⟩ c
abbrev qc(w:QV):List Value:=[.bool w.s,.slice w.A w.n w.c,.bool w.s2,.slice w.A2 w.n2 w.c2]
section
variable {g o h11 h14 h15 hp2:Heap} {bo n w r c i B:Nat} {rb:Nat->Nat} {R:Nat->Nat->Rat} {x:QV} {q:Rat} {Invv Invv3:LP} {muv muv3:LN}
end
section
variable {g o h5 h9 hp2:Heap} {bo n w r c B k:Nat} {rb:Nat->Nat} {R:Nat->Nat->Rat} {q:Rat} {Invv:LP} {muv:LN} {pA:Option Addr} {pc:Nat} {wd wd0:QV} {l:List Nat}
end
section
variable {h:Heap} {K:VP} {A:Option Addr} {n cap m w:Nat} {M:Nat->Nat->Rat}
end
section
variable {h:Heap} {K:VP} {A B:Option Addr} {n m a b:Nat} {r c r2 c2:Int} {ls ls2:Nat->List UInt8}
theorem A02{k:Int}(r:RowV SSr h A n ls)(hn:n<=1000000000)(hK1:(∀ i,i<n->((ls i).length:Int)<=k)->K (.bool true) h)(hK0:¬ (∀ i,i<n->((ls i).length:Int)<=k)->K (.bool false) h):FCall prog Uk #[I k,.slice A n a] h K:=by
 refine A8m _ _ _ _ ?_
 unfold B2l
 refine ⟨fun L hp=>∃ i:Nat,i<=n/\L=[I (i:Int)]/\hp=h/\∀ j,j<i->((ls j).length:Int)<=k,fun L _=>n-(iAt L 0).toNat,⟨0,by omega,rfl,rfl,fun j hj=>by omega⟩,?_⟩
 rintro z hp ⟨i,hi,eL,rfl,hh⟩
 obtain rfl:=sI1 eL
 refine B4 (fun hlt=>?_) (fun hge=>?_)
 ·have hin:i<n:=by omega
  obtain ⟨x,rfl,hc⟩:=r.sat hin
  refine ⟨x,rfl,by omega,by omega,_,hc,?_⟩
  rw [I0]
  refine B4 (fun e=>hK0 fun hx=>by have:=hx i hin;omega) (fun e=>?_)
  rw [wiS i (by omega)]
  refine ⟨⟨i+1,by omega,rfl,rfl,fun j hj=>?_⟩,by simp only [Hf];omega⟩
  by_cases e2:j=i
  ·subst e2;omega
  ·exact hh j (by omega)
 ·have:i=n:=by omega
  subst this
  exact hK1 hh
theorem Iq(x:RowV SSr h A n ls)(y:RowV SSr h B m ls2)(hn:n<=1000000000)(hK1:n=m->(∀ i,i<n->ls i=ls2 i)->K (.bool true) h)(hK0:¬ (n=m/\∀ i,i<n->ls i=ls2 i)->K (.bool false) h):FCall prog Gg #[.slice A n a,.slice B m b] h K:=by
 refine A16 _ _ _ _ _ _ ?_
 unfold A2n
 refine O1 (fun e=>hK0 fun hx=>e (by omega)) (fun e=>?_)
 have e:n=m:=by omega
 subst e
 refine ⟨fun L hp=>∃ i:Nat,i<=n/\L=[I (i:Int)]/\hp=h/\∀ j,j<i->ls j=ls2 j,fun L _=>n-(iAt L 0).toNat,⟨0,by omega,rfl,rfl,fun j hj=>by omega⟩,?_⟩
 rintro z hp ⟨i,hi,eL,rfl,hh⟩
 obtain rfl:=sI1 eL
 refine B4 (fun hlt=>?_) (fun hge=>?_)
 ·have hin:i<n:=by omega
  obtain ⟨u,rfl,hc⟩:=x.sat hin
  obtain ⟨v,rfl,hd⟩:=y.sat hin
  refine ⟨u,rfl,by omega,by omega,_,hc,v,rfl,by omega,by omega,_,hd,?_⟩
  rw [Lw]
  refine Ax (B4 (fun e=>?_) (fun e=>hK0 fun hx=>e (hx.2 i hin)))
  rw [wiS i (by omega)]
  refine ⟨⟨i+1,by omega,rfl,rfl,fun j hj=>?_⟩,by simp only [Hf];omega⟩
  by_cases e2:j=i
  ·subst e2;exact e
  ·exact hh j (by omega)
 ·have:i=n:=by omega
  subst this
  exact hK1 rfl hh
theorem A7z{xs:List Int}(s:SlF h A xs){i:Nat}(hi:i<xs.length):∃ x,A=some x/\h.cell? (Addr.add x (i*1))=some (I xs[i]):=by
 obtain ⟨x,e,hc⟩:=SlF.at (by decide) s hi
 have:=hc 0 _ rfl
 rw [Fh] at this
 exact ⟨x,e,this⟩
theorem A3b{xs ys:List Int}(x:SlF h A xs)(y:SlF h B ys)(hn:n=xs.length)(hm:m=ys.length)(hb:n<=1000000000)(hK1:xs=ys->K (.bool true) h)(hK0:xs≠ys->K (.bool false) h):FCall prog A0e #[.slice A n a,.slice B m b] h K:=by
 refine B13 _ _ _ _ _ _ ?_
 unfold B6c
 refine O1 (fun e=>hK0 fun hx=>e (by rw [hn,hm,hx])) (fun e=>?_)
 have e:n=m:=by omega
 subst e
 refine ⟨fun L hp=>∃ i:Nat,i<=n/\L=[I (i:Int)]/\hp=h/\∀ j,j<i->xs[j]? = ys[j]?,fun L _=>n-(iAt L 0).toNat,⟨0,by omega,rfl,rfl,fun j hj=>by omega⟩,?_⟩
 rintro z hp ⟨i,hi,eL,rfl,hh⟩
 obtain rfl:=sI1 eL
 refine B4 (fun hlt=>?_) (fun hge=>?_)
 ·have h1:i<xs.length:=by omega
  have h2:i<ys.length:=by omega
  obtain ⟨u,rfl,hc⟩:=A7z x h1
  obtain ⟨v,rfl,hd⟩:=A7z y h2
  refine ⟨u,rfl,by omega,by omega,_,hc,v,rfl,by omega,by omega,_,hd,?_⟩
  refine O1 (fun e=>hK0 fun hx=>e (by simp only [hx])) (fun e=>?_)
  rw [wiS i (by omega)]
  refine ⟨⟨i+1,by omega,rfl,rfl,fun j hj=>?_⟩,by simp only [Hf];omega⟩
  by_cases e2:j=i
  ·subst e2;rw [B8x h1,B8x h2,e]
  ·exact hh j (by omega)
 ·have:i=n:=by omega
  subst this
  refine hK1 (List.ext_getElem? fun j=>?_)
  by_cases hj:j<i
  ·exact hh j hj
  ·rw [B8z (by omega),B8z (by omega)]
theorem Gr(x:RowV SSr h A n ls)(y:RowV SSr h B m ls2)(hn:n<=1000000000)(hK1:r=r2->c=c2->n=m->(∀ i,i<n->ls i=ls2 i)->K (.bool true) h)(hK0:¬ (r=r2/\c=c2/\n=m/\∀ i,i<n->ls i=ls2 i)->K (.bool false) h):FCall prog Dj #[Kl r c A n a,Kl r2 c2 B m b] h K:=by
 refine Yj _ _ _ _ _ _ _ _ _ _ ?_
 unfold Yk
 refine D8 (fun e1=>D8 (fun e2=>?_) (fun e=>hK0 fun hx=>e hx.2.1)) (fun e=>hK0 fun hx=>e hx.1)
 exact Iq x y hn (fun h1 h2=>⟨_,rfl,hK1 e1 e2 h1 h2⟩) (fun hx=>⟨_,rfl,hK0 fun hy=>hx hy.2.2⟩)
structure Small (r c:Int) (n:Nat) (ls:Nat->List UInt8) (k d:Int):Prop where
 hr:r<=k
 hc:c<=k
 hn:(n:Int)<=k*k+2
 hl:∀ i,i<n->((ls i).length:Int)<=d
end
theorem A21(ls:List (List UInt8)):(ls.flatMap fun l=>[B8u (bs l)])=ls.map fun l=>B8u (bs l):=by
 induction ls with
 | nil=>rfl
 | cons x l ih=>rw [List.flatMap_cons,ih];rfl
theorem Bv{h:Heap}{A:Option Addr}{ls:List (List UInt8)}(s:SlV h A (ls.map fun l=>B8u (bs l))):RowV SSr h A ls.length (fun i=>ls.getD i []):=by
 refine ⟨ls,?_,rfl,fun i hi=>⟨ls[i],B8x hi,?_⟩⟩
 ·show SlV h A (ls.flatMap fun l=>[B8u (bs l)])
  rw [A21];exact s
 ·show ls[i]=ls.getD i []
  simp [hi]
theorem Tk(l:List Rat):rvs (fun i=>(l.map O2).getD i [])=fun i=>l.getD i 0:=by
 funext i
 show rv ((l.map O2).getD i [])=_
 by_cases hi:i<l.length
 ·rw [B8v,B8v,B8y,B8x hi]
  exact A1l _
 ·rw [B8v,B8v,B8y,B8z (by omega)]
  exact B1e (by rintro ⟨q,hq⟩;exact absurd hq.symm (by
   have:=A4t q
   obtain ⟨c,r,e,_⟩:=this
   rw [e];simp))
theorem B4i:O2 1=[49]:=by
 have:L3 1=[49]:=by decide +kernel
 simp [O2,Kc,this]
theorem B4v:O2 2=[50]:=by
 have:L3 2=[50]:=by decide +kernel
 have h1:(2:Rat).den=1:=by decide +kernel
 have h2:(2:Rat).num=2:=by decide +kernel
 simp [O2,Kc,this,h1,h2]
theorem B7q:O2 3=[51]:=by
 have:L3 3=[51]:=by decide +kernel
 have h1:(3:Rat).den=1:=by decide +kernel
 have h2:(3:Rat).num=3:=by decide +kernel
 simp [O2,Kc,this,h1,h2]
theorem B6l:O2 4=[52]:=by
 have:L3 4=[52]:=by decide +kernel
 have h1:(4:Rat).den=1:=by decide +kernel
 have h2:(4:Rat).num=4:=by decide +kernel
 simp [O2,Kc,this,h1,h2]
theorem B6x:O2 (-2)=[45,50]:=by
 have:L3 2=[50]:=by decide +kernel
 have h1:(-2:Rat).den=1:=by decide +kernel
 have h2:(-2:Rat).num= -2:=by decide +kernel
 simp [O2,Kc,this,h1,h2]
theorem aw1:(elE (fun i=>([2,4,1,2]:List Rat).getD i 0) 2 2 2).cs=[0]:=by decide +kernel
theorem aw2:∀ k,k<4->B37 (fun i=>([2,4,1,2]:List Rat).getD i 0) 2 2 k=([1,2,0,0]:List Rat).getD k 0:=by decide +kernel
theorem aw3:B4p (fun i=>([1,2,3,4]:List Rat).getD i 0) 2= -2:=by decide +kernel
theorem Sd{h:Heap}{K:VP}(gl:Gl h)(hK:∀ h',h.le h'->K (.bool true) h'):FCall prog U2 #[] h K:=by
 refine A8l ?_
 unfold B2k
 have sz:∀ (ls:List (List UInt8)),(∀ x∈ls,x.length<=1)->∀ i,i<ls.length->(ls.getD i []).length<=1:=by
  intro ls h i hi
  rw [B8v,B8x hi]
  exact h _ (List.getElem_mem hi)
 refine A01 O3 (ls:=[2,4,1,2].map O2) rfl (by simp) (by rw [show ([2,4,1,2]:List Rat).map O2=[[50],[52],[49],[50]] by simp [B4i,B4v,B6l]];rfl) ?_
 intro b1 h1 l1 s1
 have r1:=Bv s1
 have z1:=sz (([2,4,1,2]:List Rat).map O2) (by simp [B4i,B4v,B6l])
 refine ⟨_,_,_,rfl,?_⟩
 have hb:∀ rows cols,MOk 2 2 4 (fun i=>(([2,4,1,2]:List Rat).map O2).getD i []) rows cols->2*(3^cols*bnd cols 4)+1<=40000000:=by
  intro rows cols mk
  have:=mk.ec
  have:cols=2:=by omega
  subst this
  decide
 refine Wn (m:=4) (gl.mono l1) r1 (by simp) (fun i hi=>B9n (z1 i hi) (by omega)) (fun i hi=>B53 (k:=1) (z1 i hi) (by omega)) hb ?_ ?_
 ·intro rows cols mk b2 h2 A' cap' own
  have e1:=mk.er;have e2:=mk.ec
  have:rows=2:=by omega
  subst this
  have:cols=2:=by omega
  subst this
  have lo:=own.le
  have so:=own.strs
  have io:=own.ints
  rw [Tk] at so io
  rw [aw1] at io
  refine ⟨_,_,_,_,_,_,_,_,_,rfl,?_⟩
  rw [Tk,aw1]
  refine A01 O3 (ls:=[1,2,3,4].map O2) rfl (by simp) (by rw [show ([1,2,3,4]:List Rat).map O2=[[49],[50],[51],[52]] by simp [B4i,B4v,B7q,B6l]];rfl) ?_
  intro b3 h3 l3 s3
  have r3:=Bv s3
  have z3:=sz (([1,2,3,4]:List Rat).map O2) (by simp [B4i,B4v,B7q,B6l])
  refine ⟨_,_,_,rfl,?_⟩
  have l13:=Heap.le_trans l1 (Heap.le_trans lo l3)
  have num3:Mx 2 2 4 (fun i=>(([1,2,3,4]:List Rat).map O2).getD i []):=by
   refine Jz.2 ⟨⟨by omega,by omega,by omega,by omega,by omega⟩,fun i hi=>?_⟩
   have hi':i<([1,2,3,4]:List Rat).length:=hi
   exact ⟨([1,2,3,4]:List Rat)[i],by rw [B8v,B8y,B8x hi'];rfl⟩
  refine A5x (m:=4) (gl.mono l13) r3 (by simp) (fun i hi=>B9n (z3 i hi) (by omega)) (fun i hi=>B53 (k:=1) (z3 i hi) (by omega)) ?_ ?_ (fun _ e=>absurd rfl e) (fun hno=>absurd num3 hno)
  ·intro rows cols mk
   have:=mk.ec
   have:cols=2:=by omega
   subst this
   decide
  ·intro q mk h4 l4
   have:q=2:=by have:=mk.er;omega
   subst this
   rw [Tk,aw3]
   refine ⟨_,_,rfl,D8 (fun _=>?_) (fun e=>absurd rfl e)⟩
   refine A01 O3 (ls:=[1,2,0,0].map O2) rfl (by simp) (by rw [show ([1,2,0,0]:List Rat).map O2=[[49],[50],[48],[48]] by simp [B4i,B4v,Nv]];rfl) ?_
   intro b5 h5 l5 s5
   have r5:=Bv s5
   refine ⟨_,_,_,rfl,?_⟩
   have l25:=Heap.le_trans l3 (Heap.le_trans l4 l5)
   refine Iq (so.mono V6 l25) r5 (by simp) (fun _ _=>⟨_,rfl,?_⟩) (fun hno=>absurd ⟨rfl,fun i hi=>?_⟩ hno)
   ·refine Q9 B4y rfl ?_
    intro b6 h6
    refine ⟨_,_,_,rfl,?_⟩
    have l6:=Heap.le_put (.cells #[I (0:Int)] J6) h6
    refine A3b (io.1.mono (Heap.le_trans l25 l6)) (A0r J6 h5 b6 ([0]:List Int)) rfl rfl (by simp) (fun _=>⟨_,rfl,?_⟩) (fun hno=>absurd rfl hno)
    have:(B95 (bs (O2 (-2)))==B95 ({ data:=#[45,50] }:ByteArray))=true:=by
     rw [B6x]
     exact (Lw _ _).trans (by decide)
    rw [this]
    have:=hK _ (Heap.le_trans l13 (Heap.le_trans l4 (Heap.le_trans l5 l6)))
    exact this
   ·show O2 (B37 (fun i=>([2,4,1,2]:List Rat).getD i 0) 2 2 i)=(([1,2,0,0]:List Rat).map O2).getD i []
    have hi':i<([1,2,0,0]:List Rat).length:=hi
    rw [aw2 i hi,B8v,B8v,B8y,B8x hi']
    rfl
 ·intro hno
  exfalso
  refine hno (Jz.2 ⟨⟨by omega,by omega,by omega,by omega,by simp⟩,fun i hi=>?_⟩)
  have hi':i<([2,4,1,2]:List Rat).length:=hi
  exact ⟨([2,4,1,2]:List Rat)[i],by rw [B8v,B8y,B8x hi'];rfl⟩
theorem B5q{P:Program}{t e' ty:TypeId}{z:Value}{bytes:Nat}(s:SliceT P t e' z 1 bytes){h g o:Heap}{b:Nat}{arr:List Value}{e:TypeId}(sp:Sep h g o)(ho:o b=some (.cells arr.toArray e)){d n c m cc:Nat}(hd:d+n<=arr.length){B:Option Addr}{ys:List Value}(sy:SlV h B ys)(hm:min m n=ys.length)(h1:∀ v∈ys,Zv v=true){K:VP}
 (x:∀ h',Sep h' g (o.put b (.cells (I9 arr d ys).toArray e))->K (I ys.length) h'):wpH P (Builtin.copy_ #[t,t] ty #[.slice (some ⟨b,d,none⟩) n c,.slice B m cc]) K h:=by
 obtain ⟨i,hi,hz,hsz,hby⟩:=s.parts
 have hle:ys.length<=n:=by omega
 unfold Builtin.copy_
 simp only [B92,List.getElem?_cons_zero,List.getElem?_cons_succ,C1,D6 s.und,J0 hi,E7,Builtin.lenOf,hsz]
 have hmin:Nat.min m n=ys.length:=hm
 rw [hmin]
 refine Gs (s:=1) (cs:=ys) (by simp) sy ?_
 simp only [C1]
 have hput:h.put b (.cells arr.toArray e)=h:=Ka (sp.own b _ ho)
 rw [<- hput]
 refine H1 ys d 0 arr (by omega) h1 ?_
 exact x _ (sp.upd ho _)
section
variable {h:Heap} {K:VP} {A:Option Addr} {n ac N cap:Nat} {r c:Int} {la:Nat->List UInt8}
theorem A5b(x:List UInt8)(n:Nat):(B8t n x).flatMap enc=B8t n (B8u (bs x)):=by
 have h1:(B8t n x).flatMap enc=(B8t n x).flatMap fun l=>[B8u (bs l)]:=rfl
 rw [h1,A21,List.map_replicate]
theorem Wm{v:ByteArray}(s:SlV h A [.string v])(hN:1<=N)(hl:N<=1000000)
 (hK:∀ b h' o',Sep h' h o'->o' b=some (.cells (B8t N (B8u v)).toArray E5)->K (.slice (some ⟨b,0,none⟩) N N) h'):FCall prog Pa #[.slice A 1 ac,I (N:Int)] h K:=by
 refine A48 _ _ _ _ ?_
 unfold A8g
 refine B4 (fun h1=>by omega) (fun _=>?_)
 rw [C0 (n:=((1:Nat):Int)) (by omega) (by omega),C0 (n:=(N:Int)) (by omega) (by omega)]
 refine A7a (by omega) (by omega) ⟨_,_,rfl,?_⟩
 have e1:((1:Nat):Int)*(N:Int)/18446744073709551616=0:=by omega
 have e2:((1:Nat):Int)*(N:Int)%18446744073709551616=N:=by omega
 rw [e1,e2]
 refine B4 (fun h1=>by omega) (fun _=>?_)
 refine B4 (fun h1=>by omega) (fun _=>?_)
 rw [B5 (n:=(N:Int)) (by omega) (by omega)]
 refine Bb O3 (zx:=([]:List UInt8)) rfl (by omega) (by omega) (by omega) (by omega) ?_
 intro b hb
 simp only [B94]
 refine ⟨_,_,_,rfl,?_⟩
 have s0:=(Sep.refl h).new hb (.cells ((B8t N ([]:List UInt8)).flatMap enc).toArray E5)
 have l0:h.le (h.put b (.cells ((B8t N ([]:List UInt8)).flatMap enc).toArray E5)):=Heap.le_put _ hb
 rw [A5b] at s0 l0
 show wpH _ (Builtin.copy_ _ _ _) _ (h.put b (.cells ((B8t N ([]:List UInt8)).flatMap enc).toArray E5))
 rw [A5b]
 refine B5q O3 s0 (B9 _ _ _) (d:=0) (by simp) (s.mono l0) (by simp;omega) (fun w hw=>by rw [List.mem_singleton.1 hw];rfl) ?_
 intro h1 s1
 refine ⟨_,rfl,?_⟩
 have cut:I9 (B8t N (B8u (bs []))) 0 [B8u v]=B8t 1 (B8u v)++B8t (N-1) (B8u (bs [])):=by
  unfold I9
  simp
 rw [cut] at s1
 refine ⟨fun l hp=>∃ (k:Nat) (o:Heap),l=[I (k:Int)]/\0<k/\k<=N/\Sep hp h o/\o b=some (.cells (B8t k (B8u v)++B8t (N-k) (B8u (bs []))).toArray E5),fun l _=>N-(iAt l 0).toNat,⟨1,_,rfl,by omega,hN,s1,B9 _ _ _⟩,?_⟩
 rintro i hp ⟨k,o,hli,hk0,hkn,w,ho⟩
 obtain rfl:=sI1 hli
 refine B4 (fun h2=>?_) (fun h2=>?_)
 ·refine ⟨⟨by omega,by omega⟩,⟨by omega,by omega⟩,?_⟩
  simp only [B94,F8,Nat.sub_zero]
  rw [Pn (by omega),D7,B9a,B9s]
  have hal:(B8t k (B8u v)++B8t (N-k) (B8u (bs []))).length=N:=by simp;omega
  have sy:SlV hp (some ⟨b,0,none⟩) (B8t (min k (N-k)) (B8u v)):=by
   right
   refine ⟨_,rfl,fun i u hu=>?_⟩
   have hi:i<min k (N-k):=by
    by_cases hi:i<min k (N-k)
    ·exact hi
    ·rw [B8z (by rw [B8w];omega)] at hu;cases hu
   rw [B97,if_pos hi] at hu
   rw [D7,B9a]
   unfold Heap.cell?
   simp only [w.own b _ ho,Option.isSome_none,B9l,if_false,B92]
   rw [B9d (by rw [B8w];omega),B97,if_pos (by omega)]
   exact hu
  refine B5q O3 w ho (d:=k) (by rw [hal];omega) sy (by rw [B8w]) (fun u hu=>by rw [List.eq_of_mem_replicate hu];rfl) ?_
  intro h3 s3
  rw [B8w]
  have e4:B3 ((k:Int)+(min k (N-k):Nat))=((k+min k (N-k):Nat):Int):=by rw [B5 (by omega) (by omega)];omega
  have e5:I9 (B8t k (B8u v)++B8t (N-k) (B8u (bs []))) k (B8t (min k (N-k)) (B8u v))=B8t (k+min k (N-k)) (B8u v)++B8t (N-(k+min k (N-k))) (B8u (bs [])):=by
   unfold I9
   rw [List.take_left' (by simp),B8w,List.drop_append,List.drop_of_length_le (by rw [B8w];omega),List.nil_append,B8w,List.drop_replicate,List.replicate_append_replicate]
   congr 2
   omega
  rw [e5] at s3
  refine ⟨_,rfl,?_⟩
  rw [e4]
  exact ⟨⟨k+min k (N-k),_,rfl,by omega,by omega,s3,B9 _ _ _⟩,by simp only [Hf];omega⟩
 ·have:k=N:=by omega
  subst this
  rw [Nat.sub_self,List.replicate_zero,List.append_nil] at ho
  exact hK b hp o w ho
def idT(q k:Nat):Nat->List UInt8:=fun t=>if t/q=t%q/\t/q<k then [49] else [48]
theorem A00{q:Nat}(hq1:1<=q)(hq2:q<=64)
 (hK:∀ b h',h.le h'->RowV SSr h' (some ⟨b,0,none⟩) (q*q) (fun t=>O2 (if t/q=t%q then 1 else 0))->K (.tuple #[Kl (q:Int) (q:Int) (some ⟨b,0,none⟩) (q*q) (q*q),I 0]) h'):FCall prog Dh #[I (q:Int)] h K:=by
 refine Mh _ ?_
 unfold Ql
 have hqq:q*q<=64*64:=B91 hq2 hq2
 have hqp:1<=q*q:=Nat.mul_pos hq1 hq1
 refine B4 (fun h1=>by omega) (fun _=>B4 (fun h1=>by omega) (fun _=>?_))
 refine Q9 O3 rfl ?_
 intro b0 hb0
 refine ⟨_,_,_,rfl,?_⟩
 have ewm:B3 ((q:Int)*(q:Int))=((q*q:Nat):Int):=by rw [<- B9i];exact X7 (by omega)
 rw [ewm]
 have l0:h.le (h.put b0 (.cells #[.string ({ data:=#[48] }:ByteArray)] E5)):=Heap.le_put _ hb0
 have sv:SlV (h.put b0 (.cells #[.string ({ data:=#[48] }:ByteArray)] E5)) (some ⟨b0,0,none⟩) [.string (bs [48])]:=by
  right
  refine ⟨_,rfl,fun i v hv=>?_⟩
  rw [D7,B9a,D9]
  have e:(#[B8u { data:=#[48] }]:Array Value)[i]? = ([B8u (bs [48])]:List Value)[i]? :=by
   rw [show (#[B8u { data:=#[48] }]:Array Value)=([B8u (bs [48])]:List Value).toArray from rfl,B92]
  rw [e]
  exact hv
 refine Wm sv hqp (by omega) ?_
 intro b h1 o1 s1 ho1
 refine ⟨_,_,_,rfl,?_⟩
 refine ⟨fun L hp=>∃ (k:Nat) (o:Heap) (arr:List Value),k<=q/\L=[I (k:Int)]/\Sep hp (h.put b0 (.cells #[.string ({ data:=#[48] }:ByteArray)] E5)) o/\o b=some (.cells arr.toArray E5)/\arr.length=q*q/\(∀ t,t<q*q->arr[t]? = some (.string (bs (idT q k t)))),fun L _=>q-(iAt L 0).toNat,⟨0,o1,_,by omega,rfl,s1,ho1,B8w,fun t ht=>by
  rw [B97,if_pos ht]
  unfold idT
  rw [if_neg (by omega)]⟩,?_⟩
 rintro z hp ⟨k,o,arr,hk,eL,s,ho,hal,harr⟩
 obtain rfl:=sI1 eL
 refine B4 (fun hlt=>?_) (fun hge=>?_)
 ·have hkq:k<q:=by omega
  have hix:=It hkq hkq
  have ew:B3 (B3 ((k:Int)*(q:Int))+(k:Int))=((k*q+k:Nat):Int):=by
   rw [<- B9i,X7 (by omega)]
   exact X7 (n:=k*q+k) (by omega)
  rw [ew]
  refine ⟨_,rfl,by omega,by omega,?_⟩
  simp only [B94]
  rw [B9s]
  refine Vc En rfl rfl s ho (by rw [List.size_toArray];omega) ?_
  intro h2 o2 s2 eo
  rw [wiS k (by omega)]
  refine ⟨⟨k+1,o2,arr.set (k*q+k) (.string (bs [49])),by omega,rfl,s2,?_,by rw [List.length_set];exact hal,fun t ht=>?_⟩,by simp only [Hf];omega⟩
  ·rw [eo,B9]
   simp
   rfl
  ·have hd:(k*q+k)/q=k/\(k*q+k)%q=k:=by
    rw [Nat.add_comm,B9w,B9o hkq,Nat.add_mul_div_right _ _ (by omega),B9p hkq,B9a]
    exact ⟨rfl,rfl⟩
   by_cases e:t=k*q+k
   ·subst e
    rw [List.getElem?_set_self (by omega)]
    unfold idT
    rw [hd.1,hd.2,if_pos ⟨rfl,by omega⟩]
   ·rw [List.getElem?_set_ne (fun x=>e x.symm),harr t ht]
    unfold idT
    by_cases e2:t/q=t%q/\t/q<k
    ·rw [if_pos e2,if_pos ⟨e2.1,by omega⟩]
    ·rw [if_neg e2,if_neg (fun x=>?_)]
     refine e2 ⟨x.1,?_⟩
     have hne:t/q≠k:=fun e3=>e (by
      have h4:=Nat.div_add_mod t q
      rw [<- x.1,e3] at h4
      rw [<- h4,B9h])
     omega
 ·have:k=q:=by omega
  subst this
  refine hK b hp (Heap.le_trans l0 s.le) ?_
  have rl:RowV SSr hp (some ⟨b,0,none⟩) ((B93 (k*k)).map (idT k k)).length (fun i=>((B93 (k*k)).map (idT k k)).getD i []):=by
   refine Bv ?_
   right
   refine ⟨_,rfl,fun i v hv=>?_⟩
   have hi:i<k*k:=by
    by_cases hi:i<k*k
    ·exact hi
    ·rw [B8z (by simp;omega)] at hv;cases hv
   rw [D7,B9a]
   unfold Heap.cell?
   simp only [s.own b _ ho,Option.isSome_none,B9l,if_false,B92]
   rw [harr i hi]
   simpa [hi] using hv
  rw [B9u,B9m] at rl
  refine rl.congr fun t ht=>?_
  have hlt:t/k<k:=B9j ht
  have:((B93 (k*k)).map (idT k k)).getD t []=idT k k t:=by simp [ht]
  rw [this]
  unfold idT
  by_cases e:t/k=t%k
  ·rw [if_pos ⟨e,hlt⟩,if_pos e,B4i]
  ·rw [if_neg (fun x=>e x.1),if_neg e,Nv]
end
section
variable {h:Heap} {K:VP} {A B:Option Addr} {n cap m:Nat} {r c:Int} {ls:Nat->List UInt8}
end
section
variable {h:Heap} {K:VP} {A:Option Addr} {n cap m w:Nat} {r c:Int} {ls:Nat->List UInt8} {M:Nat->Nat->Rat}
end
section
variable {α β:Type} {R:Heap->α->β->Prop} {g:Heap}
theorem Row.app{xs ys:List α}{f:Nat->β}{p q:Nat}(hp:xs.length=p)(r:Row R g xs p f)(r2:Row R g ys q (fun j=>f (p+j))):Row R g (xs++ys) (p+q) f:=fun i hi=>by
 by_cases h:i<p
 ·obtain ⟨w,e,x⟩:=r i h
  exact ⟨w,by rw [B9d (by omega)];exact e,x⟩
 ·obtain ⟨w,e,x⟩:=r2 (i-p) (by omega)
  refine ⟨w,by rw [B9x (by omega),hp];exact e,?_⟩
  have e2:p+(i-p)=i:=by omega
  show R g w (f i)
  rw [<- e2];exact x
end
section
variable {h:Heap} {K:VP} {A:Option Addr} {n cap m:Nat} {r c:Int} {ls:Nat->List UInt8}
end
section
variable {h:Heap} {K:VP} {A:Option Addr} {n cap m w:Nat} {r c:Int} {ls:Nat->List UInt8} {R:Nat->Nat->Rat}
theorem A07(hn:n<=10000)(hw:w<=10000)
 (hK:∀ h' g' o' bo rb,h.le g'->Mt h' g' o' bo rb n w (fun _ _=>0)->K (.slice (some ⟨bo,0,none⟩) n n) h'):FCall prog Ul #[I (n:Int),I (w:Int)] h K:=by
 refine A8q _ _ ?_
 unfold B2o
 refine Bb B7s (zx:=(⟨none,0,0⟩:HV)) rfl (by omega) (by omega) (by omega) (by omega) ?_
 intro bo hbo
 simp only [B94]
 refine ⟨_,_,_,rfl,fun L hp=>∃ (k:Nat) (g o:Heap) (hd:List HV) (rb:Nat->Nat),k<=n/\L=[I (k:Int)]/\h.le g/\Sep hp g o/\RowX o bo hd/\hd.length=n/\(∀ i,i<k->hd[i]? = some ⟨some ⟨rb i,0,none⟩,w,w⟩)/\(∀ i,i<k->rb i≠bo)/\(∀ i j,i<k->j<k->rb i=rb j->i=j)/\(∀ i,i<k->RowX o (rb i) (B8t w A4i)),fun L _=>n-(iAt L 0).toNat,
  ⟨0,h,Ln.put bo _,B8t n ⟨none,0,0⟩,fun _=>0,by omega,rfl,B0 _,Si hbo,RowX.mk,B8w,fun i hi=>by omega,fun i hi=>by omega,fun i j hi=>by omega,fun i hi=>by omega⟩,?_⟩
 rintro z hp ⟨k,g,o,hd,rb,hk,eL,lg,s,rx,hl,h1,h2,h3,h4⟩
 obtain rfl:=sI1 eL
 refine B4 (fun hlt=>?_) (fun hge=>?_)
 ·have hkn:k<n:=by omega
  refine Bb B4x (zx:=A4i) rfl (by omega) (by omega) (by omega) (by omega) ?_
  intro b2 hb2
  simp only [B94]
  have ob2:∀ q x,o q=some x->q≠b2:=by
   rintro q x e rfl
   rw [s.own q x e] at hb2;cases hb2
  have nbo:bo≠b2:=by obtain ⟨e,he⟩:=rx;exact ob2 _ _ he
  have nrb:∀ i,i<k->rb i≠b2:=fun i hi=>by obtain ⟨e,he⟩:=h4 i hi;exact ob2 _ _ he
  refine ⟨_,_,_,rfl,_,rfl,by omega,by omega,?_⟩
  refine Lb A1i (y:=(⟨some ⟨b2,0,none⟩,w,w⟩:HV)) rfl (s.new hb2 _) (rx.other nbo _) (i:=k) (by omega) ?_
  intro h5 o5 x5 eo5 s5 rx5
  rw [wiS k (by omega)]
  refine ⟨⟨k+1,g,o5,_,fun i=>if i=k then b2 else rb i,by omega,rfl,lg,s5,rx5,by rw [List.length_set];exact hl,fun i hi=>?_,fun i hi=>?_,fun i j hi hj e=>?_,fun i hi=>?_⟩,by simp only [Hf];omega⟩
  ·show (hd.set k _)[i]? = some (⟨some ⟨if i=k then b2 else rb i,0,none⟩,w,w⟩:HV)
   by_cases e:i=k
   ·subst e
    rw [if_pos rfl,List.getElem?_set_self (by omega)]
   ·rw [if_neg e,List.getElem?_set_ne (fun x=>e x.symm)]
    exact h1 i (by omega)
  ·show (if i=k then b2 else rb i)≠bo
   by_cases e:i=k
   ·rw [if_pos e];exact nbo.symm
   ·rw [if_neg e];exact h2 i (by omega)
  ·change (if i=k then b2 else rb i)=(if j=k then b2 else rb j) at e
   by_cases e1:i=k
   ·by_cases e2:j=k
    ·omega
    ·rw [if_pos e1,if_neg e2] at e
     exact absurd e.symm (nrb j (by omega))
   ·by_cases e2:j=k
    ·rw [if_neg e1,if_pos e2] at e
     exact absurd e (nrb i (by omega))
    ·rw [if_neg e1,if_neg e2] at e
     exact h3 i j (by omega) (by omega) e
  ·show RowX o5 (if i=k then b2 else rb i) _
   by_cases e:i=k
   ·rw [if_pos e,eo5]
    exact RowX.mk.other nbo.symm _
   ·rw [if_neg e,eo5]
    exact ((h4 i (by omega)).other (nrb i (by omega)) _).other (h2 i (by omega)) _
 ·have:k=n:=by omega
  subst this
  refine hK hp g o bo rb lg ⟨s,⟨hd,rx.rowB,hl,fun i hi=>⟨w,h1 i hi,Nat.le_refl _⟩⟩,h2,h3,fun i hi=>⟨_,(h4 i hi).rowB,B8w,fun j hj=>⟨A4i,by rw [B97,if_pos hj],NQ.zero⟩⟩⟩
end
theorem Br.nt{X Y:Prop}(y:Y):Br (!true) X Y:=y
theorem A8t{X Y:Prop}(x:X):Br (!false) X Y:=x
structure MOut where
 r:Int
 c:Int
 n:Nat
 f:Nat->List UInt8
 e:Int
def noM(e:Int):MOut:=⟨0,0,0,fun _=>[],e⟩
section
variable {h:Heap} {K:VP} {A B:Option Addr} {n n2 cap cap2 m w:Nat} {r c r2 c2:Int} {la lb:Nat->List UInt8}
end
structure VV where
 A:Option Addr
 n:Nat
 c:Nat
 s:Bool
 B:Option Addr
 bn:Nat
 bc:Nat
abbrev VV.v(w:VV):Value:=.agg #[.slice w.A w.n w.c,.bool w.s,.slice w.B w.bn w.bc]
instance:Enc VV:=⟨⟨fun w=>[.slice w.A w.n w.c,.bool w.s,.slice w.B w.bn w.bc],3,fun _=>rfl,fun w v hv=>by
 simp only [List.mem_cons,List.not_mem_nil,or_false] at hv
 rcases hv with rfl|rfl|rfl<;>rfl⟩⟩
section
variable {h:Heap} {K:VP} {A B:Option Addr} {n cap m w:Nat} {f f2:Nat->Rat}
end
section
variable {h:Heap} {K:VP} {A:Option Addr} {cap m rows cols:Nat} {E:Nat->Rat}
end
section
variable {h:Heap} {K:VP} {A B:Option Addr} {n n2 cap cap2 m:Nat} {r c r2 c2:Int} {la lb:Nat->List UInt8} {w:QV} {q:Rat}
end
section
variable {h:Heap} {K:VP} {A B:Option Addr} {n w cap cap2 m:Nat} {f f2:Nat->Rat} {R:Nat->Nat->Rat}
end
structure VOut where
 n:Nat
 f:Nat->List UInt8
 e:Int
section
variable {h:Heap} {K:VP} {A B:Option Addr} {n n2 cap cap2 m:Nat} {r c:Int} {la lx:Nat->List UInt8}
end
section
variable {h:Heap} {K:VP} {A B:Option Addr} {n n2 cap cap2 m:Nat} {r c:Int} {la lx:Nat->List UInt8}
end
section
variable {h:Heap} {K:VP} {A B:Option Addr} {n n2 cap cap2 m:Nat} {r c r2 c2:Int} {la lb:Nat->List UInt8} {E:Nat->Rat}
end
section
variable {h:Heap} {K:VP} {A:Option Addr} {n cap m:Nat} {r c:Int} {la:Nat->List UInt8}
end
section
variable {h g o:Heap} {wA B:Option Addr} {wc be m d:Nat} {hd:List HV} {xs ys:List QV}
end
def A97(k:Nat):Nat->Nat->Rat:=fun a b=>if a=b/\a<k then 1 else 0
section
variable {h:Heap} {K:VP} {A B:Option Addr} {n cap m:Nat} {r c:Int} {la:Nat->List UInt8} {E:Nat->Rat}
theorem A3e(hn:n<=10000)
 (hK:∀ bo h',h.le h'->RowsV h' (some ⟨bo,0,none⟩) n n (fun a b=>if a=b then 1 else 0)->K (.slice (some ⟨bo,0,none⟩) n n) h'):FCall prog A0f #[I (n:Int)] h K:=by
 refine B15 _ ?_
 unfold B6d
 refine A07 hn hn ?_
 intro h1 g1 o1 bo rb l1 t1
 refine ⟨_,_,_,rfl,fun L hp=>∃ (k:Nat) (g o:Heap),k<=n/\L=[I (k:Int)]/\h.le g/\Mt hp g o bo rb n n (A97 k),fun L _=>n-(iAt L 0).toNat,⟨0,g1,o1,by omega,rfl,l1,t1.congr fun a b _ _=>by unfold A97;rw [if_neg (by omega)]⟩,?_⟩
 rintro z hp ⟨k,g,o,hk,eL,lg,t⟩
 obtain rfl:=sI1 eL
 refine B4 (fun hlt=>?_) (fun hge=>?_)
 ·have hkn:k<n:=by omega
  obtain ⟨cc,hcc,hh⟩:=t.head hkn
  refine ⟨_,rfl,by omega,by omega,_,_,_,t.sep.cell hh,?_⟩
  refine t.sep.call (B55 ⟨by omega,by omega⟩ ?_)
  intro w7 g7 l7 i7 h7 s7
  have one:((1:Int):Rat)=1:=rfl
  rw [one] at i7
  refine ⟨_,_,_,_,_,_,_,_,rfl,t.sep.le_le s7 l7,_,rfl,by omega,by omega,?_⟩
  refine (t.next s7 l7).store hkn hkn i7 ?_
  intro h9 o9 t9 _
  rw [wiS k (by omega)]
  refine ⟨⟨k+1,g7,o9,by omega,rfl,Heap.le_trans lg l7,t9.congr fun a b _ _=>?_⟩,by simp only [Hf];omega⟩
  unfold B6j A97
  by_cases e:a=k/\b=k
  ·rw [if_pos e,if_pos (by omega)]
  ·rw [if_neg e]
   by_cases e2:a=b/\a<k
   ·rw [if_pos e2,if_pos (by omega)]
   ·rw [if_neg e2,if_neg (by omega)]
 ·have:k=n:=by omega
  subst this
  exact hK bo hp (Heap.le_trans lg t.sep.le) ((t.rowsV).congr fun a b ha _=>by
   unfold A97
   by_cases e:a=b
   ·rw [if_pos ⟨e,ha⟩,if_pos e]
   ·rw [if_neg (fun x=>e x.1),if_neg e])
end
theorem A8s{X Y:Prop}(x:X):Br true X Y:=x
section
variable {h:Heap} {K:VP} {A B:Option Addr} {n n2 cap cap2 m:Nat} {r c r2 c2:Int} {la lb:Nat->List UInt8}
end
theorem A6z{i j c:Nat}(hj:j<c):(i*c+j)/c=i/\(i*c+j)%c=j:=by
 rw [Nat.add_comm,B9w,B9o hj,Nat.add_mul_div_right _ _ (by omega),B9p hj,B9a]
 exact ⟨rfl,rfl⟩
section
variable {r c r2 c2:Int} {n n2 m rows mid mid2 cols:Nat} {la lb:Nat->List UInt8} {o:MOut}
end
def RowsS(h:Heap)(A:Option Addr)(n:Nat)(wl:Nat->Nat)(f:Nat->Nat->List UInt8):Prop:=∃ hd:List HV,SlF h A hd/\hd.length=n/\∀ i,i<n->∃ s,hd[i]? = some s/\s.n=wl i/\RowV SSr h s.A (wl i) (f i)
theorem RowsS.mono{h h':Heap}{A:Option Addr}{n:Nat}{wl:Nat->Nat}{f:Nat->Nat->List UInt8}(l:h.le h')(r:RowsS h A n wl f):RowsS h' A n wl f:=by
 obtain ⟨hd,s,e,r⟩:=r
 refine ⟨hd,s.mono l,e,fun i hi=>?_⟩
 obtain ⟨s,e1,e2,r⟩:=r i hi
 exact ⟨s,e1,e2,r.mono V6 l⟩
theorem RowsS.at{h:Heap}{A:Option Addr}{n:Nat}{wl:Nat->Nat}{f:Nat->Nat->List UInt8}(r:RowsS h A n wl f){i:Nat}(hi:i<n):∃ (a:Addr) (s:HV),A=some a/\s.n=wl i/\h.cell? (Addr.add a (i*1))=some (.slice s.A s.n s.c)/\RowV SSr h s.A (wl i) (f i):=by
 obtain ⟨hd,s,e,r⟩:=r
 obtain ⟨u,e1,e2,r⟩:=r i hi
 obtain ⟨a,ha,hc⟩:=SlF.at (by decide) s (i:=i) (by omega)
 have hu:hd[i]=u:=by
  rw [B8x (by omega)] at e1;exact Option.some.inj e1
 have:=hc 0 _ (by rw [hu];rfl)
 rw [Fh] at this
 exact ⟨a,u,ha,e2,this,r⟩
def Iw(f:Nat->Nat->List UInt8)(w:Nat):Nat->List UInt8:=fun k=>f (k/w) (k%w)
def B4d(n:Nat)(wl:Nat->Nat):Prop:=n≠0/\wl 0≠0/\∀ i,i<n->wl i=wl 0
def NewO(n:Nat)(wl:Nat->Nat)(f:Nat->Nat->List UInt8)(o:MOut):Prop:=
 (¬ B4d n wl/\o=noM 4)\/(B4d n wl/\¬ (n<=64/\wl 0<=64)/\o=noM 2)\/(B4d n wl/\(n<=64/\wl 0<=64)/\((¬ Mx (n:Int) (wl 0:Int) (n*wl 0) (Iw f (wl 0))/\o=noM 1)\/(Mx (n:Int) (wl 0:Int) (n*wl 0) (Iw f (wl 0))/\o=⟨(n:Int),(wl 0:Int),n*wl 0,Iw f (wl 0),0⟩)))
theorem NewO.eq{n:Nat}{wl:Nat->Nat}{f:Nat->Nat->List UInt8}{o p:MOut}(x:NewO n wl f o)(y:NewO n wl f p):o=p:=by
 rcases x with ⟨h1,rfl⟩|⟨h1,h2,rfl⟩|⟨h1,h2,⟨h3,rfl⟩|⟨h3,rfl⟩⟩<;>rcases y with ⟨g1,rfl⟩|⟨g1,g2,rfl⟩|⟨g1,g2,⟨g3,rfl⟩|⟨g3,rfl⟩⟩<;>first|rfl|(exact absurd g1 h1)|(exact absurd h1 g1)|(exact absurd g2 h2)|(exact absurd h2 g2)|(exact absurd g3 h3)|(exact absurd h3 g3)
theorem NewO.n_le{n:Nat}{wl:Nat->Nat}{f:Nat->Nat->List UInt8}{o:MOut}(x:NewO n wl f o):o.n<=4096:=by
 rcases x with ⟨_,rfl⟩|⟨_,_,rfl⟩|⟨_,h2,⟨_,rfl⟩|⟨_,rfl⟩⟩
 ·exact B9g _
 ·exact B9g _
 ·exact B9g _
 ·have:n*wl 0<=64*64:=B91 h2.1 h2.2
  exact this
theorem B1a(z:Value)(m:Nat):B9f #[z] m=Array.replicate m z:=by
 unfold B9f
 apply Array.ext
 ·simp
 ·intro i h1 h2
  simp [Nat.mod_one]
theorem A3c{P:Program}{t e ty ti:TypeId}{z:Value}{bytes:Nat}(st:SliceT P t e z 1 bytes)(hti:P.underlying ti=some (.int .i64))(hz1:z.cells=#[z]){N:Nat}(hN:1<=N)(hN2:N<=1000000)(hb:(2*N+192)*bytes<=281474976710656){K:VP}{h:Heap}
 (x:∀ b c,h b=none->N<=c->K (.slice (some ⟨b,0,none⟩) N c) (h.put b (.cells (B8t c z).toArray e))):wpH P (B9v #[t,ti] ty #[.slice none 0 0,I (N:Int)]) K h:=by
 obtain ⟨i,hi,hz,hsz,hby⟩:=st.parts
 unfold B9v
 have hw:IntKind.i64.wrap (N:Int)=(N:Int):=B5 (by omega) (by omega)
 have hbn:N*bytes<=281474976710656:=B9n (B90 _ (by omega)) hb
 have hbi:¬ ((N:Int)*(bytes:Int)>2^48):=by
  rw [<- B9i]
  have:(2:Int)^48=281474976710656:=by decide
  rw [this];omega
 simp only [B92,List.getElem?_cons_zero,List.getElem?_cons_succ,C1,D6 st.und,D6 hti,J0 hi,E7,if_true,asInt,asIntOf,hw,E9 hi,hby,hbi,if_false,show ¬ ((N:Int)<0) by omega,B94,hsz,B9a,B9s,show ¬ (N<=0) by omega,show ¬ (N=0) by omega,Bool.not_true,B9l]
 have hnx:=Gc (show 0<N by omega)
 have hnb:Builtin.nextslicecap N 0*bytes<=281474976710656:=B9n (B90 _ hnx) hb
 rw [if_neg (by rintro ⟨h',_⟩;simp only [IntKind.max,IntKind.signed,IntKind.bits] at h';simp at h';omega)]
 simp only [C1,E9 hi,hby]
 rw [if_neg (by simp only [show (2^48:Nat)=281474976710656 from rfl];omega)]
 simp only [E7,C1]
 refine Bp rfl fun tt=>?_
 simp only [Ae,E9 hi]
 refine I6 (cs:=[]) (by simp) (.inl rfl) ?_
 simp only [L5 hi hz,E7,N0,C1]
 intro b hfree
 have hcut:∃ nc,(Question.appendCap N 0 e).cut tt=nc/\N<=nc:=⟨_,rfl,by simp only [Question.cut];omega⟩
 obtain ⟨nc,hnc,hge⟩:=hcut
 rw [hnc]
 have:=x b nc hfree hge
 have e1:B9f z.cells N++B9f z.cells (nc-N)=Array.replicate nc z:=by
  rw [hz1,B1a,B1a]
  apply Array.ext
  ·simp only [Array.size_append,Array.size_replicate]
   omega
  ·intro i h1 h2
   simp [Array.getElem_append]
 simpa [e1] using this
section
variable {h:Heap} {K:VP} {A:Option Addr} {n cap N:Nat} {r c:Int} {la:Nat->List UInt8} {wl:Nat->Nat} {f:Nat->Nat->List UInt8}
theorem A39(hN:1<=N)(hN2:N<=1000000)
 (hK:∀ A' c' h' o',Sep h' h o'->OwnSl o' E5 A' c' ([]:List (List UInt8))->K (.slice A' 0 c') h'):FCall prog A0d #[.slice none 0 0,I (N:Int)] h K:=by
 refine B12 _ _ _ _ ?_
 unfold B6a
 refine B4 (fun h1=>by omega) (fun _=>?_)
 have e1:B3 ((N:Int)-B3 (((0:Nat):Int)-((0:Nat):Int)))=(N:Int):=by
  have:B3 (((0:Nat):Int)-((0:Nat):Int))=0:=B5 (by omega) (by omega)
  rw [this,B5]<;>omega
 rw [e1]
 refine B4 (fun _=>?_) (fun h1=>by omega)
 refine ⟨⟨by omega,by omega⟩,?_⟩
 have hc0:I8 none 0 0 1=none:=by unfold I8;split<;>rfl
 rw [hc0]
 refine A3c O3 (by kernel_rfl) rfl hN hN2 (by omega) ?_
 intro b c' hb hc
 refine ⟨_,_,_,rfl,⟨by omega,by omega⟩,?_⟩
 rw [F8]
 refine hK _ _ _ _ ((Sep.refl h).new hb _) ⟨B9g _,.inr ⟨b,B8t c' (B8u (bs [])),rfl,B9 _ _ _,by rw [B8w];exact (B9s _).symm,by simp⟩⟩
theorem A22{g:Heap}{xs ys:List (List UInt8)}{w k:Nat}(hx:xs.length=k*w)(r:Row SSr g xs (k*w) (Iw f w))(r2:Row SSr g ys w (f k)):Row SSr g (xs++ys) (k*w+w) (Iw f w):=by
 refine Row.app hx r (r2.congr fun j hj=>?_)
 obtain ⟨e1,e2⟩:=A6z (i:=k) hj
 unfold Iw
 rw [e1,e2]
theorem Wq{w:Nat}(rs:RowsS h A n wl f)(hn1:1<=n)(hn:n<=64)(hw1:1<=w)(hw:w<=64)(hwl:∀ i,i<n->wl i=w)
 (hK:∀ A' c' h',h.le h'->RowV SSr h' A' (n*w) (Iw f w)->K (.slice A' (n*w) c') h'):FCall prog Pc #[.slice A n cap] h K:=by
 refine A4a _ _ _ ?_
 unfold A8i
 have hnw:n*w<=64*64:=B91 hn hw
 have hnw1:1<=n*w:=Nat.mul_pos hn1 hw1
 refine ⟨fun L hp=>∃ k:Nat,k<=n/\L=[I ((k*w:Nat):Int),I (k:Int)]/\hp=h,fun L _=>n-(iAt L 1).toNat,⟨0,by omega,by rw [B99];rfl,rfl⟩,?_⟩
 rintro sz z hp ⟨k,hk,eL,rfl⟩
 simp only [B9c,B9b,true_and,and_true] at eL
 obtain ⟨rfl,rfl⟩:=eL
 refine B4 (fun hlt=>?_) (fun hge=>?_)
 ·have hkn:k<n:=by omega
  obtain ⟨a,s,ea,e1,hc,_⟩:=rs.at hkn
  have hk1:(k+1)*w=k*w+w:=by rw [B9t,B9r]
  have hk2:(k+1)*w<=n*w:=B90 _ hkn
  have ew:B3 (((k*w:Nat):Int)+((s.n:Nat):Int))=(((k+1)*w:Nat):Int):=by rw [e1,hwl k hkn,B5]<;>omega
  refine ⟨a,ea,by omega,by omega,_,_,_,hc,?_⟩
  rw [ew]
  refine B4 (fun e=>by omega) (fun _=>?_)
  rw [wiS k (by omega)]
  refine ⟨⟨k+1,by omega,rfl,rfl⟩,?_⟩
  show n-((k+1:Nat):Int).toNat<n-(k:Int).toNat
  omega
 have hkn:k=n:=by omega
 subst hkn
 refine A39 hnw1 (by omega) ?_
 intro A1 c1 h1 o1 s1 ow1
 refine ⟨_,_,_,rfl,fun L q=>∃ (i:Nat) (g o:Heap) (xs:List (List UInt8)) (A':Option Addr) (c':Nat),i<=k/\L=[.slice A' (i*w) c',I (i:Int)]/\hp.le g/\Sep q g o/\OwnSl o E5 A' c' xs/\xs.length=i*w/\Row SSr g xs (i*w) (Iw f w),fun L _=>k-(iAt L 1).toNat,⟨0,hp,o1,[],A1,c1,by omega,by rw [B99];rfl,B0 _,s1,ow1,by simp,by rw [B99];exact Row.nil⟩,?_⟩
 rintro qA qn qc z q ⟨i,g,o,xs,A',c',hi,eL,lg,s,ow,hxl,rr⟩
 obtain ⟨⟨rfl,rfl,rfl⟩,rfl⟩:=sI2 eL
 refine B4 (fun hlt=>?_) (fun hge2=>?_)
 ·have hik:i<k:=by omega
  obtain ⟨a,sv,ea,e1,hc,row⟩:=rs.at hik
  rw [hwl i hik] at e1 row
  obtain ⟨ys,sy,hyl,qy⟩:=row
  have hk1:(i+1)*w=i*w+w:=by rw [B9t,B9r]
  have hk2:(i+1)*w<=k*w:=B90 _ hik
  refine ⟨a,ea,by omega,by omega,_,_,_,C5 (Heap.le_trans lg s.le) hc,?_⟩
  refine OwnSl.app (ty:=Cq) O3 s ow hxl.symm (by omega) (by rintro rfl;simp at hyl;omega) (sy.mono (Heap.le_trans lg s.le)) (by omega) (by omega) ?_
  intro A3 c3 h3 g3 o3 l3 s3 ow3 _
  rw [hxl,e1,<- hk1,wiS i (by omega)]
  refine ⟨_,_,_,rfl,⟨i+1,g3,o3,_,A3,c3,by omega,rfl,Heap.le_trans lg l3,s3,ow3,by rw [B96,hxl,hyl,hk1],?_⟩,?_⟩
  ·rw [hk1]
   exact A22 hxl (rr.mono V6 l3) (qy.mono V6 (Heap.le_trans lg l3))
  ·show k-((i+1:Nat):Int).toNat<k-(i:Int).toNat
   omega
 ·have:i=k:=by omega
  subst this
  exact hK qA qc q (Heap.le_trans lg s.le) ⟨xs,ow.slF s.ole,hxl,rr.mono V6 s.le⟩
theorem A5w(gl:Gl h)(rs:RowsS h A n wl f)(hn:n<=70)(hw:∀ i,i<n->wl i<=70)(hl:∀ i j,i<n->j<wl i->(f i j).length<=40)
 (hK:∀ o,NewO n wl f o->∀ A' c' h',h.le h'->RowV SSr h' A' o.n o.f->K (.tuple #[Kl o.r o.c A' o.n c',I o.e]) h'):FCall prog A6o #[.slice A n cap] h K:=by
 refine B4a _ _ _ ?_
 unfold B8l
 have odd:¬ B4d n wl->∀ h',h.le h'->K (.tuple #[Kl 0 0 none 0 0,I 4]) h':=fun hx h' l=>hK (noM 4) (.inl ⟨hx,rfl⟩) none 0 h' l RowV.nil
 refine D8 (fun e=>odd (fun x=>x.1 (by omega)) h (B0 _)) (fun e0=>?_)
 have hn1:1<=n:=by omega
 obtain ⟨a,s,ea,e1,hc,_⟩:=rs.at (i:=0) (by omega)
 refine ⟨a,ea,by omega,by omega,_,_,_,hc,?_⟩
 rw [e1]
 refine D8 (fun e=>odd (fun x=>x.2.1 (by omega)) h (B0 _)) (fun e2=>?_)
 refine ⟨a,ea,by omega,by omega,_,_,_,hc,?_⟩
 rw [e1]
 refine ⟨fun L hp=>∃ k:Nat,k<=n/\L=[I (k:Int),I 0,I 0,.slice none 0 0]/\hp=h/\∀ i,i<k->wl i=wl 0,fun L _=>n-(iAt L 0).toNat,⟨0,by omega,rfl,rfl,fun i hi=>by omega⟩,?_⟩
 rintro z x0 x1 x2A x2n x2c hp ⟨k,hk,eL,rfl,hwk⟩
 simp only [B9c,B9b,B9e,true_and,and_true] at eL
 obtain ⟨rfl,rfl,rfl,rfl,rfl,rfl⟩:=eL
 refine B4 (fun hlt=>?_) (fun hge=>?_)
 ·have hkn:k<n:=by omega
  obtain ⟨a3,s3,ea3,e3,hc3,_⟩:=rs.at hkn
  refine ⟨a3,ea3,by omega,by omega,_,_,_,hc3,?_⟩
  rw [e3]
  refine O1 (fun e=>odd (fun x=>e (by rw [x.2.2 k hkn])) _ (B0 _)) (fun e=>?_)
  rw [wiS k (by omega)]
  refine ⟨⟨k+1,by omega,rfl,rfl,fun i hi=>?_⟩,by simp only [Hf];omega⟩
  by_cases e4:i=k
  ·subst e4;omega
  ·exact hwk i (by omega)
 have hkn:k=n:=by omega
 subst hkn
 have ev:B4d k wl:=⟨by omega,by omega,hwk⟩
 have big:¬ (k<=64/\wl 0<=64)->∀ h',hp.le h'->K (.tuple #[Kl 0 0 none 0 0,I 2]) h':=fun hx h' l=>hK (noM 2) (.inr (.inl ⟨ev,hx,rfl⟩)) none 0 h' l RowV.nil
 refine B4 (fun e=>big (fun x=>by omega) _ (B0 _)) (fun b1=>?_)
 refine B4 (fun e=>big (fun x=>by omega) _ (B0 _)) (fun b2=>?_)
 have dims:k<=64/\wl 0<=64:=⟨by omega,by omega⟩
 refine Wq rs hn1 dims.1 (by omega) dims.2 hwk ?_
 intro A4 c4 h4 l4 r4
 refine ⟨_,_,_,rfl,?_⟩
 have hkw:k*wl 0<=64*64:=B91 dims.1 dims.2
 have hfl:∀ i,i<k*wl 0->(Iw f (wl 0) i).length<=100000000:=fun i hi=>by
  have hd:i/wl 0<k:=B9j (by rw [B9h];exact hi)
  have:=hl (i/wl 0) (i%wl 0) hd (by rw [hwk _ hd];exact Nat.mod_lt i (by omega))
  show (f _ _).length<=_
  omega
 exact Hb (gl.mono l4) r4 (by omega) hfl (fun hx=>⟨_,rfl,Br.nt (hK ⟨(k:Int),(wl 0:Int),k*wl 0,Iw f (wl 0),0⟩ (.inr (.inr ⟨ev,dims,.inr ⟨hx,rfl⟩⟩)) A4 c4 h4 l4 r4)⟩) (fun hx=>⟨_,rfl,A8t (hK (noM 1) (.inr (.inr ⟨ev,dims,.inl ⟨hx,rfl⟩⟩)) none 0 h4 l4 RowV.nil)⟩)
theorem A6b(rs:RowsS h A n wl f)(hn:n<=70)(hw:∀ i,i<n->wl i<=70)(hl:∀ i j,i<n->j<wl i->(f i j).length<=40)
 (hK:∀ o,NewO n wl f o->∀ A' c' h',h.le h'->RowV SSr h' A' o.n o.f->K (.tuple #[Kl o.r o.c A' o.n c',I o.e]) h'):FCall prog A6q #[.slice A n cap] h K:=by
 refine B4c _ _ _ ?_
 unfold B8n
 have odd:¬ B4d n wl->∀ h',h.le h'->K (.tuple #[Kl 0 0 none 0 0,I 4]) h':=fun hx h' l=>hK (noM 4) (.inl ⟨hx,rfl⟩) none 0 h' l RowV.nil
 refine D8 (fun e=>odd (fun x=>x.1 (by omega)) h (B0 _)) (fun e0=>?_)
 have hn1:1<=n:=by omega
 obtain ⟨a,s,ea,e1,hc,_⟩:=rs.at (i:=0) (by omega)
 refine ⟨a,ea,by omega,by omega,_,_,_,hc,?_⟩
 rw [e1]
 refine D8 (fun e=>odd (fun x=>x.2.1 (by omega)) h (B0 _)) (fun e2=>?_)
 refine ⟨fun L hp=>∃ k:Nat,k<=n/\L=[I (k:Int),I 0,I 0,.slice none 0 0]/\hp=h/\∀ i,i<k->wl i=wl 0,fun L _=>n-(iAt L 0).toNat,⟨0,by omega,rfl,rfl,fun i hi=>by omega⟩,?_⟩
 rintro z x0 x1 x2A x2n x2c hp ⟨k,hk,eL,rfl,hwk⟩
 simp only [B9c,B9b,B9e,true_and,and_true] at eL
 obtain ⟨rfl,rfl,rfl,rfl,rfl,rfl⟩:=eL
 refine B4 (fun hlt=>?_) (fun hge=>?_)
 ·have hkn:k<n:=by omega
  obtain ⟨a3,s3,ea3,e3,hc3,_⟩:=rs.at hkn
  refine ⟨a3,ea3,by omega,by omega,_,_,_,hc3,a,ea,by omega,by omega,_,_,_,hc,?_⟩
  rw [e3,e1]
  refine O1 (fun e=>odd (fun x=>e (by rw [x.2.2 k hkn])) _ (B0 _)) (fun e=>?_)
  rw [wiS k (by omega)]
  refine ⟨⟨k+1,by omega,rfl,rfl,fun i hi=>?_⟩,by simp only [Hf];omega⟩
  by_cases e4:i=k
  ·subst e4;omega
  ·exact hwk i (by omega)
 have hkn:k=n:=by omega
 subst hkn
 have ev:B4d k wl:=⟨by omega,by omega,hwk⟩
 have big:¬ (k<=64/\wl 0<=64)->∀ h',hp.le h'->K (.tuple #[Kl 0 0 none 0 0,I 2]) h':=fun hx h' l=>hK (noM 2) (.inr (.inl ⟨ev,hx,rfl⟩)) none 0 h' l RowV.nil
 refine B4 (fun e=>big (fun x=>by omega) _ (B0 _)) (fun b1=>?_)
 refine ⟨a,ea,by omega,by omega,_,_,_,hc,?_⟩
 rw [e1]
 refine B4 (fun e=>big (fun x=>by omega) _ (B0 _)) (fun b2=>?_)
 have dims:k<=64/\wl 0<=64:=⟨by omega,by omega⟩
 have hkw:k*wl 0<=64*64:=B91 dims.1 dims.2
 refine ⟨a,ea,by omega,by omega,_,_,_,hc,?_⟩
 rw [e1]
 refine ⟨fun L q=>∃ (i:Nat) (g o:Heap) (xs:List (List UInt8)) (A':Option Addr) (c':Nat),i<=k/\L=[I (i:Int),I (k:Int),I (wl 0:Int),.slice A' (i*wl 0) c']/\hp.le g/\Sep q g o/\OwnSl o E5 A' c' xs/\xs.length=i*wl 0/\Row SSr g xs (i*wl 0) (Iw f (wl 0)),fun L _=>k-(iAt L 0).toNat,⟨0,hp,Ln,[],none,0,by omega,by rw [B99];rfl,B0 _,Sep.refl hp,OwnSl.nil,by simp,by rw [B99];exact Row.nil⟩,?_⟩
 rintro z y0 y1 qA qn qc q ⟨i,g,o,xs,A',c',hi,eL,lg,s,ow,hxl,rr⟩
 simp only [B9c,B9b,B9e,true_and,and_true] at eL
 obtain ⟨rfl,rfl,rfl,rfl,rfl,rfl⟩:=eL
 refine B4 (fun hlt=>?_) (fun hge2=>?_)
 ·have hik:i<k:=by omega
  obtain ⟨a5,sv,ea5,e5,hc5,row⟩:=rs.at hik
  rw [hwk i hik] at e5 row
  obtain ⟨ys,sy,hyl,qy⟩:=row
  have hk1:(i+1)*wl 0=i*wl 0+wl 0:=by rw [B9t,B9r]
  have hk2:(i+1)*wl 0<=k*wl 0:=B90 _ hik
  refine ⟨a5,ea5,by omega,by omega,_,_,_,C5 (Heap.le_trans lg s.le) hc5,?_⟩
  refine OwnSl.app (ty:=Cq) O3 s ow hxl.symm (by omega) (by rintro rfl;simp at hyl;omega) (sy.mono (Heap.le_trans lg s.le)) (by omega) (by omega) ?_
  intro A3 c3 h3 g3 o3 l3 s3 ow3 _
  rw [hxl,e5,<- hk1,wiS i (by omega)]
  refine ⟨_,_,_,rfl,⟨i+1,g3,o3,_,A3,c3,by omega,rfl,Heap.le_trans lg l3,s3,ow3,by rw [B96,hxl,hyl,hk1],?_⟩,by simp only [Hf];omega⟩
  rw [hk1]
  exact A22 hxl (rr.mono V6 l3) (qy.mono V6 (Heap.le_trans lg l3))
 have hik:i=k:=by omega
 subst hik
 have l4:=Heap.le_trans lg s.le
 have r4:RowV SSr q qA (i*wl 0) (Iw f (wl 0)):=⟨xs,ow.slF s.ole,hxl,rr.mono V6 s.le⟩
 have hfl:∀ t,t<i*wl 0->(Iw f (wl 0) t).length<=100000000:=fun t ht=>by
  have hd:t/wl 0<i:=B9j (by rw [B9h];exact ht)
  have:=hl (t/wl 0) (t%wl 0) hd (by rw [hwk _ hd];exact Nat.mod_lt t (by omega))
  show (f _ _).length<=_
  omega
 exact Cy r4 (by omega) hfl (fun hx h' l=>⟨_,rfl,Br.nt (hK ⟨(i:Int),(wl 0:Int),i*wl 0,Iw f (wl 0),0⟩ (.inr (.inr ⟨ev,dims,.inr ⟨hx,rfl⟩⟩)) qA qc h' (Heap.le_trans l4 l) (r4.mono V6 l))⟩) (fun hx h' l=>⟨_,rfl,A8t (hK (noM 1) (.inr (.inr ⟨ev,dims,.inl ⟨hx,rfl⟩⟩)) none 0 h' (Heap.le_trans l4 l) RowV.nil)⟩)
def IdO(n:Int)(o:MOut):Prop:=(¬ (1<=n/\n<=64)/\o=noM 3)\/(∃ q:Nat,n=q/\1<=q/\q<=64/\o=⟨(q:Int),(q:Int),q*q,A06 (fun a b=>if a=b then 1 else 0) q,0⟩)
theorem IdO.eq{n:Int}{o p:MOut}(x:IdO n o)(y:IdO n p):o=p:=by
 rcases x with ⟨h1,rfl⟩|⟨q,h1,h2,h3,rfl⟩<;>rcases y with ⟨g1,rfl⟩|⟨q2,g1,g2,g3,rfl⟩
 ·rfl
 ·exact absurd ⟨by omega,by omega⟩ h1
 ·exact absurd ⟨by omega,by omega⟩ g1
 ·obtain rfl:q2=q:=by omega
  rfl
theorem IdO.n_le{n:Int}{o:MOut}(x:IdO n o):o.n<=4096:=by
 rcases x with ⟨_,rfl⟩|⟨q,_,h2,h3,rfl⟩
 ·exact B9g _
 ·have:q*q<=64*64:=B91 h3 h3
  exact this
theorem Wp{m:Int}(hK:∀ o,IdO m o->∀ A' c' h',h.le h'->RowV SSr h' A' o.n o.f->K (.tuple #[Kl o.r o.c A' o.n c',I o.e]) h'):FCall prog Dh #[I m] h K:=by
 by_cases hm:1<=m/\m<=64
 ·obtain ⟨q,rfl⟩:∃ q:Nat,m=q:=⟨m.toNat,by omega⟩
  exact A00 (by omega) (by omega) fun b h' l r=>hK ⟨(q:Int),(q:Int),q*q,A06 (fun a b=>if a=b then 1 else 0) q,0⟩ (.inr ⟨q,rfl,by omega,by omega,rfl⟩) _ _ h' l r
 ·have bad:=hK (noM 3) (.inl ⟨hm,rfl⟩) none 0 h (B0 _) RowV.nil
  refine Mh _ ?_
  unfold Ql
  exact B4 (fun _=>bad) (fun h1=>B4 (fun _=>bad) (fun h2=>absurd ⟨by omega,by omega⟩ hm))
theorem Xb{m:Int}(hK:∀ o,IdO m o->∀ A' c' h',h.le h'->RowV SSr h' A' o.n o.f->K (.tuple #[Kl o.r o.c A' o.n c',I o.e]) h'):FCall prog Hm #[I m] h K:=by
 refine Yl _ ?_
 unfold Ym
 by_cases hm:1<=m/\m<=64
 ·obtain ⟨q,rfl⟩:∃ q:Nat,m=q:=⟨m.toNat,by omega⟩
  refine B4 (fun h1=>by omega) (fun _=>B4 (fun h1=>by omega) (fun _=>?_))
  refine A3e (by omega) ?_
  intro bo h1 l1 rs
  refine ⟨_,_,_,rfl,?_⟩
  refine A3g (m:=1) rs (by omega) (by omega) (by omega) (by omega) (fun i j _ _=>?_) (by omega) ?_
  ·show Sz 1 (if i=j then 1 else 0)
   split
   ·exact ⟨ZB.one (by omega),ZB.one (by omega)⟩
   ·exact Sz.zero (by omega)
  intro A3 c3 h3 l3 hc3 r3
  exact ⟨_,_,_,_,_,rfl,hK ⟨(q:Int),(q:Int),q*q,A06 (fun a b=>if a=b then 1 else 0) q,0⟩ (.inr ⟨q,rfl,by omega,by omega,rfl⟩) A3 c3 h3 (Heap.le_trans l1 l3) r3⟩
 ·have bad:=hK (noM 3) (.inl ⟨hm,rfl⟩) none 0 h (B0 _) RowV.nil
  exact B4 (fun _=>bad) (fun h1=>B4 (fun _=>bad) (fun h2=>absurd ⟨by omega,by omega⟩ hm))
def AtO(r c:Int)(n:Nat)(la:Nat->List UInt8)(i j:Int)(s:List UInt8):Prop:=
 (¬ (Mx r c n la/\0<=i/\i<r/\0<=j/\j<c)/\s=[48])\/(∃ rows cols,MOk r c n la rows cols/\∃ a b:Nat,i=a/\j=b/\a<rows/\b<cols/\s=la (a*cols+b))
theorem AtO.eq{r c:Int}{n:Nat}{la:Nat->List UInt8}{i j:Int}{s t:List UInt8}(x:AtO r c n la i j s)(y:AtO r c n la i j t):s=t:=by
 rcases x with ⟨h1,rfl⟩|⟨r1,c1,h1,a,b,h2,h3,h4,h5,rfl⟩<;>rcases y with ⟨g1,rfl⟩|⟨r2,c2,g1,a',b',g2,g3,g4,g5,rfl⟩
 ·rfl
 ·exact absurd ⟨⟨_,_,g1⟩,by omega,by have:=g1.er;omega,by omega,by have:=g1.ec;omega⟩ h1
 ·exact absurd ⟨⟨_,_,h1⟩,by omega,by have:=h1.er;omega,by omega,by have:=h1.ec;omega⟩ g1
 ·obtain rfl:c2=c1:=by have:=h1.ec;have:=g1.ec;omega
  obtain rfl:a'=a:=by omega
  obtain rfl:b'=b:=by omega
  rfl
theorem B22{i j:Int}(ra:RowV SSr h A n la)(hno:∀ s,AtO r c n la i j s->K (.string (bs s)) h)(hx:Mx r c n la):
 Br (decide (i<(0:Int))) (K (.string ({ data:=#[48] }:ByteArray)) h) (Br (decide (i>=r)) (K (.string ({ data:=#[48] }:ByteArray)) h) (Br (decide (j<(0:Int))) (K (.string ({ data:=#[48] }:ByteArray)) h) (Br (decide (j>=c)) (K (.string ({ data:=#[48] }:ByteArray)) h)
 (∃ a,A=some a/\0<=B3 ((B3 (i*c))+j)/\B3 ((B3 (i*c))+j)<((n:Nat):Int)/\∃ (t39:ByteArray),Heap.cell? h (Addr.add a ((B3 ((B3 (i*c))+j)).toNat*1))=some (.string t39)/\K (.string t39) h)))):=by
 have bad:¬ (0<=i/\i<r/\0<=j/\j<c)->K (.string ({ data:=#[48] }:ByteArray)) h:=fun hb=>hno [48] (.inl ⟨fun x=>hb x.2,rfl⟩)
 refine B4 (fun e=>bad (fun x=>by omega)) (fun h1=>B4 (fun e=>bad (fun x=>by omega)) (fun h2=>B4 (fun e=>bad (fun x=>by omega)) (fun h3=>B4 (fun e=>bad (fun x=>by omega)) (fun h4=>?_))))
 obtain ⟨rows,cols,mk⟩:=hx
 have good:=fun a b h2 h3 h4 h5=>hno (la (a*cols+b)) (.inr ⟨rows,cols,mk,a,b,h2,h3,h4,h5,rfl⟩)
 have:=mk.r2;have:=mk.c2
 obtain ⟨rfl,rfl,_,_,_,_,rfl,_⟩:=id mk
 obtain ⟨a,rfl⟩:∃ a:Nat,i=a:=⟨i.toNat,by omega⟩
 obtain ⟨b,rfl⟩:∃ b:Nat,j=b:=⟨j.toNat,by omega⟩
 have ha:a<rows:=by omega
 have hb:b<cols:=by omega
 have hix:=It ha hb
 have hrc:rows*cols<=64*64:=B91 (by omega) (by omega)
 have ew:B3 (B3 ((a:Int)*(cols:Int))+(b:Int))=((a*cols+b:Nat):Int):=by
  rw [<- B9i,X7 (by omega)]
  exact X7 (n:=a*cols+b) (by omega)
 rw [ew]
 obtain ⟨x,ex,hc1⟩:=ra.sat hix
 exact ⟨x,ex,by omega,by omega,_,hc1,good a b rfl rfl ha hb⟩
theorem A5y{i j:Int}(gl:Gl h)(ra:RowV SSr h A n la)(hn:n<=1000000)(hl:∀ i,i<n->(la i).length<=100000000)
 (hK:∀ s,AtO r c n la i j s->K (.string (bs s)) h):FCall prog B06 #[Kl r c A n cap,I i,I j] h K:=by
 refine B6b _ _ _ _ _ _ _ ?_
 unfold MAt
 exact Hb gl ra hn hl (fun hx=>⟨_,rfl,Br.nt (B22 ra hK hx)⟩) (fun hno=>⟨_,rfl,A8t (hK [48] (.inl ⟨fun x=>hno x.1,rfl⟩))⟩)
theorem A6h{i j:Int}(ra:RowV SSr h A n la)(hn:n<=1000000)(hl:∀ i,i<n->(la i).length<=100000000)
 (hK:∀ s,AtO r c n la i j s->∀ h',h.le h'->K (.string (bs s)) h'):FCall prog B07 #[Kl r c A n cap,I i,I j] h K:=by
 refine B6g _ _ _ _ _ _ _ ?_
 unfold FAt
 exact Cy ra hn hl (fun hx h' l=>⟨_,rfl,Br.nt (B22 (ra.mono V6 l) (fun s hs=>hK s hs h' l) hx)⟩) (fun hno h' l=>⟨_,rfl,A8t (hK [48] (.inl ⟨fun x=>hno x.1,rfl⟩) h' l)⟩)
end
section
variable {h:Heap} {K:VP} {A B:Option Addr} {n n2 cap cap2:Nat} {r c p i j:Int} {la:Nat->List UInt8} {wl:Nat->Nat} {f:Nat->Nat->List UInt8}
theorem law_matrixNew(gl:Gl h)(rs:RowsS h A n wl f)(s2:RowV SSr h B n2 la)(hl:∀ i,i<n2->(la i).length<=100000000):FCall prog Ls #[.slice A n cap,Kl r c B n2 cap2,I p,I i,I j] h (B4q h):=by
 refine Vk _ _ _ _ _ _ _ _ _ _ _ ?_
 unfold Ss
 have aw:∀ h',h.le h'->FCall prog U2 #[] h' (fun r hp=>∃ t,r= .bool t/\B4q h (.bool t) hp):=fun h' l=>Sd (gl.mono l) fun h'' l''=>⟨_,rfl,rfl,Heap.le_trans l l''⟩
 have aw2:∀ h',h.le h'->FCall prog U2 #[] h' (fun r hp=>∃ t,r= .bool t/\Heap.le h' hp/\B4q h (.bool t) hp):=fun h' l=>Sd (gl.mono l) fun h'' l''=>⟨_,rfl,l'',rfl,Heap.le_trans l l''⟩
 have aw0:=aw h (B0 _)
 refine B4 (fun _=>aw0) (fun b1=>B4 (fun _=>aw0) (fun b2=>?_))
 refine ⟨fun L hp=>∃ k:Nat,k<=n/\L=[I (k:Int)]/\hp=h/\∀ a,a<k->wl a<=70/\∀ b,b<wl a->(f a b).length<=40,fun L _=>n-(iAt L 0).toNat,⟨0,by omega,rfl,rfl,fun a ha=>by omega⟩,?_⟩
 rintro z hp ⟨k,hk,eL,rfl,hh⟩
 obtain rfl:=sI1 eL
 refine B4 (fun hlt=>?_) (fun hge=>?_)
 ·have hkn:k<n:=by omega
  obtain ⟨a,s,ea,e1,hc,row⟩:=rs.at hkn
  refine ⟨a,ea,by omega,by omega,_,_,_,hc,?_⟩
  rw [e1]
  refine B4 (fun _=>aw0) (fun b3=>?_)
  refine ⟨a,ea,by omega,by omega,_,_,_,hc,?_⟩
  rw [e1]
  refine A02 row (by omega) (fun hsh=>⟨_,rfl,Br.nt ?_⟩) (fun _=>⟨_,rfl,A8t aw0⟩)
  rw [wiS k (by omega)]
  refine ⟨⟨k+1,by omega,rfl,rfl,fun a ha=>?_⟩,by simp only [Hf];omega⟩
  by_cases e:a=k
  ·subst e
   exact ⟨by omega,fun b hb=>by have:=hsh b hb;omega⟩
  ·exact hh a (by omega)
 have hkn:k=n:=by omega
 subst hkn
 have hw:∀ a,a<k->wl a<=70:=fun a ha=>(hh a ha).1
 have hf:∀ a b,a<k->b<wl a->(f a b).length<=40:=fun a b ha hb=>(hh a ha).2 b hb
 refine A5w gl rs (by omega) hw hf ?_
 intro o1 ho1 A1 c1 h1 l1 r1
 refine ⟨_,_,_,_,_,_,rfl,?_⟩
 refine A6b (rs.mono l1) (by omega) hw hf ?_
 intro p1 hp1 A2 c2 h2 l2 r2
 obtain rfl:=ho1.eq hp1
 refine ⟨_,_,_,_,_,_,rfl,?_⟩
 have l02:=Heap.le_trans l1 l2
 refine Wp ?_
 intro o3 ho3 A3 c3 h3 l3 r3
 refine ⟨_,_,_,_,_,_,rfl,?_⟩
 have l03:=Heap.le_trans l02 l3
 refine Xb ?_
 intro p3 hp3 A4 c4 h4 l4 r4
 obtain rfl:=ho3.eq hp3
 refine ⟨_,_,_,_,_,_,rfl,?_⟩
 have l04:=Heap.le_trans l03 l4
 refine Gr (r1.mono V6 (Heap.le_trans l2 (Heap.le_trans l3 l4))) (r2.mono V6 (Heap.le_trans l3 l4)) (by have:=ho1.n_le;omega) (fun _ _ _ _=>⟨_,rfl,B0 _,A8s ?_⟩) (fun hno=>absurd ⟨rfl,rfl,rfl,fun _ _=>rfl⟩ hno)
 refine D8 (fun _=>?_) (fun e=>absurd rfl e)
 refine Gr (r3.mono V6 l4) r4 (by have:=ho3.n_le;omega) (fun _ _ _ _=>⟨_,rfl,B0 _,A8s ?_⟩) (fun hno=>absurd ⟨rfl,rfl,rfl,fun _ _=>rfl⟩ hno)
 refine D8 (fun _=>?_) (fun e=>absurd rfl e)
 have hn2:n2<=1000000:=by omega
 have tail:∀ h5,h4.le h5->FCall prog B06 #[Kl r c B n2 cap2,I i,I j] h5 (fun r13 hp14=>∃ (t100:ByteArray),r13= .string t100/\Heap.le h5 hp14/\FCall prog B07 #[Kl r c B n2 cap2,I i,I j] hp14 (fun r14 hp15=>∃ (t104:ByteArray),r14= .string t104/\Heap.le hp14 hp15/\Br (B95 t100==B95 t104) (FCall prog U2 #[] hp15 (fun r15 hp16=>∃ (t108:Bool),r15= .bool t108/\Heap.le hp15 hp16/\B4q hp (.bool t108) hp16))
  (B4q hp (.bool false) hp15))):=by
  intro h5 l5
  have l05:=Heap.le_trans l04 l5
  refine A5y (gl.mono l05) (s2.mono V6 l05) hn2 hl ?_
  intro s hs
  refine ⟨_,rfl,B0 _,?_⟩
  refine A6h (s2.mono V6 l05) hn2 hl ?_
  intro t ht h6 l6
  obtain rfl:=hs.eq ht
  refine ⟨_,rfl,l6,?_⟩
  rw [show (B95 (bs s)==B95 (bs s))=true from beq_self_eq_true _]
  exact A8s (aw2 h6 (Heap.le_trans l05 l6))
 refine Hb (gl.mono l04) (s2.mono V6 l04) hn2 hl (fun hx=>⟨_,rfl,B0 _,?_⟩) (fun hx=>⟨_,rfl,B0 _,?_⟩)
 ·refine Cy (s2.mono V6 l04) hn2 hl (fun _ h5 l5=>⟨_,rfl,l5,A8s (tail h5 l5)⟩) (fun hno=>absurd hx hno)
 ·refine Cy (s2.mono V6 l04) hn2 hl (fun hno=>absurd hno hx) (fun _ h5 l5=>⟨_,rfl,l5,A8s (tail h5 l5)⟩)
end
end Go.Proofs.YtajkakhfcokljaaGreatDoor
namespace Go.Proofs.YtajkakhfcokljaaGreatDoor
set_option maxRecDepth 20000
open Go Go.RowKit
theorem B1z(s:ByteArray):bs s.data.toList=s:=by
 cases s;simp [bs]
theorem A5m{H:Type}{enc:TypeId × Value->H}{P:Program}{W:World}{base:Nat}{sp:Nat->Bool}{held:Bool}{t e:TypeId}{fuel:Nat}{A:Option Addr}{len cap:Nat}{x:DataW H × List MemPlace}(ht:P.underlying t=some (.slice e))(he:P.underlying e=some .string)(hc:P.cellsOf e=1)
 (hf:DataW.trod enc P W base sp held fuel t [.slice A len cap]=some x):∃ ls:Nat->List UInt8,RowV SSr (memOf W) A len ls/\len<=maxLen:=by
 rcases Deep.open_strs ht he hc hf with ⟨hcs,_⟩|⟨a,l,c,m,Sx,hcs,_,hl,hm,hmm,_,hcell⟩
 ·simp at hcs
  obtain ⟨rfl,rfl,rfl⟩:=hcs
  exact ⟨fun _=>[],RowV.nil,B9g _⟩
 ·simp at hcs
  obtain ⟨rfl,rfl,rfl⟩:=hcs
  have hlm:len<=m:=by rw [hmm];split<;>omega
  have sl:SlV (memOf W) (some a) (((B93 len).map fun i=>(Sx i).data.toList).map fun l=>B8u (bs l)):=by
   refine .inr ⟨a,rfl,fun i v hv=>?_⟩
   rw [B8y,B8y] at hv
   by_cases hi:i<len
   ·rw [B9k hi] at hv
    simp only [B9q,B98,B1z] at hv
    rw [<- hv]
    exact Cb (hcell i (by omega)).1
   ·rw [B8z (by simpa using hi)] at hv;cases hv
  have:=Bv sl
  rw [B9u,B9m] at this
  exact ⟨_,this,by omega⟩
end Go.Proofs.YtajkakhfcokljaaGreatDoor
namespace Go.Proofs.YtajkakhfcokljaaGreatDoor
set_option maxRecDepth 20000
open Go Go.RowKit
theorem A2a{H:Type}{d:DataW H}: ∀ {l:List (DataW H)},d∈l->Rows.uptoBulk d<=Rows.uptoBulkAll l:=by
 intro l
 induction l with
 | nil=>intro h;cases h
 | cons x l ih=>
  intro h
  rw [Rows.uptoBulkAll]
  rcases List.mem_cons.1 h with rfl|h
  ·omega
  ·have:=ih h;omega
theorem A5n{H:Type}{enc:TypeId × Value->H}{P:Program}{W:World}{base:Nat}{sp:Nat->Bool}{held:Bool}{t e:TypeId}{fuel:Nat}{A:Option Addr}{len cap:Nat}{x:DataW H × List MemPlace}(ht:P.underlying t=some (.slice e))(he:P.underlying e=some .string)(hc:P.cellsOf e=1)
 (hf:DataW.trod enc P W base sp held fuel t [.slice A len cap]=some x):∃ ls:Nat->List UInt8,RowV SSr (memOf W) A len ls/\∀ i,i<len->(ls i).length<=Rows.uptoBulk x.1:=by
 rcases Deep.open_strs ht he hc hf with ⟨hcs,_⟩|⟨a,l,c,m,Sx,hcs,_,hl,hm,hmm,hx,hcell⟩
 ·simp at hcs
  obtain ⟨rfl,rfl,rfl⟩:=hcs
  exact ⟨fun _=>[],RowV.nil,fun i hi=>by omega⟩
 ·simp at hcs
  obtain ⟨rfl,rfl,rfl⟩:=hcs
  have hlm:len<=m:=by rw [hmm];split<;>omega
  have sl:SlV (memOf W) (some a) (((B93 len).map fun i=>(Sx i).data.toList).map fun l=>B8u (bs l)):=by
   refine .inr ⟨a,rfl,fun i v hv=>?_⟩
   rw [B8y,B8y] at hv
   by_cases hi:i<len
   ·rw [B9k hi] at hv
    simp only [B9q,B98,B1z] at hv
    rw [<- hv]
    exact Cb (hcell i (by omega)).1
   ·rw [B8z (by simpa using hi)] at hv;cases hv
  have:=Bv sl
  rw [B9u,B9m] at this
  refine ⟨_,this,fun i hi=>?_⟩
  have e1:((B93 len).map fun i=>(Sx i).data.toList).getD i []=(Sx i).data.toList:=by simp [hi]
  rw [e1,hx]
  have hmem:(DataW.lit (.string (Sx i).data.toList):DataW H)∈(B93 len).map fun i=>(DataW.lit (.string (Sx i).data.toList):DataW H):=List.mem_map.2 ⟨i,List.mem_range.2 hi,rfl⟩
  have hb:=A2a hmem
  rw [Rows.uptoBulk] at hb
  show _<=Rows.uptoBulk (.slice _ _)
  rw [Rows.uptoBulk]
  omega
theorem open_rows{H:Type}{enc:TypeId × Value->H}{P:Program}{W:World}{base:Nat}{sp:Nat->Bool}{held:Bool}{t e1 e:TypeId}{fuel:Nat}{A:Option Addr}{len cap:Nat}{x:DataW H × List MemPlace}(ht:P.underlying t=some (.slice e1))(h1:P.underlying e1=some (.slice e))(he:P.underlying e=some .string)(hc1:P.cellsOf e1=1)(hc:P.cellsOf e=1)
 (hf:DataW.trod enc P W base sp held fuel t [.slice A len cap]=some x):∃ (wl:Nat->Nat) (f:Nat->Nat->List UInt8),RowsS (memOf W) A len wl f:=by
 rcases Deep.open_slice1 ht hc1 hf with ⟨hcs,_⟩|⟨a,l,c,m,n,V,D,Pl,hcs,_,hl,hm,hmm,_,hcell⟩
 ·simp at hcs
  obtain ⟨rfl,rfl,rfl⟩:=hcs
  exact ⟨fun _=>0,fun _ _=>[],[],SlF.nil,rfl,fun i hi=>by omega⟩
 ·simp at hcs
  obtain ⟨rfl,rfl,rfl⟩:=hcs
  have hlm:len<=m:=by rw [hmm];split<;>omega
  have each:∀ i,i<len->∃ s:HV,V i= .slice s.A s.n s.c:=by
   intro i hi
   rcases Deep.open_strs h1 he hc (hcell i (by omega)).2 with ⟨hcs,_⟩|⟨a,l,c,m,Sx,hcs,_⟩
   ·simp at hcs;exact ⟨⟨none,0,0⟩,hcs⟩
   ·simp at hcs;exact ⟨⟨some a,l,c⟩,hcs⟩
  let hv:Nat->HV:=fun i=>if h:i<len then Classical.choose (each i h) else ⟨none,0,0⟩
  have ehv:∀ i,i<len->V i= .slice (hv i).A (hv i).n (hv i).c:=by
   intro i hi
   have:hv i=Classical.choose (each i hi):=dif_pos hi
   rw [this]
   exact Classical.choose_spec (each i hi)
  have row:∀ i,i<len->∃ ls:Nat->List UInt8,RowV SSr (memOf W) (hv i).A (hv i).n ls:=by
   intro i hi
   have h2:=(hcell i (by omega)).2
   rw [ehv i hi] at h2
   obtain ⟨ls,r,_⟩:=A5m h1 he hc h2
   exact ⟨ls,r⟩
  let f:Nat->Nat->List UInt8:=fun i=>if h:i<len then Classical.choose (row i h) else fun _=>[]
  have ef:∀ i,i<len->RowV SSr (memOf W) (hv i).A (hv i).n (f i):=by
   intro i hi
   have:f i=Classical.choose (row i hi):=dif_pos hi
   rw [this]
   exact Classical.choose_spec (row i hi)
  refine ⟨fun i=>(hv i).n,f,(B93 len).map hv,?_,by simp,fun i hi=>⟨hv i,by simp [hi],rfl,ef i hi⟩⟩
  have efl:((B93 len).map hv).flatMap Go.Proofs.YtajkakhfcokljaaGreatDoor.enc=(B93 len).map fun i=>Value.slice (hv i).A (hv i).n (hv i).c:=by
   have h0:∀ l:List HV,l.flatMap Go.Proofs.YtajkakhfcokljaaGreatDoor.enc=l.map fun s=>Value.slice s.A s.n s.c:=by
    intro l
    induction l with
    | nil=>rfl
    | cons x l ih=>rw [List.flatMap_cons,ih];rfl
   rw [h0,List.map_map]
   rfl
  show SlV (memOf W) (some a) (((B93 len).map hv).flatMap Go.Proofs.YtajkakhfcokljaaGreatDoor.enc)
  rw [efl]
  refine .inr ⟨a,rfl,fun i v hv'=>?_⟩
  rw [B8y] at hv'
  by_cases hi:i<len
  ·rw [B9k hi] at hv'
   simp only [B9q,B98] at hv'
   rw [<- hv',<- ehv i hi]
   exact Cb (hcell i (by omega)).1
  ·rw [B8z (by simpa using hi)] at hv';cases hv'
theorem open_matB{H:Type}{enc:TypeId × Value->H}{P:Program}{W:World}{base:Nat}{sp:Nat->Bool}{held:Bool}{r:Reach}{b0:Nat}{t e:TypeId}{f0 f1 f2:Field}{v:Value}{d:DataW H}{ps:List MemPlace}(ht:P.underlying t=some (.struct #[f0,f1,f2]))(u0:P.underlying f0.type=some (.int .i64))(u1:P.underlying f1.type=some (.int .i64))(u2:P.underlying f2.type=some (.slice e))(ue:P.underlying e=some .string)
 (hoff:f0.offset=0/\f1.offset=1/\f2.offset=2/\P.cellsOf f0.type=1/\P.cellsOf f1.type=1/\P.cellsOf f2.type=1/\P.cellsOf t=3/\P.cellsOf e=1)
 (hval:Value.okWide P W r b0 t v) (hd:DataW.Trod enc P W base sp held t v d ps):∃ (x y:Int) (A:Option Addr) (len cap:Nat) (ls:Nat->List UInt8),v= .agg #[.int .i64 x,.int .i64 y,.slice A len cap]/\RowV SSr (memOf W) A len ls/\∀ i,i<len->(ls i).length<=Rows.uptoBulk d:=by
 obtain ⟨o0,o1,o2,c0,c1,c2,ct,ce⟩:=hoff
 obtain ⟨cs,rfl,hcs⟩:=WideShapes.okWide_struct ht hval
 obtain ⟨fuel,hf⟩:=hd
 obtain ⟨y0,y1,y2,n,hx,hl,g0,g1,g2⟩:=Deep.trod_struct3 ht hf
 rw [o0,c0] at g0
 rw [o1,c1] at g1
 rw [o2,c2] at g2
 obtain ⟨s0,e0,_,_⟩:=DataW.trod_int u0 g0
 obtain ⟨s1,e1,_,_⟩:=DataW.trod_int u1 g1
 rw [ct] at hcs
 have hlen:cs.toList.length=3:=by simpa using hcs
 obtain ⟨p,q,z,hm⟩:∃ p q z,cs.toList=[p,q,z]:=by
  match h:cs.toList,hlen with
  | [p,q,z],_=>exact ⟨p,q,z,rfl⟩
 simp only [Value.cells] at e0 e1 g2
 rw [hm] at e0 e1 g2
 simp at e0 e1 g2
 have hA:∃ A len cap,z= .slice A len cap:=by
  rcases Deep.open_strs u2 ue ce g2 with ⟨hcs,_⟩|⟨a,l,c,m,Sx,hcs,_⟩
  ·simp at hcs;exact ⟨_,_,_,hcs⟩
  ·simp at hcs;exact ⟨_,_,_,hcs⟩
 obtain ⟨A,len,cap,rfl⟩:=hA
 obtain ⟨ls,hr,hml⟩:=A5n u2 ue ce g2
 have:cs=#[.int .i64 s0,.int .i64 s1,.slice A len cap]:=by rw [<- Array.toArray_toList (xs:=cs),hm,e0,e1]
 refine ⟨s0,s1,A,len,cap,ls,by rw [this],hr,fun i hi=>?_⟩
 have hd:d= .agg [y0.1,y1.1,y2.1]:=congrArg Prod.fst hx
 have h1:=hml i hi
 have h2:Rows.uptoBulk y2.1<=Rows.uptoBulkAll [y0.1,y1.1,y2.1]:=A2a (by simp)
 rw [hd,Rows.uptoBulk]
 omega
end Go.Proofs.YtajkakhfcokljaaGreatDoor
