/- A part. -/
import Derived.Test.YtmbfcbbkbefgfaaGreatDoorG29
import Derived.Test.YtmbfcbbkbefgfaaGreatDoorG30
import Derived.Deep.Strs
open Go.Proofs.Tryz
set_option linter.all false
open _root_.Go.Addr renaming add->aR
open _root_.Go.Addr.mk renaming injEq->bI
open _root_.Go.Builtin renaming append_->bB
open Int renaming toNat_natCast->aK,natAbs_natCast->aO,sign_eq_zero_iff_zero->bG
open List renaming range->aC,length_append->aH,length_set->aN,mem_append->aZ,replicate->bD,mem_range->bF,getElem?_eq_getElem->bH,mem_map->bK
open Nat renaming mul_le_mul_right->aD,le_refl->aE,le_mul_of_pos_left->aF,not_lt_zero->aM,lt_irrefl->aU,le_trans->aV,pow_pos->aX,mul_le_mul->bC,mul_comm->bJ
open Option.some renaming injEq->aP,inj->aT
open _root_.Go renaming Addr->aQ,TypeId->aY
open _root_.Go.Proofs.YtmbfcbbkbefgfaaGreatDoor renaming RowV->aG,Heap->aI,IsNum->aJ,FCall->aL,OwnSl->aS,RowsV->aW
namespace Go.Proofs.YtmbfcbbkbefgfaaGreatDoor
set_option maxRecDepth 20000
open Go
def A62{q:Rat}:q.num.sign<0↔q<0:=by rw [Int.sign_neg_iff,Rat.lt_iff];simp
def A63{q:Rat}:0<q.num.sign↔0<q:=by rw [Int.sign_pos_iff,Rat.lt_iff];simp
def A0c{q:Rat}:q.num.sign<=0↔q<=0:=by rw [<- Rat.not_lt,<- A63];omega
def B1v(z:Int):Hl z=I9 (z:Rat):=by rw [A02 (by simp),Rat.num_intCast]
def B2a{m:Nat}{q:Rat}{f:Int}(h:Sz m q)(h1:(f:Rat)<q)(h2:q<f+1):Sz m (q-f)/\Sz m (q-f)⁻¹:=by
 obtain ⟨a,b,c,_⟩:=Ir h1 h2
 obtain ⟨d,e⟩:=A08 q f
 have g:=h.den
 refine ⟨⟨?_,by rw [e];exact g⟩,⟨by rw [a];exact g,?_⟩⟩
 ·rw [d,<- b];exact g.le (by rw [aO,aO];omega)
 ·exact g.le (by rw [aO,aO];omega)
def B7g{m:Nat}{q:Rat}(h:Sz m q)(hm:1<=m):Sz m (q.floor:Rat):=Sz.int (Tl h) hm
def C1s{m:Nat}{q:Rat}(h:Sz m q):ZB m q.ceil:=by
 rw [Rat.ceil_eq_neg_floor_neg];exact (Tl h.neg).neg
def C1t{m:Nat}{q:Rat}(h:Sz m q)(hm:1<=m):Sz m (q.ceil:Rat):=Sz.int (C1s h) hm
section
variable {h:aI} {K:VP} {m:Nat} {a b w:QV} {p q:Rat}
def Bu(gl:Gl h)(hq:Sz m q)(hm1:1<=m)(hm:m<=283)(h0:q≠0)(hK:K (.string (bs (I9 q⁻¹))) h):aL prog Ce #[.string (bs (I9 q))] h K:=by
 refine A7r _ ?_
 unfold A9m
 have b:I9 1=[49]:=by simp [I9,Hl,N8,T6,I8,dch]
 show aL _ _ #[.string (bs [49]),_] _ _
 rw [<- b]
 refine B21 gl (Tx.of (Sz.int (z:=1) (ZB.one hm1) hm1) (by omega)) (Tx.of hq (by omega)) hm1 (by omega) ?_ ?_
 ·intro _
  rw [D9,D9,Rat.div_def]
  refine ⟨_,_,rfl,?_⟩
  have a:((1:Int):Rat)*q⁻¹=q⁻¹:=by rw [Rat.intCast_one,Rat.one_mul]
  first
  | (rw [a];exact hK)
  | (rw [Rat.one_mul];exact hK)
 ·intro e;rw [D9] at e;exact absurd e h0
def Ou:∀ n (lo hi:Rat) (h:aI) (K:VP),lo.den+hi.den<=n->Gl h->0<lo->lo<=hi->Sz m lo->Sz m hi->1<=m->m<=280->K (.string (bs (I9 (Hk lo hi)))) h->aL prog X9 #[.string (bs (I9 lo)),.string (bs (I9 hi))] h K:=by
 intro n
 induction n with
 | zero=>intro lo hi h K D;have:=lo.den_nz;omega
 | succ n ih=>
  intro lo hi h K D b A d sl u a C k
  have z:0<hi:=Std.lt_of_lt_of_le A d
  have i:=Tx.of sl (by omega)
  have p:=Tx.of u (by omega)
  refine Jj _ _ ?_
  unfold Pn
  refine Ca b p.len ⟨_,rfl,B6 (fun e=>?_) (fun _=>?_)⟩
  ·rw [D9,A62] at e;exfalso;grind
  refine Ca b i.len ⟨_,rfl,B6 (fun e=>?_) (fun _=>?_)⟩
  ·rw [D9,A0c] at e;exfalso;grind
  refine A9t b i (by omega) ⟨_,rfl,?_⟩
  rw [D9,B1v]
  refine Nb b (Tx.of (C1t sl a) (by omega)) p (by omega) ⟨_,rfl,B6 (fun e=>?_) (fun e=>?_)⟩
  ·rw [D9,D9,B4d] at e
   rw [Ul e] at k
   exact k
  ·rw [D9,D9,B4d] at e
   obtain ⟨j,l,o⟩:=B33 (fun x=>x.elim e (fun y=>y d))
   rw [Pz e d] at k
   refine A5v b i (by omega) ⟨_,rfl,?_⟩
   rw [D9,B1v]
   have B:=B7g sl a
   have q:=Tx.of B (by omega)
   obtain ⟨t,r⟩:=B2a sl j (Std.lt_of_le_of_lt l o)
   obtain ⟨s,g⟩:=B2a u (Std.lt_of_lt_of_le j l) o
   obtain ⟨_,_,G,H⟩:=Ir j (Std.lt_of_le_of_lt l o)
   obtain ⟨_,_,J,F⟩:=Ir (Std.lt_of_lt_of_le j l) o
   refine Uf b p q (by omega) ⟨_,rfl,?_⟩
   rw [D9,D9]
   refine Bu b s a (by omega) (by grind) ⟨_,rfl,?_⟩
   refine Uf b i q (by omega) ⟨_,rfl,?_⟩
   rw [D9,D9]
   refine Bu b t a (by omega) (by grind) ⟨_,rfl,?_⟩
   have c:(hi-lo.floor)⁻¹<=(lo-lo.floor)⁻¹:=Cc (by grind) (by grind)
   have f:0<(hi-lo.floor)⁻¹:=by grind
   refine ih _ _ _ _ (by omega) b f c g r a C ⟨_,rfl,?_⟩
   have w:=A84 f c g
   have E:=(B6y f c).1
   generalize Hk (hi-lo.floor)⁻¹ (lo-lo.floor)⁻¹=x at *
   refine Bu b w a (by omega) (by grind) ⟨_,rfl,?_⟩
   refine A2z b q (Tx.of (w.inv a) (by omega)) (by omega) ⟨_,rfl,?_⟩
   rw [D9,D9];exact k
def Xl{lo hi:Rat}(gl:Gl h)(hle:lo<=hi)(sl:Sz m lo)(sh:Sz m hi)(hm1:1<=m)(hm:m<=280)(hK:K (.string (bs (I9 (B2c lo hi)))) h):aL prog X9 #[.string (bs (I9 lo)),.string (bs (I9 hi))] h K:=by
 unfold B2c at hK
 have g:=Tx.of sl (by omega)
 have f:=Tx.of sh (by omega)
 by_cases a:hi<0
 ·rw [iP a] at hK
  refine Jj _ _ ?_
  unfold Pn
  refine Ca gl f.len ⟨_,rfl,B6 (fun _=>?_) (fun e=>?_)⟩
  ·refine Ug gl f.len ⟨_,rfl,Ug gl g.len ⟨_,rfl,?_⟩⟩
   rw [D9,D9]
   have d:0 < -hi:=by grind
   have c: -hi <= -lo:=by grind
   refine Ou _ _ _ _ _ (aE _) gl d c sh.neg sl.neg hm1 hm ⟨_,rfl,?_⟩
   have i:=A84 d c sh.neg
   refine Ug gl (Tx.of i (by omega)).len ⟨_,rfl,?_⟩
   rw [D9];exact hK
  ·rw [D9,A62] at e;exact absurd a e
 ·rw [iN a] at hK
  by_cases b:lo<=0
  ·rw [iP b,B1u] at hK
   refine Jj _ _ ?_
   unfold Pn
   refine Ca gl f.len ⟨_,rfl,B6 (fun e=>?_) (fun _=>?_)⟩
   ·rw [D9,A62] at e;exact absurd e a
   refine Ca gl g.len ⟨_,rfl,B6 (fun _=>hK) (fun e=>?_)⟩
   rw [D9,A0c] at e;exact absurd b e
  ·rw [iN b] at hK
   exact Ou _ _ _ _ _ (aE _) gl (Rat.not_le.1 b) hle sl sh hm1 hm hK
def Vo{x y:List UInt8}(gl:Gl h)(hx:x.length<=570)(hy:y.length<=570)(sx:Sz m (rv x))(sy:Sz m (rv y))(hm1:1<=m)(hm:m<=280)(hK:∀ (r:List UInt8) (e:Int),(¬ (aJ x/\aJ y)->r=[]/\e=1)->(aJ x->aJ y->rv y<rv x->r=[]/\e=3)->(aJ x->aJ y->rv x<=rv y->r=I9 (B2c (rv x) (rv y))/\e=0)->K (.tuple #[.string (bs r),I e]) h):aL prog In #[.string (bs x),.string (bs y)] h K:=by
 refine A2e _ _ ?_
 unfold Zw
 refine ⟨fun L l=>l=h/\∃ t:Bool,L=[.bool t]/\(t=true ↔ ¬ (aJ x/\aJ y)),By gl (by omega) (fun e=>?_) (fun e=>?_),?_⟩
 ·refine ⟨_,rfl,O9 (By gl (by omega) (fun i=>?_) (fun i=>?_))⟩
  ·exact ⟨_,rfl,rfl,false,rfl,by simp [e,i]⟩
  ·exact ⟨_,rfl,rfl,true,rfl,by simp [i]⟩
 ·exact ⟨_,rfl,O9 ⟨rfl,true,rfl,by simp [e]⟩⟩
 rintro f n ⟨rfl,t,q,j⟩
 obtain rfl:f=t:=by simpa using q
 refine Br.of (fun e=>?_) (fun e=>?_)
 ·have:=j.1 e
  exact hK [] 1 (fun _=>⟨rfl,rfl⟩) (fun a b=>absurd ⟨a,b⟩ this) (fun a b=>absurd ⟨a,b⟩ this)
 ·have c:aJ x/\aJ y:=by
   apply Classical.byContradiction
   intro o
   rw [j.2 o] at e;cases e
  refine Nb gl ⟨by omega,sy⟩ ⟨by omega,sx⟩ (by omega) ⟨_,rfl,B6 (fun d=>?_) (fun d=>?_)⟩
  ·rw [B4c] at d
   exact hK [] 3 (fun a=>absurd c a) (fun _ _ _=>⟨rfl,rfl⟩) (fun _ _ a=>absurd d (Rat.not_lt.2 a))
  ·rw [B4c,Rat.not_lt] at d
   have ex:=B1s c.1
   have k:=B1s c.2
   have key:=Xl (K:=fun p g=>∃ (t20:ByteArray),p= .string t20/\K (.tuple #[.string t20,I (0:Int)]) g) gl d sx sy hm1 hm ⟨_,rfl,hK _ 0 (fun a=>absurd c a) (fun _ _ a=>absurd a (Rat.not_lt.2 d)) (fun _ _ _=>⟨rfl,rfl⟩)⟩
   rw [ex,k] at key
   exact key
end
def B0b:B2c (mkRat 3 10) (mkRat 2 5)=mkRat 1 3:=by
 unfold B2c
 rw [iN (by decide +kernel),iN (by decide +kernel),Pz (by decide +kernel) (by decide +kernel)]
 have c:(mkRat 3 10).floor=0:=by decide +kernel
 have a:(mkRat 2 5-((0:Int):Rat))⁻¹=mkRat 5 2:=by decide +kernel
 have b:(mkRat 3 10-((0:Int):Rat))⁻¹=mkRat 10 3:=by decide +kernel
 rw [c,a,b,Ul (by decide +kernel)]
 decide +kernel
def B8x:I9 (mkRat 3 10)=[51,47,49,48]:=by
 have b:(mkRat 3 10).num=3:=by decide +kernel
 have a:(mkRat 3 10).den=10:=by decide +kernel
 simp [I9,Hl,b,a,N8,T6,I8,dch]
def C2z:I9 (mkRat 2 5)=[50,47,53]:=by
 have b:(mkRat 2 5).num=2:=by decide +kernel
 have a:(mkRat 2 5).den=5:=by decide +kernel
 simp [I9,Hl,b,a,N8,T6,I8,dch]
def C51:I9 (mkRat 1 3)=[49,47,51]:=by
 have b:(mkRat 1 3).num=1:=by decide +kernel
 have a:(mkRat 1 3).den=3:=by decide +kernel
 simp [I9,Hl,b,a,N8,T6,I8,dch]
section
variable {h:aI} {K:VP} {x y:List UInt8}
def Yr(gl:Gl h)(hK:K (.bool true) h):aL prog Gk #[] h K:=by
 refine B60 ?_
 unfold C09
 show aL _ _ #[.string (bs [51,47,49,48]),.string (bs [50,47,53])] _ _
 rw [<- B8x,<- C2z]
 have b:Sz 8 (rv (I9 (mkRat 3 10))):=by rw [D9];exact ⟨by unfold ZB;decide +kernel,by unfold ZB;decide +kernel⟩
 have c:Sz 8 (rv (I9 (mkRat 2 5))):=by rw [D9];exact ⟨by unfold ZB;decide +kernel,by unfold ZB;decide +kernel⟩
 refine Vo gl (by rw [B8x];decide) (by rw [C2z];decide) b c (by decide) (by decide) ?_
 intro r e _ _ d
 have a:rv (I9 (mkRat 3 10))<=rv (I9 (mkRat 2 5)):=by rw [D9,D9];decide +kernel
 obtain ⟨rfl,rfl⟩:=d ⟨_,rfl⟩ ⟨_,rfl⟩ a
 rw [D9,D9,B0b,C51]
 refine ⟨_,_,rfl,D8 (fun _=>?_) (fun e=>absurd rfl e)⟩
 have:((bs [49,47,51]).toList==({ data:=#[49,47,51] }:ByteArray).toList)=true:=by rw [show ({ data:=#[49,47,51] }:ByteArray)=bs [49,47,51] from rfl,Kn];simp
 rw [this];exact hK
end
section
variable {h:aI} {K:VP} {A B:Option aQ} {n m a b:Nat} {ls ls2:Nat->List UInt8}
def Us{k:Int}(r:aG SSr h A n ls)(hn:n<=1000000000)(hK1:(∀ i,i<n->((ls i).length:Int)<=k)->K (.bool true) h)(hK0:¬ (∀ i,i<n->((ls i).length:Int)<=k)->K (.bool false) h):aL prog Tp #[I k,.slice A n a] h K:=by
 refine B5g _ _ _ _ ?_
 unfold B9z
 refine ⟨fun L c=>∃ i:Nat,i<=n/\L=[I (i:Int)]/\c=h/\∀ j,j<i->((ls j).length:Int)<=k,fun L _=>n-(iAt L 0).toNat,⟨0,by omega,rfl,rfl,fun j f=>by omega⟩,?_⟩
 rintro z c ⟨i,s,o,rfl,d⟩
 obtain rfl:=sI1 o
 refine B6 (fun q=>?_) (fun m=>?_)
 ·have b:i<n:=by omega
  obtain ⟨x,rfl,g⟩:=r.sat b
  refine ⟨x,rfl,by omega,by omega,_,g,?_⟩
  rw [H9]
  refine B6 (fun e=>hK0 fun l=>by have:=l i b;omega) (fun e=>?_)
  rw [wiS i (by omega)]
  refine ⟨⟨i+1,by omega,rfl,rfl,fun j f=>?_⟩,by simp only [Cd];omega⟩
  by_cases p:j=i
  ·subst p;omega
  ·exact d j (by omega)
 ·have:i=n:=by omega
  subst this
  exact hK1 d
def B2f(x:aG SSr h A n ls)(y:aG SSr h B m ls2)(hn:n<=1000000000)(hK1:n=m->(∀ i,i<n->ls i=ls2 i)->K (.bool true) h)(hK0:¬ (n=m/\∀ i,i<n->ls i=ls2 i)->K (.bool false) h):aL prog Dv #[.slice A n a,.slice B m b] h K:=by
 refine Xb _ _ _ _ _ _ ?_
 unfold So
 refine I3 (fun e=>hK0 fun d=>e (by omega)) (fun e=>?_)
 have e:n=m:=by omega
 subst e
 refine ⟨fun L f=>∃ i:Nat,i<=n/\L=[I (i:Int)]/\f=h/\∀ j,j<i->ls j=ls2 j,fun L _=>n-(iAt L 0).toNat,⟨0,by omega,rfl,rfl,fun j k=>by omega⟩,?_⟩
 rintro z f ⟨i,t,q,rfl,g⟩
 obtain rfl:=sI1 q
 refine B6 (fun s=>?_) (fun o=>?_)
 ·have c:i<n:=by omega
  obtain ⟨u,rfl,l⟩:=x.sat c
  obtain ⟨v,rfl,p⟩:=y.sat c
  refine ⟨u,rfl,by omega,by omega,_,l,v,rfl,by omega,by omega,_,p,?_⟩
  rw [Kn]
  refine O9 (B6 (fun e=>?_) (fun e=>hK0 fun d=>e (d.2 i c)))
  rw [wiS i (by omega)]
  refine ⟨⟨i+1,by omega,rfl,rfl,fun j k=>?_⟩,by simp only [Cd];omega⟩
  by_cases r:j=i
  ·subst r;exact e
  ·exact g j (by omega)
 ·have:i=n:=by omega
  subst this
  exact hK1 rfl g
end
def A0d(f:Nat->Rat):rvs (fun k=>I9 (f k))=f:=funext fun _=>D9 _
def A5j(r c:Int)(n:Nat)(la:Nat->List UInt8)(nb:Nat)(lb:Nat->List UInt8)(nx:Nat)(lx:Nat->List UInt8)(nw:Nat)(lw:Nat->List UInt8):Prop:=Mx r c n la/\(∀ i,i<nb->aJ (lb i))/\(∀ i,i<nx->aJ (lx i))/\∀ i,i<nw->aJ (lw i)
def PChk(r c:Int)(n:Nat)(la:Nat->List UInt8)(nb:Nat)(lb:Nat->List UInt8)(nx:Nat)(lx:Nat->List UInt8)(nw:Nat)(lw:Nat->List UInt8)(e:Int):Prop:=
 (¬ A5j r c n la nb lb nx lx nw lw/\e=1)\/(A5j r c n la nb lb nx lx nw lw/\¬ ((nb:Int)=r/\(nx:Int)=c/\(nw:Int)=c)/\e=4)\/
 (A5j r c n la nb lb nx lx nw lw/\((nb:Int)=r/\(nx:Int)=c/\(nw:Int)=c)/\(∃ i,i<nw/\rv (lw i)<=0)/\e=3)\/
 (A5j r c n la nb lb nx lx nw lw/\((nb:Int)=r/\(nx:Int)=c/\(nw:Int)=c)/\(∀ i,i<nw->0<rv (lw i))/\e=0)
def PChk.eq{r c:Int}{n:Nat}{la:Nat->List UInt8}{nb:Nat}{lb:Nat->List UInt8}{nx:Nat}{lx:Nat->List UInt8}{nw:Nat}{lw:Nat->List UInt8}{e f:Int}(x:PChk r c n la nb lb nx lx nw lw e)(y:PChk r c n la nb lb nx lx nw lw f):e=f:=by
 have g:(∃ i,i<nw/\rv (lw i)<=0)->(∀ i,i<nw->0<rv (lw i))->False:=fun ⟨i,j,l⟩ k=>by have:=k i j;grind
 rcases x with ⟨a,rfl⟩|⟨a,b,rfl⟩|⟨a,b,d,rfl⟩|⟨a,b,d,rfl⟩<;>rcases y with ⟨a',rfl⟩|⟨a',b',rfl⟩|⟨a',b',d',rfl⟩|⟨a',b',d',rfl⟩<;>first
 | rfl
 | exact absurd a' a
 | exact absurd a a'
 | exact absurd b' b
 | exact absurd b b'
 | exact (g d d').elim
 | exact (g d' d).elim
section
variable {h:aI} {K:VP}
def A1n{L:Option aQ}{lc:Nat}{hs:List HV}{fs:Nat->Nat->List UInt8}(gl:Gl h)(sl:SlF h L hs)(hr:∀ i (hi:i<hs.length),aG SSr h hs[i].A hs[i].n (fs i))(hlen:hs.length<=1000)(hn:∀ i (hi:i<hs.length),hs[i].n<=1000000)(hl:∀ i (hi:i<hs.length) j,j<hs[i].n->(fs i j).length<=100000000)
 (hK1:(∀ i (hi:i<hs.length) j,j<hs[i].n->aJ (fs i j))->K (.bool true) h) (hK0:¬ (∀ i (hi:i<hs.length) j,j<hs[i].n->aJ (fs i j))->K (.bool false) h):aL prog Qy #[.slice L hs.length lc] h K:=by
 refine A7q _ _ _ ?_
 unfold A9l
 refine ⟨fun q o=>∃ i:Nat,i<=hs.length/\q=[I (i:Int)]/\o=h/\∀ k (c:k<hs.length),k<i->∀ j,j<hs[k].n->aJ (fs k j),fun q _=>hs.length-(iAt q 0).toNat,⟨0,by omega,rfl,rfl,fun k _ c=>by omega⟩,?_⟩
 rintro z o ⟨i,hi,C,rfl,s⟩
 obtain rfl:=sI1 C
 refine B6 (fun J=>?_) (fun N=>hK1 fun k c=>s k c (by omega))
 have b:i<hs.length:=by omega
 obtain ⟨a,G,B⟩:=SlF.at (by decide) sl b
 have g:=B 0 _ rfl
 rw [Iw] at g
 refine ⟨a,G,by omega,by omega,_,_,_,g,?_⟩
 have D:=hn i b
 have row:=hr i b
 refine ⟨fun q m=>∃ j:Nat,j<=hs[i].n/\q=[I (j:Int)]/\m=o/\∀ k,k<j->aJ (fs i k),fun q _=>hs[i].n-(iAt q 0).toNat,⟨0,by omega,rfl,rfl,fun k c=>by omega⟩,?_⟩
 rintro O E ⟨j,Q,p,rfl,f⟩
 obtain rfl:=sI1 p
 refine B6 (fun w=>?_) (fun t=>?_)
 ·have d:j<hs[i].n:=by omega
  obtain ⟨u,H,r⟩:=row.sat d
  refine ⟨u,H,by omega,by omega,_,r,By gl (hl i b j d) (fun e=>⟨_,rfl,Br.nt ?_⟩) (fun e=>⟨_,rfl,Me (hK0 fun y=>e (y i b j d))⟩)⟩
  rw [wiS j (by omega)]
  refine ⟨⟨j+1,by omega,rfl,rfl,fun k c=>?_⟩,by simp only [Cd];omega⟩
  by_cases l:k=j
  ·rw [l];exact e
  ·exact f k (by omega)
 ·rw [wiS i (by omega)]
  refine ⟨⟨i+1,by omega,rfl,rfl,fun k c M=>?_⟩,by simp only [Cd];omega⟩
  by_cases l:k=i
  ·subst l
   exact fun F x=>f F (by omega)
  ·exact s k c (by omega)
variable {A B X W:Option aQ} {n nb nx nw cap bc xc wc:Nat} {r c:Int} {la lb lx lw:Nat->List UInt8}
def A6x(gl:Gl h)(ra:aG SSr h A n la)(rb:aG SSr h B nb lb)(rx:aG SSr h X nx lx)(rw':aG SSr h W nw lw)(hn:n<=1000000)(hnb:nb<=1000000)(hnx:nx<=1000000)(hnw:nw<=1000000)(hl:LL n la)(hlb:LL nb lb)(hlx:LL nx lx)(hlw:LL nw lw)
 (hK:∀ e h',h.le h'->PChk r c n la nb lb nx lx nw lw e->K (I e) h'):aL prog Ct #[Xh r c A n cap,.slice B nb bc,.slice X nx xc,.slice W nw wc] h K:=by
 refine Tf _ _ _ _ _ _ _ _ _ _ _ _ _ _ ?_
 unfold Po
 refine Uy gl ra hn hl (fun l=>⟨_,rfl,Br.nt ?_⟩) (fun l=>⟨_,rfl,Me (hK 1 h (B3 _) (.inl ⟨fun x=>l x.1,rfl⟩))⟩)
 refine Nv C31 (vs:=[.slice B nb bc,.slice X nx xc,.slice W nw wc]) (fun v p=>by simp at p;rcases p with rfl|rfl|rfl<;>rfl) rfl (show 3*1<=16777216 by decide) rfl ?_
 intro b G
 have sl:SlF (h.put b (.cells ([(⟨B,nb,bc⟩:HV),⟨X,nx,xc⟩,⟨W,nw,wc⟩].flatMap enc).toArray Fm)) (some ⟨b,0,none⟩) [(⟨B,nb,bc⟩:HV),⟨X,nx,xc⟩,⟨W,nw,wc⟩]:=Lu _ _ _ _
 have a:h.le (h.put b (.cells ([(⟨B,nb,bc⟩:HV),⟨X,nx,xc⟩,⟨W,nw,wc⟩].flatMap enc).toArray Fm)):=Heap.le_put _ G
 refine ⟨_,_,_,rfl,A1n (hs:=[(⟨B,nb,bc⟩:HV),⟨X,nx,xc⟩,⟨W,nw,wc⟩]) (fs:=fun i=>if i=0 then lb else if i=1 then lx else lw) (gl.mono a) sl (fun i d=>?_) (show 3<=1000 by decide) (fun i d=>?_) (fun i d=>?_) (fun j=>⟨_,rfl,Br.nt ?_⟩) (fun j=>⟨_,rfl,Me (hK 1 _ a (.inl ⟨fun y=>j fun i d=>?_,rfl⟩))⟩)⟩
 ·match i,d with
  | 0,_=>exact rb.mono K0 a
  | 1,_=>exact rx.mono K0 a
  | 2,_=>exact rw'.mono K0 a
 ·match i,d with
  | 0,_=>exact hnb
  | 1,_=>exact hnx
  | 2,_=>exact hnw
 ·match i,d with
  | 0,_=>exact hlb
  | 1,_=>exact hlx
  | 2,_=>exact hlw
 ·have val:A5j r c n la nb lb nx lx nw lw:=⟨l,j 0 (show 0<3 by decide),j 1 (show 1<3 by decide),j 2 (show 2<3 by decide)⟩
  have f:=fun e=>hK 4 _ a (.inr (.inl ⟨val,e,rfl⟩))
  refine I3 (fun e=>f fun x=>e x.1) (fun C=>I3 (fun e=>f fun x=>e x.2.1) (fun t=>I3 (fun e=>f fun x=>e x.2.2) (fun s=>?_)))
  refine ⟨fun q D=>∃ i:Nat,i<=nw/\q=[I (i:Int)]/\D=h.put b (.cells ([(⟨B,nb,bc⟩:HV),⟨X,nx,xc⟩,⟨W,nw,wc⟩].flatMap enc).toArray Fm)/\∀ k,k<i->0<rv (lw k),fun q _=>nw-(iAt q 0).toNat,⟨0,by omega,rfl,rfl,fun k o=>by omega⟩,?_⟩
  rintro z D ⟨i,d,E,rfl,w⟩
  obtain rfl:=sI1 E
  refine B6 (fun J=>?_) (fun L=>hK 0 _ a (.inr (.inr (.inr ⟨val,⟨C,t,s⟩,fun k o=>w k (by omega),rfl⟩))))
  have g:i<nw:=by omega
  obtain ⟨u,H,m⟩:=(rw'.mono K0 a).sat g
  refine ⟨u,H,by omega,by omega,_,m,Ca (gl.mono a) (hlw i g) ⟨_,rfl,B6 (fun e=>?_) (fun e=>?_)⟩⟩
  ·exact hK 3 _ a (.inr (.inr (.inl ⟨val,⟨C,t,s⟩,⟨i,g,A0c.1 e⟩,rfl⟩)))
  ·rw [wiS i (by omega)]
   refine ⟨⟨i+1,by omega,rfl,rfl,fun k o=>?_⟩,by simp only [Cd];omega⟩
   by_cases F:k=i
   ·rw [F]
    exact A63.1 (by omega)
   ·exact w k (by omega)
 ·match i,d with
  | 0,_=>exact y.2.1
  | 1,_=>exact y.2.2.1
  | 2,_=>exact y.2.2.2
end
def C3d(M:Nat->Nat->Rat)(w:Nat->Rat)(i j:Nat):prC M w i j=(w i)⁻¹*M j i:=by unfold prC;rw [Rat.div_def,Rat.mul_comm]
def lcT(rows:Nat)(M:Nat->Nat->Rat)(w:Nat->Rat):Nat->List UInt8:=fun k=>I9 (prC M w (k/rows) (k%rows))
def A6j{rows:Nat}(M:Nat->Nat->Rat)(w:Nat->Rat){i j:Nat}(hj:j<rows):mtx (rvs (lcT rows M w)) rows i j=prC M w i j:=by
 obtain ⟨a,b⟩:=dm1 (i:=i) hj
 show rv (I9 (prC M w ((i*rows+j)/rows) ((i*rows+j)%rows)))=_
 rw [D9,a,b]
def C18{rows cols:Nat}(hr:1<=rows)(la:Nat->List UInt8)(w:Nat->Rat):(fun k=>I9 (sm cols (fun j=>mtx (rvs la) cols (k/rows) j*mtx (rvs (lcT rows (mtx (rvs la) cols) w)) rows j (k%rows))))=fun k=>I9 (prE cols rows (mtx (rvs la) cols) w k):=by
 funext k
 refine congrArg I9 (D7 fun j _=>?_)
 rw [A6j _ _ (Nat.mod_lt k (by omega))]
section
variable {h:aI} {K:VP} {A B X W:Option aQ} {n nb nx nw cap bc xc wc s sx:Nat} {r c:Int} {la lb lx lw:Nat->List UInt8}
def A1m(gl:Gl h)(ra:aG SSr h A n la)(rb:aG SSr h B nb lb)(rx:aG SSr h X nx lx)(rw':aG SSr h W nw lw)(hn:n<=1000000)(hnb:nb<=1000000)(hnx:nx<=1000000)(hnw:nw<=1000000)(hl:LL n la)(hlb:LL nb lb)(hlx:LL nx lx)(hlw:LL nw lw)
 (hs1:1<=s) (hs283:s<=283) (hssx:s<=sx) (hs:∀ i,i<n->Sz s (rv (la i))) (hsw:∀ i,i<nw->Sz s (rv (lw i))) (hsb:∀ i,i<nb->Sz sx (rv (lb i))) (hsx:∀ i,i<nx->Sz sx (rv (lx i)))
 (hb:∀ rows cols,MOk r c n la rows cols->nb=rows->nx=cols->nw=cols->∃ se nq,(cols<=nq\/rows<=nq)/\2*s<=se/\1+cols*(2*(2*s)+1)<=se/\(∀ i,i<rows->Sz se (prR cols (mtx (rvs la) cols) (rvs lb) (rvs lx) i))/\2*(3^(nq+1)*bnd (rows+1) se)+1<=40000000/\7^(nq+1)*se<=40000000/\2*(1+cols*(2*sx+1)+2*sx)+14<=40000000/\2*(1+rows*(2*(7^nq*se)+1)+2*(7^nq*se)+sx)+14<=40000000)
 (hKe:∀ e h',h.le h'->PChk r c n la nb lb nx lx nw lw e->e≠0->K (.tuple #[.slice none 0 0,I e]) h')
 (hK8:∀ rows cols,MOk r c n la rows cols->PChk r c n la nb lb nx lx nw lw 0->nb=rows->nx=cols->nw=cols->¬ Gw (prE cols rows (mtx (rvs la) cols) (rvs lw)) (prR cols (mtx (rvs la) cols) (rvs lb) (rvs lx)) rows rows->∀ h',h.le h'->K (.tuple #[.slice none 0 0,I 8]) h')
 (hK0:∀ rows cols,MOk r c n la rows cols->PChk r c n la nb lb nx lx nw lw 0->nb=rows->nx=cols->nw=cols->Gw (prE cols rows (mtx (rvs la) cols) (rvs lw)) (prR cols (mtx (rvs la) cols) (rvs lb) (rvs lx)) rows rows->∀ A' c' h',h.le h'->aG SSr h' A' cols (fun i=>I9 (prZ rows (mtx (rvs la) cols) (rvs lw) (rvs lx) (A33 (prE cols rows (mtx (rvs la) cols) (rvs lw)) (prR cols (mtx (rvs la) cols) (rvs lb) (rvs lx)) rows rows) i))->K (.tuple #[.slice A' cols c',I 0]) h'):
 aL prog Qx #[Xh r c A n cap,.slice B nb bc,.slice X nx xc,.slice W nw wc] h K:=by
 refine A7p _ _ _ _ _ _ _ _ _ _ _ _ _ _ ?_
 unfold A9k
 refine A6x gl ra rb rx rw' hn hnb hnx hnw hl hlb hlx hlw ?_
 intro e h1 l1 ak
 refine ⟨_,rfl,I3 (fun he=>hKe e h1 l1 ak he) (fun he=>?_)⟩
 subst he
 have k0:A5j r c n la nb lb nx lx nw lw/\((nb:Int)=r/\(nx:Int)=c/\(nw:Int)=c)/\∀ i,i<nw->0<rv (lw i):=by
  rcases ak with ⟨_,e⟩|⟨_,_,e⟩|⟨_,_,_,e⟩|⟨a1,R,a3,_⟩
  ·exact absurd e (by decide)
  ·exact absurd e (by decide)
  ·exact absurd e (by decide)
  ·exact ⟨a1,R,a3⟩
 obtain ⟨⟨⟨rows,cols,mk⟩,vb,vx,vw⟩,⟨s1,s2,s3⟩,cx⟩:=k0
 obtain rfl:nb=rows:=by have:=mk.er;omega
 obtain rfl:nx=cols:=by have:=mk.ec;omega
 obtain rfl:nw=nx:=by omega
 obtain ⟨se,nq,q0,q1,q2,q3,q4,q5,q6,q7⟩:=hb nb nw mk rfl rfl rfl
 have al:=hK8 nb nw mk ak rfl rfl rfl
 have an:=hK0 nb nw mk ak rfl rfl rfl
 clear hb hK8 hK0 hKe ak s1 s2 s3
 have bn:=mk
 obtain ⟨rfl,rfl,r1,r2,c1,c2,rfl,dh⟩:=mk
 have hM:∀ i j,i<nb->j<nw->Sz s (mtx (rvs la) nw i j):=Rt hs
 have d2:nb*nw<=64*64:=bC r2 c2
 refine Va (gl.mono l1) (ra.mono K0 l1) hn hl (fun a d cc h2 A2 dq cz=>?_) (fun bp=>absurd ⟨_,_,bn⟩ bp)
 obtain rfl:a=nb:=by have:=cc.er;omega
 obtain rfl:d=nw:=by have:=cc.ec;omega
 refine ⟨_,_,_,_,_,_,rfl,I3 (fun e=>absurd rfl e) (fun _=>?_)⟩
 obtain ⟨g2,o2,ct,l2,co,ca,bm,cb⟩:=cz
 have dk:0<a*d:=Nat.mul_pos r1 c1
 obtain ⟨a0,rfl,bb⟩:=ca.rowB (by rintro rfl;simp at bm;omega)
 have b0:=Heap.le_trans l1 l2
 clear ca
 refine ⟨fun L hp=>∃ (i:Nat) (g o:aI) (G:List (List UInt8)),i<=d/\L=[I (i:Int)]/\h.le g/\Sep hp g o/\RowB o a0 G/\G.length=a*d/\Row SSr g G (a*d) (fun k=>if k<i*a then lcT a (mtx (rvs la) d) (rvs lw) k else la (k%a*d+k/a)),fun L _=>d-(iAt L 0).toNat,
  ⟨0,g2,o2,ct,by omega,rfl,b0,co,bb,bm,cb.congr fun k _=>by rw [Nat.zero_mul,iN (by omega)]⟩,?_⟩
 clear cb bm bb co b0 l2
 rintro z cf ⟨i,g,o,G,hi,eL,lg,sp,a5,az,rr⟩
 obtain rfl:=sI1 eL
 refine B6 (fun ai=>?_) (fun ag=>?_)
 ·have aa:i<d:=by omega
  have ae:=Heap.le_trans lg sp.le
  obtain ⟨u,hu,ax⟩:=(rw'.mono K0 ae).sat aa
  have dn:=cx i aa
  refine ⟨u,hu,by omega,by omega,_,ax,?_⟩
  rw [<- B1s (vw i aa)]
  refine sp.call (Bu (gl.mono lg) (hsw i aa) hs1 hs283 (by grind) ?_)
  intro h3 bu
  refine ⟨_,rfl,fun L hp=>∃ (j:Nat) (g o:aI) (G:List (List UInt8)),j<=a/\L=[I (j:Int)]/\h.le g/\Sep hp g o/\RowB o a0 G/\G.length=a*d/\Row SSr g G (a*d) (fun k=>if k<i*a+j then lcT a (mtx (rvs la) d) (rvs lw) k else la (k%a*d+k/a)),fun L _=>a-(iAt L 0).toNat,
   ⟨0,g,o,G,by omega,rfl,lg,bu,a5,az,rr⟩,?_⟩
  clear rr az a5 bu sp lg ae
  rintro z2 cr ⟨j,g4,o4,cg,hj,cu,bf,av,ar,bo,bj⟩
  obtain rfl:=sI1 cu
  have dw:(i+1)*a<=d*a:=aD _ aa
  have de:(i+1)*a=i*a+a:=by rw [Nat.add_mul,Nat.one_mul]
  have d0:d*a=a*d:=bJ _ _
  refine B6 (fun di=>?_) (fun dj=>?_)
  ·have ci:j<a:=by omega
   have t:i*a+j<a*d:=by omega
   have ei:B4 (B4 ((i:Int)*(a:Int))+(j:Int))=((i*a+j:Nat):Int):=by
    rw [show B4 ((i:Int)*(a:Int))=((i*a:Nat):Int) by rw [<- Int.natCast_mul];exact S4 (by omega),B7 (by omega) (by omega)]
    omega
   rw [ei]
   have c5:aG SSr cr (some ⟨a0,0,none⟩) (a*d) _:=⟨cg,ar.slF av.ole,bo,bj.mono K0 av.le⟩
   obtain ⟨v,hv,Q⟩:=c5.sat t
   obtain ⟨f1,f2⟩:=dm1 (i:=i) ci
   have br:j*d+i<a*d:=Bg ci aa
   rw [iN (by omega),f1,f2] at Q
   obtain rfl:=aT hv
   refine ⟨_,rfl,by omega,by omega,_,Q,?_⟩
   refine av.call (B1y (m:=s) (gl.mono bf) (Tx.of ((hsw i aa).inv hs1) (by omega)) ⟨hl _ br,hs _ br⟩ (by omega) ?_)
   intro h5 b9
   refine ⟨_,rfl,av.le_le b9 (B3 _),_,rfl,by omega,by omega,?_⟩
   rw [E6,aK]
   refine Sep.store Aa (y:=lcT a (mtx (rvs la) d) (rvs lw) (i*a+j)) ?_ b9 ar (i:=i*a+j) (by omega) (by show 0+(i*a+j)*1=(i*a+j)*1;omega) ?_
   ·show (Value.string (bs _)).cells=_
    unfold lcT
    rw [f1,f2,C3d,D9]
    rfl
   intro h6 o6 x6 dx c4 cd
   rw [wiS j (by omega)]
   refine ⟨⟨j+1,g4,o6,_,by omega,rfl,bf,c4,cd,by rw [aN];exact bo,(bj.upd (by omega) rfl).congr fun k bx=>?_⟩,by simp only [Cd];omega⟩
   by_cases ek:k=i*a+j
   ·rw [iP ek,iP (by omega),ek]
   ·rw [iN ek]
    by_cases S:k<i*a+j
    ·rw [iP S,iP (by omega)]
    ·rw [iN S,iN (by omega)]
  ·obtain rfl:j=a:=by omega
   rw [wiS i (by omega)]
   refine ⟨⟨i+1,g4,o4,cg,by omega,rfl,bf,av,ar,bo,?_⟩,by simp only [Cd];omega⟩
   rw [de]
   exact bj
 obtain rfl:i=d:=by omega
 have ae:=Heap.le_trans lg sp.le
 have rc:aG SSr cf (some ⟨a0,0,none⟩) (a*i) (lcT a (mtx (rvs la) i) (rvs lw)):=⟨G,a5.slF sp.ole,az,(rr.mono K0 sp.le).congr fun k t=>iP (by rw [bJ];exact t)⟩
 clear rr az a5 sp lg G
 have bk:∀ k,k<a*i->Sz (2*s) (rv (lcT a (mtx (rvs la) i) (rvs lw) k)):=fun k t=>by
  unfold lcT
  rw [D9]
  exact Ut hs1 hM hsw _ _ (Nat.div_lt_of_lt_mul t) (Nat.mod_lt k (by omega))
 have cl:∀ k,k<a*i->(lcT a (mtx (rvs la) i) (rvs lw) k).length<=100000000:=fun k t=>by
  have h1:=bk k t
  unfold lcT at h1 ⊢
  rw [D9] at h1
  have:=Mz h1
  omega
 have b6:MOk (i:Int) (a:Int) (a*i) (lcT a (mtx (rvs la) i) (rvs lw)) i a:=⟨rfl,rfl,c1,c2,r1,r2,bJ _ _,fun k _=>⟨_,rfl⟩⟩
 refine B39 (m:=2*s) (gl.mono ae) (ra.mono K0 ae) rc hn hn hl cl (fun k t=>(hs k t).mono (by omega)) bk (by omega) (by omega) ?_
 intro o7 dc A7 c7 h7 l7 r7
 rcases dc with ⟨Z,_⟩|⟨_,_,Z,_⟩|⟨a1,b1,d1,V,k2,rfl⟩
 ·exact absurd ⟨⟨_,_,bn⟩,⟨_,_,b6⟩⟩ Z
 ·exact absurd rfl Z
 obtain rfl:a1=a:=by have:=V.er;omega
 obtain rfl:b1=i:=by have:=V.ec;omega
 obtain rfl:d1=a1:=by have:=k2.ec;omega
 clear V k2
 refine ⟨_,_,_,_,_,_,rfl,I3 (fun e=>absurd rfl e) (fun _=>?_)⟩
 have cw:aG SSr h7 A7 (d1*d1) (fun k=>I9 (prE b1 d1 (mtx (rvs la) b1) (rvs lw) k)):=by
  rw [<- C18 r1]
  exact r7
 clear r7
 have a7:=Heap.le_trans ae l7
 refine Ru (m:=sx) (gl.mono a7) (ra.mono K0 a7) (rx.mono K0 a7) hn hnx hl hlx (fun k t=>(hs k t).mono hssx) hsx (by omega) (fun C x ah=>?_) ?_
 ·obtain rfl:x=b1:=by have:=ah.ec;omega
  exact q6
 intro o8 c9 A8 c8 h8 w8
 rcases c9 with ⟨Z,_⟩|⟨_,_,Z,_⟩|⟨R,l,V,_,_,rfl⟩
 ·exact absurd ⟨⟨_,_,bn⟩,vx⟩ Z
 ·exact absurd rfl Z
 obtain rfl:R=d1:=by have:=V.er;omega
 obtain rfl:l=b1:=by have:=V.ec;omega
 clear V
 refine ⟨_,_,_,_,rfl,I3 (fun e=>absurd rfl e) (fun _=>?_)⟩
 obtain ⟨g8,o8,bg,l8,cm,bq,ay,bh⟩:=w8
 change bg.length=R at ay
 change Row SSr g8 bg R _ at bh
 obtain ⟨b8,rfl,a8⟩:=bq.rowB (by rintro rfl;simp at ay;omega)
 clear bq
 have c3:∀ i,i<R->Sz (1+l*(2*sx+1)) (sm l (fun j=>mtx (rvs la) l i j*rv (lx j))):=fun i hi=>Uj (m:=sx) (w:=l) (f:=fun j=>mtx (rvs la) l i j) (f2:=fun j=>rv (lx j)) (fun j hj=>(hM i j hi hj).mono hssx) hsx l (aE _)
 refine ⟨fun L hp=>∃ (i:Nat) (g o:aI) (G:List (List UInt8)),i<=R/\L=[I (i:Int)]/\h7.le g/\Sep hp g o/\RowB o b8 G/\G.length=R/\Row SSr g G R (fun k=>if k<i then I9 (prR l (mtx (rvs la) l) (rvs lb) (rvs lx) k) else I9 (sm l (fun j=>mtx (rvs la) l k j*rv (lx j)))),fun L _=>R-(iAt L 0).toNat,
  ⟨0,g8,o8,bg,by omega,rfl,l8,cm,a8,ay,bh.congr fun k _=>by rw [iN (by omega)]⟩,?_⟩
 clear bh ay a8 cm l8
 rintro z aj ⟨p,g9,o9,af,c6,be,ac,q,D,O,N⟩
 obtain rfl:=sI1 be
 have M:h.le g9:=Heap.le_trans a7 ac
 refine B6 (fun ai=>?_) (fun ag=>?_)
 ·have ai:((p:Nat):Int)<((R:Nat):Int):=ai
  have E:p<R:=by omega
  have bi:aG SSr aj (some ⟨b8,0,none⟩) R _:=⟨af,D.slF q.ole,O,N.mono K0 q.le⟩
  obtain ⟨v,hv,Q⟩:=bi.sat E
  obtain rfl:=aT hv
  rw [iN (by omega)] at Q
  obtain ⟨u,hu,ax⟩:=(rb.mono K0 (Heap.le_trans M q.le)).sat E
  refine ⟨_,rfl,by omega,show ((p:Nat):Int)<((R:Nat):Int) by omega,_,Q,u,hu,by omega,by omega,_,ax,?_⟩
  have t1:=(c3 p E).mono (show 1+l*(2*sx+1)<=1+l*(2*sx+1)+2*sx by omega)
  refine q.call (Uf (m:=1+l*(2*sx+1)+2*sx) (gl.mono M) ⟨hlb p E,(hsb p E).mono (by omega)⟩ (Tx.of t1 (by omega)) (by omega) ?_)
  intro cq au
  refine ⟨_,rfl,_,rfl,by omega,show ((p:Nat):Int)<((R:Nat):Int) by omega,?_⟩
  rw [E6,aK]
  refine Sep.store Aa (y:=I9 (prR l (mtx (rvs la) l) (rvs lb) (rvs lx) p)) ?_ au D (i:=p) (by omega) (by show 0+p*1=p*1;omega) ?_
  ·rw [D9];rfl
  intro cs bl df cn aq T
  rw [wiS p (by omega)]
  refine ⟨⟨p+1,g9,bl,_,by omega,rfl,ac,aq,T,by rw [aN];exact O,(N.upd (by omega) rfl).congr fun k bx=>?_⟩,by simp only [Cd];omega⟩
  by_cases ek:k=p
  ·rw [iP ek,iP (by omega),ek]
  ·rw [iN ek]
   by_cases S:k<p
   ·rw [iP S,iP (by omega)]
   ·rw [iN S,iN (by omega)]
 have ag:¬ ((p:Nat):Int)<((R:Nat):Int):=ag
 obtain rfl:p=R:=by omega
 have a9:=Heap.le_trans M q.le
 have bt:h7.le aj:=Heap.le_trans ac q.le
 have rm:aG SSr aj (some ⟨b8,0,none⟩) p (fun k=>I9 (prR l (mtx (rvs la) l) (rvs lb) (rvs lx) k)):=⟨af,D.slF q.ole,O,(N.mono K0 q.le).congr fun k t=>iP t⟩
 clear N O D q ac M af
 have hE:∀ k,k<p*p->Sz se (prE l p (mtx (rvs la) l) (rvs lw) k):=fun k t=>(B2s hs1 hM hsw k t).mono q2
 have cv:MOk (p:Int) (p:Int) (p*p) (fun k=>I9 (prE l p (mtx (rvs la) l) (rvs lw) k)) p p:=⟨rfl,rfl,r1,r2,r1,r2,rfl,fun k _=>⟨_,rfl⟩⟩
 have d3:se<=40000000:=by
  have:=aF se (show 0<7^(nq+1) from aX (by decide))
  omega
 have dz:p*p<=64*64:=bC r2 r2
 have dy:3^nq*bnd (p+1) se<=3^(nq+1)*bnd (p+1) se:=aD _ (Nat.pow_le_pow_right (by decide) (Nat.le_succ nq))
 have du:7^nq*se<=7^(nq+1)*se:=aD _ (Nat.pow_le_pow_right (by decide) (Nat.le_succ nq))
 refine A3q (m:=se) (n:=p*p) (n2:=p) (gl.mono a9) (cw.mono K0 bt) rm (by omega) (by omega) (fun k t=>by have:=Mz (hE k t);omega) (fun k t=>by have:=Mz (q3 k t);omega) (fun k t=>by rw [D9];exact hE k t) (fun k t=>by rw [D9];exact q3 k t) (by omega) (fun C x ah=>?_) ?_
 ·obtain rfl:C=p:=by have h1:((p:Nat):Int)=C:=ah.er;omega
  obtain rfl:x=C:=by have h1:((C:Nat):Int)=x:=ah.ec;omega
  rw [A0d,A0d]
  refine ⟨nq,nq+1,fun j hj=>?_,fun j hj=>?_,by omega,q4,by omega,q5⟩
  ·obtain ⟨p1,p2⟩:=A3i (m:=l) (mtx (rvs la) l) (rvs lw) (prR l (mtx (rvs la) l) (rvs lb) (rvs lx)) hj
   rcases q0 with q0|q0<;>omega
  ·obtain ⟨p1,p2⟩:=C12 (m:=l) (mtx (rvs la) l) (rvs lw) (prR l (mtx (rvs la) l) (rvs lb) (rvs lx)) hj
   rcases q0 with q0|q0<;>omega
 intro ds ck ny fy _ A12 dl B12 dv a6 bz b5 _
 have ap:=Heap.le_trans a9 bz
 rcases ck with ⟨Z,_⟩|⟨_,_,Z,_⟩|⟨a3,F,V,_,_,b7⟩
 ·exact absurd ⟨⟨_,_,cv⟩,fun k _=>⟨_,rfl⟩⟩ Z
 ·exact absurd rfl Z
 obtain rfl:a3=p:=by have h1:((p:Nat):Int)=a3:=V.er;omega
 obtain rfl:F=a3:=by have h1:((a3:Nat):Int)=F:=V.ec;omega
 clear V
 rw [A0d,A0d] at b7
 rcases b7.symm with ⟨bp,rfl⟩|⟨db,rfl⟩
 ·exact ⟨_,_,_,_,_,_,_,rfl,I3 (fun _=>al bp a6 ap) (fun e=>absurd e (by decide))⟩
 refine ⟨_,_,_,_,_,_,_,rfl,I3 (fun e=>absurd rfl e) (fun _=>?_)⟩
 have hg:=an db
 clear an al
 have hX:=Ng (b:=prR l (mtx (rvs la) l) (rvs lb) (rvs lx)) hE q3 (by omega) (nq:=nq) (by
  obtain ⟨p1,p2⟩:=A3i (m:=l) (mtx (rvs la) l) (rvs lw) (prR l (mtx (rvs la) l) (rvs lb) (rvs lx)) (aE F)
  rcases q0 with q0|q0
  ·exact aV p1 q0
  ·exact aV p2 q0)
 generalize A33 (prE l F (mtx (rvs la) l) (rvs lw)) (prR l (mtx (rvs la) l) (rvs lb) (rvs lx)) F F=y at *
 have dm:se<=7^nq*se:=aF se (aX (by decide))
 generalize 7^nq*se=Y at *
 change aG SSr a6 A12 F (fun j=>I9 (y j)) at b5
 have dg:cf.le a6:=Heap.le_trans l7 (Heap.le_trans bt bz)
 have da:∀ i,i<l->Sz (1+F*(2*Y+1)) (sm F (fun j=>mtx (rvs (lcT F (mtx (rvs la) l) (rvs lw))) F i j*rv (I9 (y j)))):=fun i hi=>Uj (m:=Y) (w:=F) (f:=fun j=>mtx (rvs (lcT F (mtx (rvs la) l) (rvs lw))) F i j) (f2:=fun j=>rv (I9 (y j))) (fun j hj=>by
  show Sz Y (mtx (rvs (lcT F (mtx (rvs la) l) (rvs lw))) F i j)
  rw [A6j _ _ hj]
  exact (Ut hs1 hM hsw i j hi hj).mono (by omega)) (fun j hj=>by rw [D9];exact hX j) F (aE _)
 refine Ru (m:=Y) (n2:=F) (gl.mono ap) (rc.mono K0 dg) b5 hn (by show F<=1000000;omega) cl (fun k _=>by have:=Mz (hX k);show (I9 (y k)).length<=_;omega) (fun k t=>(bk k t).mono (by omega)) (fun k _=>by show Sz Y (rv (I9 (y k)));rw [D9];exact hX k) (by omega) (fun C x ah=>?_) ?_
 ·obtain rfl:x=F:=by have:=ah.ec;omega
  omega
 intro bw cj A13 dr d4 cy
 rcases cj with ⟨Z,_⟩|⟨_,_,Z,_⟩|⟨H,b4,V,_,_,rfl⟩
 ·exact absurd ⟨⟨_,_,b6⟩,fun k _=>⟨_,rfl⟩⟩ Z
 ·exact absurd rfl Z
 obtain rfl:H=l:=by have:=V.er;omega
 obtain rfl:b4=F:=by have:=V.ec;omega
 clear V
 refine ⟨_,_,_,_,rfl,I3 (fun e=>absurd rfl e) (fun _=>?_)⟩
 obtain ⟨ce,bw,aw,bv,ba,bd,ad,ao⟩:=cy
 change aw.length=H at ad
 change Row SSr ce aw H _ at ao
 obtain ⟨ch,rfl,am⟩:=bd.rowB (by rintro rfl;simp at ad;omega)
 clear bd
 refine ⟨fun L hp=>∃ (i:Nat) (g o:aI) (G:List (List UInt8)),i<=H/\L=[I (i:Int)]/\a6.le g/\Sep hp g o/\RowB o ch G/\G.length=H/\Row SSr g G H (fun k=>if k<i then I9 (prZ b4 (mtx (rvs la) H) (rvs lw) (rvs lx) y k) else I9 (sm b4 (fun j=>mtx (rvs (lcT b4 (mtx (rvs la) H) (rvs lw))) b4 k j*rv (I9 (y j))))),fun L _=>H-(iAt L 0).toNat,
  ⟨0,ce,bw,aw,by omega,rfl,bv,ba,am,ad,ao.congr fun k _=>by rw [iN (by omega)]⟩,?_⟩
 clear ao ad am ba bv
 rintro z aj ⟨J,g9,o9,af,c6,be,ac,q,D,O,N⟩
 obtain rfl:=sI1 be
 have M:h.le g9:=Heap.le_trans ap ac
 refine B6 (fun ai=>?_) (fun ag=>?_)
 ·have ai:((J:Nat):Int)<((H:Nat):Int):=ai
  have E:J<H:=by omega
  have bi:aG SSr aj (some ⟨ch,0,none⟩) H _:=⟨af,D.slF q.ole,O,N.mono K0 q.le⟩
  obtain ⟨v,hv,Q⟩:=bi.sat E
  obtain rfl:=aT hv
  rw [iN (by omega)] at Q
  obtain ⟨u,hu,ax⟩:=(rx.mono K0 (Heap.le_trans M q.le)).sat E
  refine ⟨_,rfl,by omega,show ((J:Nat):Int)<((H:Nat):Int) by omega,_,Q,u,hu,by omega,by omega,_,ax,?_⟩
  have t1:=(da J E).mono (show 1+b4*(2*Y+1)<=1+b4*(2*Y+1)+sx by omega)
  refine q.call (A2z (m:=1+b4*(2*Y+1)+sx) (gl.mono M) ⟨hlx J E,(hsx J E).mono (by omega)⟩ (Tx.of t1 (by omega)) (by omega) ?_)
  intro cq au
  refine ⟨_,rfl,_,rfl,by omega,show ((J:Nat):Int)<((H:Nat):Int) by omega,?_⟩
  rw [E6,aK]
  refine Sep.store Aa (y:=I9 (prZ b4 (mtx (rvs la) H) (rvs lw) (rvs lx) y J)) ?_ au D (i:=J) (by omega) (by show 0+J*1=J*1;omega) ?_
  ·rw [D9,D7 (g:=fun j=>prC (mtx (rvs la) H) (rvs lw) J j*y j) fun j hj=>by rw [A6j _ _ hj,D9]]
   rfl
  intro cs bl df cn aq T
  rw [wiS J (by omega)]
  refine ⟨⟨J+1,g9,bl,_,by omega,rfl,ac,aq,T,by rw [aN];exact O,(N.upd (by omega) rfl).congr fun k bx=>?_⟩,by simp only [Cd];omega⟩
  by_cases ek:k=J
  ·rw [iP ek,iP (by omega),ek]
  ·rw [iN ek]
   by_cases S:k<J
   ·rw [iP S,iP (by omega)]
   ·rw [iN S,iN (by omega)]
 have ag:¬ ((J:Nat):Int)<((H:Nat):Int):=ag
 obtain rfl:J=H:=by omega
 exact hg _ _ aj (Heap.le_trans M q.le) ⟨af,D.slF q.ole,O,(N.mono K0 q.le).congr fun k t=>iP t⟩
end
def Fy(P Q:Nat->Nat->Rat)(w i k j:Nat):Nat->Nat->Rat:=fun a b=>if a<i then sm w (fun t=>P a t*Q t b) else if a=i then (if b<j then sm (k+1) (fun t=>P a t*Q t b) else sm k (fun t=>P a t*Q t b)) else 0
def A6c(P Q:Nat->Nat->Rat)(w a b:Nat):Fy P Q w 0 0 0 a b=0:=by
 unfold Fy
 rw [iN (aM a),iN (aM b)]
 split<;>rfl
def B02(P Q:Nat->Nat->Rat)(w i k j a b:Nat):C0j (Fy P Q w i k j) i j (sm k (fun t=>P i t*Q t j)+P i k*Q k j) a b=Fy P Q w i k (j+1) a b:=by
 unfold C0j Fy
 by_cases e:a=i/\b=j
 ·obtain ⟨rfl,rfl⟩:=e
  rw [iP ⟨rfl,rfl⟩,iN (aU a),iP rfl,iP (Nat.lt_succ_self b)]
  rfl
 ·rw [iN e]
  by_cases d:a<i
  ·rw [iP d,iP d]
  ·rw [iN d,iN d]
   by_cases c:a=i
   ·rw [iP c,iP c]
    by_cases f:b<j
    ·rw [iP f,iP (by omega)]
    ·rw [iN f,iN (by omega)]
   ·rw [iN c,iN c]
def B03(P Q:Nat->Nat->Rat){w i k j c:Nat}(h:j=c\/P i k=0){a b:Nat}(hb:b<c):Fy P Q w i k j a b=Fy P Q w i (k+1) 0 a b:=by
 unfold Fy
 by_cases d:a<i
 ·rw [iP d,iP d]
 ·rw [iN d,iN d]
  by_cases e:a=i
  ·subst e
   rw [iP rfl,iP rfl,iN (aM b)]
   by_cases f:b<j
   ·rw [iP f]
   ·rw [iN f]
    rcases h with h|h
    ·omega
    ·show _=sm k (fun t=>P a t*Q t b)+P a k*Q k b
     rw [h,Rat.zero_mul,Rat.add_zero]
  ·rw [iN e,iN e]
def B2r(P Q:Nat->Nat->Rat)(w i a b:Nat):Fy P Q w i w 0 a b=Fy P Q w (i+1) 0 0 a b:=by
 unfold Fy
 by_cases d:a<i
 ·rw [iP d,iP (by omega)]
 ·rw [iN d]
  by_cases c:a=i
  ·rw [iP c,iN (aM b),iP (by omega)]
  ·rw [iN c,iN (by omega)]
   split
   ·rw [iN (aM b)];rfl
   ·rfl
section
variable {h:aI} {K:VP} {A B:Option aQ} {n n2 cap cap2 m w cols:Nat} {r c r2 c2:Int} {la lb:Nat->List UInt8} {P Q:Nat->Nat->Rat}
def A43(ra:aW h A n w P)(rb:aW h B w cols Q)(hn1:1<=n)(hn:n<=10000)(hw1:1<=w)(hw:w<=10000)(hc1:1<=cols)(hc:cols<=10000)(hs:∀ i j,i<n->j<w->Sz m (P i j))(hs2:∀ i j,i<w->j<cols->Sz m (Q i j))(hm:1+w*(2*m+1)+2*m<=400000000)
 (hK:∀ h' g' o' bo rb,h.le g'->Mt h' g' o' bo rb n cols (fun a b=>sm w (fun t=>P a t*Q t b))->K (.slice (some ⟨bo,0,none⟩) n n) h'):aL prog Tu #[.slice A n cap,.slice B w cap2] h K:=by
 refine B62 _ _ _ _ _ _ ?_
 unfold C0b
 obtain ⟨aB,sB,Z,u,af,y,_⟩:=rb.at (i:=0) (by omega)
 refine ⟨aB,Z,by omega,by omega,_,_,_,y,?_⟩
 rw [u]
 refine Vi hn hc ?_
 intro h1 g1 o1 bo p l1 t1
 refine ⟨_,_,_,rfl,fun L s=>∃ (i:Nat) (g o:aI),i<=n/\L=[I (i:Int)]/\h.le g/\Mt s g o bo p n cols (Fy P Q w i 0 0),fun L _=>n-(iAt L 0).toNat,⟨0,g1,o1,by omega,rfl,l1,t1.congr fun a b _ _=>(A6c P Q w a b).symm⟩,?_⟩
 rintro z s ⟨i,g,o,hi,eL,lg,t⟩
 obtain rfl:=sI1 eL
 refine B6 (fun al=>?_) (fun ag=>?_)
 ·have d:i<n:=by omega
  obtain ⟨a1,s1,G,f1,f2,hc1,C⟩:=ra.at d
  refine ⟨fun L s=>∃ (k:Nat) (g o:aI),k<=w/\L=[I (k:Int)]/\h.le g/\Mt s g o bo p n cols (Fy P Q w i k 0),fun L _=>w-(iAt L 0).toNat,⟨0,g,o,by omega,rfl,lg,t⟩,?_⟩
  rintro z aj ⟨k,g2,o2,W,M,E,t2⟩
  obtain rfl:=sI1 M
  refine B6 (fun ad=>?_) (fun ae=>?_)
  ·have e:k<w:=by omega
   obtain ⟨a2,s2,J,f3,f4,N,D⟩:=rb.at e
   refine ⟨fun L s=>∃ (j:Nat) (g o:aI),j<=cols/\L=[I (j:Int)]/\h.le g/\Mt s g o bo p n cols (Fy P Q w i k j),fun L _=>cols-(iAt L 0).toNat,⟨0,g2,o2,by omega,rfl,E,t2⟩,?_⟩
   rintro z R ⟨j,g3,o3,hj,S,q,c⟩
   obtain rfl:=sI1 S
   have r:=Heap.le_trans q c.sep.le
   have next:(j=cols\/P i k=0)->((∃ (k':Nat) (g o:aI),k'<=w/\[I (B4 ((k:Int)+1))]=[I (k':Int)]/\h.le g/\Mt R g o bo p n cols (Fy P Q w i k' 0))/\w-(iAt [I (B4 ((k:Int)+1))] 0).toNat<w-(iAt [I (k:Int)] 0).toNat):=by
    intro hx
    rw [wiS k (by omega)]
    exact ⟨⟨k+1,g3,o3,by omega,rfl,q,c.congr fun a b _ hb=>B03 P Q hx hb⟩,by simp only [Cd];omega⟩
   refine ⟨aB,Z,by omega,by omega,_,_,_,B5 r y,?_⟩
   rw [u]
   refine B6 (fun aa=>?_) (fun ac=>next (.inl (by omega)))
   have l:j<cols:=by omega
   obtain ⟨a5,w5,e5,n5,c0,c1,F,c3⟩:=(C.mono P8 q).qat e
   obtain ⟨a6,w6,e6,n6,d0,d1,d2,d3⟩:=(D.mono P8 q).qat l
   obtain ⟨cc,ak,X⟩:=c.head d
   obtain ⟨x,ix,x0,x1,x2,x3⟩:=c.elem d l
   refine ⟨a1,G,by omega,by omega,_,_,_,B5 r hc1,a5,e5,by omega,by omega,_,_,_,_,_,_,_,_,B5 c.sep.le c0,B5 c.sep.le c1,B5 c.sep.le F,B5 c.sep.le c3,?_⟩
   refine Cb (NQ.mono c.sep.le n5) ⟨_,rfl,I3 (fun ah=>?_) (fun he=>next (.inr (by rw [bG] at he;exact Rat.num_eq_zero.1 he)))⟩
   refine ⟨_,rfl,by omega,by omega,_,_,_,c.sep.cell X,_,rfl,by omega,by omega,_,_,_,c.sep.cell X,_,rfl,by omega,by omega,_,_,_,_,_,_,_,_,c.sep.cell x0,c.sep.cell x1,c.sep.cell x2,c.sep.cell x3,a1,G,by omega,by omega,_,_,_,B5 r hc1,a5,e5,by omega,by omega,_,_,_,_,_,_,_,_,B5 c.sep.le c0,B5 c.sep.le c1,B5 c.sep.le F,B5 c.sep.le c3,a2,J,by omega,by omega,_,_,_,B5 r N,a6,e6,by omega,by omega,_,_,_,_,_,_,_,_,B5 c.sep.le d0,B5 c.sep.le d1,B5 c.sep.le d2,B5 c.sep.le d3,?_⟩
   refine c.sep.call (Nl (a:=w5) (b:=w6) n5 n6 (hs i k d e) (hs2 k j e l) (by omega) ?_)
   intro w7 g7 H i7 h7 V
   refine ⟨_,_,_,_,_,_,_,_,rfl,c.sep.le_le V H,?_⟩
   have ev:Fy P Q w i k j i j=sm k (fun t=>P i t*Q t j):=by
    unfold Fy
    rw [iN (aU i),iP rfl,iN (aU j)]
   rw [ev] at ix
   have ai:k*(2*m+1)<=w*(2*m+1):=aD _ W
   refine V.call (Nn (a:=x) (b:=w7) (m:=1+k*(2*m+1)+2*m) (NQ.mono H ix) i7 ((Uj (f:=fun t=>P i t) (f2:=fun t=>Q t j) (fun t T=>hs i t d T) (fun t T=>hs2 t j T l) k W).mono (by omega)) (((hs i k d e).mul (hs2 k j e l)).mono (by omega)) (by omega) ?_)
   intro w8 g8 O i8 h8 s8
   have t8:Mt h8 g8 o3 bo p n cols (Fy P Q w i k j):=c.next s8 (Heap.le_trans H O)
   refine ⟨_,_,_,_,_,_,_,_,rfl,V.le_le s8 O,_,rfl,by omega,by omega,?_⟩
   refine t8.store d l i8 ?_
   intro h9 o9 t9 _
   rw [wiS j (by omega)]
   exact ⟨⟨j+1,g8,o9,by omega,rfl,Heap.le_trans q (Heap.le_trans H O),t9.congr fun a b _ _=>B02 P Q w i k j a b⟩,by simp only [Cd];omega⟩
  ·have:k=w:=by omega
   subst this
   rw [wiS i (by omega)]
   exact ⟨⟨i+1,g2,o2,by omega,rfl,E,t2.congr fun a b _ _=>B2r P Q k i a b⟩,by simp only [Cd];omega⟩
 ·have:i=n:=by omega
  subst this
  exact hK s g o bo p lg (t.congr fun a b ha _=>by unfold Fy;rw [iP ha])
def A6m(ra:aW h A n w P)(rb:aW h B w cols Q)(hn1:1<=n)(hn:n<=10000)(hw1:1<=w)(hw:w<=10000)(hc1:1<=cols)(hc:cols<=10000)(hs:∀ i j,i<n->j<w->Sz m (P i j))(hs2:∀ i j,i<w->j<cols->Sz m (Q i j))(hm:1+w*(2*m+1)+2*m<=400000000)
 (hK:∀ bo h',h.le h'->aW h' (some ⟨bo,0,none⟩) n cols (fun a b=>sm w (fun t=>P a t*Q t b))->K (.slice (some ⟨bo,0,none⟩) n n) h'):aL prog Tu #[.slice A n cap,.slice B w cap2] h K:=
 A43 ra rb hn1 hn hw1 hw hc1 hc hs hs2 hm fun h' c _ bo _ l t=>hK bo h' (Heap.le_trans l t.sep.le) t.rowsV
end
section
variable {h g o:aI} {wA B:Option aQ} {wc be m d:Nat} {hd:List HV} {xs ys:List QV}
def Sep.free(s:Sep h g o){b:Nat}(hb:h b=none):g b=none:=by
 cases hx:g b with
 | none=>rfl
 | some y=>rw [s.le _ _ hx] at hb;cases hb
def Ea{α:Type}[E:Enc α]{e:aY}{A:Option aQ}{c:Nat}{zs:List α}(s:Sep h g o)(w:aS o e A c zs)(hb:h be=none):A≠some ⟨be,0,none⟩:=by
 rcases w.2 with ⟨_,d⟩|⟨b,i,f,a,_⟩
 ·rw [d];simp
 ·rw [f]
  intro e
  simp only [aP,bI,and_true] at e
  subst e
  rw [s.own _ _ a] at hb;cases hb
def B08{u:QV}{v:Value}(hv:v.cells=(enc u).toArray){K:VP}(x:∀ b,h b=none->K (.slice (some ⟨b,0,none⟩) 1 1) (h.put b (.cells ([u].flatMap enc).toArray D4))):wpH prog (Instr.buildSlice Y7 1 #[(0,v)]) K h:=by
 refine Nv Px (vs:=[v]) (fun w d=>by rw [List.mem_singleton.1 d,hv];rfl) rfl (by simp) rfl ?_
 intro b c
 have a:[v].flatMap (fun v=>v.cells.toList)=[u].flatMap enc:=by simp [hv]
 rw [a]
 exact x b c
def Qb(s:Sep h g o)(hb:o be=some (.cells #[] D4))(ow:aS o J5 wA wc hd)(hne:wA≠some ⟨be,0,none⟩)(sx:SlF h B xs)(hx:xs≠[])(hm:m=xs.length)(hl:xs.length<=10000){K:VP}
 (x:∀ A2 c2 h2 g2 o2,g.le g2->Sep h2 g2 o2->aS o2 D4 A2 c2 xs->aS o2 J5 wA wc hd->(∀ b,wA=some ⟨b,0,none⟩->A2≠wA)->K (.slice A2 m c2) h2):wpH prog (bB #[Y7,Y7] Y7 #[.slice (some ⟨be,0,none⟩) 0 0,.slice B m d]) K h:=by
 have l:aS o D4 (some ⟨be,0,none⟩) 0 ([]:List QV):=⟨aE _,.inr ⟨be,[],rfl,hb,by simp,rfl⟩⟩
 refine OwnSl.app (ty:=Y7) Px s l (n:=0) rfl hm hx sx (by simp;omega) (by simp;omega) ?_
 intro A2 c2 h2 g2 o2 t q a k
 rw [List.nil_append] at a
 have j:∀ b y,wA=some ⟨b,0,none⟩->o b=some y->o2 b=some y/\A2≠some ⟨b,0,none⟩:=fun b y e f=>k b y f (fun r=>hne (by rw [e];exact r.symm))
 have:=x A2 c2 h2 g2 o2 t q a (ow.keep fun b y e f=>(j b y e f).1) (fun b e=>by
  rcases ow.2 with ⟨_,p⟩|⟨w,u,i,c,_⟩
  ·rw [p] at e;cases e
  ·rw [i] at e
   simp only [aP,bI,and_true] at e
   subst e
   rw [i]
   exact (j _ _ i c).2)
 simpa using this
def Qa{A2:Option aQ}{c2 n1 wn:Nat}(s:Sep h g o)(ow2:aS o D4 A2 c2 xs)(ow:aS o J5 wA wc hd)(ha:∀ b,wA=some ⟨b,0,none⟩->A2≠wA)(sy:SlF h B ys)(hy:ys≠[])(hn1:n1=xs.length)(hm:m=ys.length)(hwn:wn=hd.length)(hl:xs.length<=10000)(hl2:ys.length<=10000)(hl3:hd.length<=10000){K:Option aQ->Nat->Nat->aI->Prop}
 (x:∀ A3 c3 A9 c9 h9 g9 o9,g.le g9->Sep h9 g9 o9->xs.length+ys.length<=c3->SlF g9 A3 (xs++ys)->aS o9 J5 A9 c9 (hd++[(⟨A3,xs.length+ys.length,c3⟩:HV)])->K A9 (hd.length+1) c9 h9):
 wpH prog (bB #[Y7,Y7] Y7 #[.slice A2 n1 c2,.slice B m d]) (fun v3 hp4=>∃ (a:Option aQ) (b c:Nat),v3= .slice a b c/\wpH prog (Instr.buildSlice Ku 1 #[(0,.slice a b c)]) (fun v4 hp5=>∃ (a2:Option aQ) (b2 c2:Nat),v4= .slice a2 b2 c2/\Heap.le hp4 hp5/\wpH prog (bB #[Ku,Ku] Ku #[.slice wA wn wc,.slice a2 b2 c2]) (fun v5 hp6=>∃ (a3:Option aQ) (b3 c3:Nat),v5= .slice a3 b3 c3/\K a3 b3 c3 hp6) hp5) hp4) h:=by
 subst hwn
 refine OwnSl.app (ty:=Y7) Px s ow2 hn1 hm hy sy (by omega) (by omega) ?_
 intro A3 c3 N V k O F j M
 have C:∀ b y,wA=some ⟨b,0,none⟩->o b=some y->k b=some y/\A3≠some ⟨b,0,none⟩:=fun b y e hy=>M b y hy (fun G=>ha b e (by rw [e];exact G))
 have q:aS k J5 wA wc hd:=ow.keep fun b y e hy=>(C b y e hy).1
 have p:∀ b,wA=some ⟨b,0,none⟩->A3≠wA:=fun b e=>by
  rcases ow.2 with ⟨_,J⟩|⟨T,L,u,l,_⟩
  ·rw [J] at e;cases e
  ·rw [u] at e
   simp only [aP,bI,and_true] at e
   subst e
   rw [u]
   exact (C _ _ u l).2
 obtain ⟨t,H,E⟩:=F.give (B31 k wA)
 have sl:SlF t A3 (xs++ys):=by
  obtain ⟨b3,rfl,A,i,r⟩:=j.rowB (by simp [hy])
  have w:Uw k wA b3=none:=A6g k (fun e=>p b3 e e.symm)
  have z:t b3=some (.cells ((xs++ys).flatMap enc++i).toArray A):=by
   rw [<- E.rest b3 w]
   exact F.own _ _ r
  exact RowB.slF (o:=t) ⟨A,i,z⟩ (B3 _)
 have f:=j.1
 rw [aH] at f
 rw [hm]
 refine ⟨_,_,_,rfl,?_⟩
 refine OwnSl.push (ty:=Ku) C4u E q.only (y:=(⟨A3,xs.length+ys.length,c3⟩:HV)) (K1:=fun hp5=>Heap.le N hp5) rfl (by decide) (by omega) (by omega) (fun S Q=>Q) ?_
 intro A9 c9 h9 g9 o9 D R n _
 exact x A3 c3 A9 c9 h9 g9 o9 (Heap.le_trans O (Heap.le_trans H D)) R f (sl.mono D) n
end
section
variable {h:aI} {K:VP} {A B:Option aQ} {n n2 cap cap2 m w:Nat} {r c:Int} {la lx:Nat->List UInt8} {E b:Nat->Rat}
def Vf{nq:Nat}(rs:aW h A n w (mtx E w))(rb:aG NQr h B n b)(hn1:1<=n)(hn:n<=1000)(hw1:1<=w)(hw:w<=1000)(hm1:1<=m)(hs:∀ i j,i<n->j<w->Sz m (mtx E w i j))(hs2:∀ i,i<n->Sz m (b i))(hnq:∀ j,j<w->(ecE (mtx (G8 E b w) (w+1)) n j).cs.length<nq)(hm:7^nq*m<=100000000)
 (hK1:Gw E b n w->∀ b' h',h.le h'->aG NQr h' (some ⟨b',0,none⟩) w (A33 E b n w)->K (.tuple #[.slice (some ⟨b',0,none⟩) w w,.bool true]) h')
 (hK0:¬ Gw E b n w->∀ h',h.le h'->K (.tuple #[.slice none 0 0,.bool false]) h'):aL prog Lp #[.slice A n cap,.slice B n cap2] h K:=by
 refine A5b _ _ _ _ _ _ ?_
 unfold A5c
 obtain ⟨a0,bg,a7,a9,bb,a8,_⟩:=rs.at (i:=0) (by omega)
 refine ⟨a0,a7,by omega,by omega,_,_,_,a8,?_⟩
 rw [a9]
 have wM:∀ k,k<n->∀ j,j<w+1->mtx (G8 E b w) (w+1) k j=if j<w then mtx E w k j else b k:=by
  intro k _ j hj
  by_cases e:j<w
  ·rw [iP e,Hs E b e]
  ·rw [iN e,show j=w by omega,Pr]
 refine ⟨fun L hp=>∃ (k:Nat) (g o:aI) (V:List HV) (A':Option aQ) (c':Nat),k<=n/\L=[.slice A' k c',I (k:Int)]/\h.le g/\Sep hp g o/\aS o J5 A' c' V/\V.length=k/\Row (RWr (w+1)) g V k (mtx (G8 E b w) (w+1)),fun L _=>n-(iAt L 1).toNat,
  ⟨0,h,Cp,[],none,0,by omega,rfl,B3 _,Sep.refl h,OwnSl.nil,rfl,Row.nil⟩,?_⟩
 rintro wA d wc z hp ⟨k,g,o,V,A',c',hk,eL,lg,s,ow,F,rr⟩
 obtain ⟨⟨rfl,rfl,rfl⟩,rfl⟩:=sI2 eL
 refine B6 (fun an=>?_) (fun ak=>?_)
 ·have Z:d<n:=by omega
  obtain ⟨a1,s1,ad,f1,f2,ac,xs,sx,T,qx⟩:=rs.at Z
  obtain ⟨a2,u,au,iu,d0,d1,d2,d3⟩:=rb.qat Z
  have J:xs≠[]:=by rintro rfl;simp at T;omega
  have aj:g.le hp:=s.le
  have done:∀ {A3:Option aQ} {W:Nat} {A9:Option aQ} {c9:Nat} {h9 g9 o9:aI},g.le g9->Sep h9 g9 o9->xs.length+[u].length<=W->SlF g9 A3 (xs++[u])->aS o9 J5 A9 c9 (V++[(⟨A3,xs.length+[u].length,W⟩:HV)])->
   ((∃ (k:Nat) (g o:aI) (hd':List HV) (A':Option aQ) (c':Nat),k<=n/\[Value.slice A9 (V.length+1) c9,I (B4 ((d:Int)+1))]=[.slice A' k c',I (k:Int)]/\h.le g/\Sep h9 g o/\aS o J5 A' c' hd'/\hd'.length=k/\Row (RWr (w+1)) g hd' k (mtx (G8 E b w) (w+1)))/\n-(iAt [Value.slice A9 (V.length+1) c9,I (B4 ((d:Int)+1))] 1).toNat<n-(iAt [Value.slice wA d wc,I (d:Int)] 1).toNat):=by
   intro A3 W A9 c9 h9 g9 o9 Q s9 p sl x
   rw [F,wiS d (by omega)]
   refine ⟨⟨d+1,g9,o9,_,A9,c9,by omega,rfl,Heap.le_trans lg Q,s9,x,by rw [aH,F];rfl,?_⟩,?_⟩
   ·have rA:Row (RWr (w+1)) g9 V V.length (mtx (G8 E b w) (w+1)):=by rw [F];exact rr.mono (B7a (w+1)) Q
    have rB:=rA.push (w:=(⟨A3,xs.length+[u].length,W⟩:HV)) (by
     rw [F]
     refine ⟨by rw [T];rfl,by rw [T] at p;exact p,xs++[u],sl,by rw [aH,T];rfl,?_⟩
     have q1:Row NQr g9 xs xs.length (mtx (G8 E b w) (w+1) d):=by
      rw [T]
      exact (qx.mono P8 (Heap.le_trans lg Q)).congr fun j hj=>by rw [wM d Z j (by omega),iP hj]
     have q2:=q1.push (w:=u) (by
      rw [T,wM d Z w (by omega),iN (aU w)]
      exact P8 _ _ _ _ (Heap.le_trans lg Q) iu)
     rw [aH,T] at q2
     exact q2)
    rw [aH,F] at rB
    exact rB
   ·show n-((d+1:Nat):Int).toNat<n-(d:Int).toNat
    omega
  have S:h.le hp:=Heap.le_trans lg aj
  have C:xs.length<=10000:=by omega
  have X:V.length<=10000:=by omega
  have hu:∀ {q:aI} {b1:Nat} {e:aY},q b1=none->SlF (q.put b1 (.cells ([u].flatMap enc).toArray e)) (some ⟨b1,0,none⟩) [u]:=fun hb=>Lu _ _ _ [u]
  have cells:∀ {q:aI},hp.le q->q.cell? (aR (aR a2 (d*4)) 0)=some (.bool u.s)/\q.cell? (aR (aR a2 (d*4)) 1)=some (.slice u.A u.n u.c)/\q.cell? (aR (aR a2 (d*4)) 2)=some (.bool u.s2)/\q.cell? (aR (aR a2 (d*4)) 3)=some (.slice u.A2 u.n2 u.c2):=fun l=>⟨B5 (Heap.le_trans S l) d0,B5 (Heap.le_trans S l) d1,B5 (Heap.le_trans S l) d2,B5 (Heap.le_trans S l) d3⟩
  refine ⟨a1,ad,by omega,by omega,_,_,_,B5 S ac,a2,au,by omega,by omega,?_,?_⟩
  ·obtain ⟨p0,p1,p2,p3⟩:=cells (B3 hp)
   refine ⟨_,_,_,_,_,_,_,_,p0,p1,p2,p3,?_,?_⟩
   ·refine La Px ?_
    intro be D
    have r:=Ea s ow D
    have O:aS (o.put be (.cells #[] D4)) J5 wA wc V:=ow.keep fun b y e hy=>by rw [B8 _ _ (fun e2=>r (by rw [e,e2]))];exact hy
    have f:=s.new D (.cells #[] D4)
    refine ⟨_,_,_,rfl,Heap.le_put _ D,?_,?_⟩
    ·refine Qb f (B9 _ _ _) O r (sx.mono (Heap.le_trans lg f.le)) J (by omega) C ?_
     intro A2 c2 h2 g2 o2 N M H G ha
     refine ⟨_,_,_,rfl,B08 (u:=u) rfl ?_⟩
     intro b1 a
     exact ⟨_,_,_,rfl,Heap.le_put _ a,Qa (M.vis a _) H G ha (hu a) (by simp) (by omega) rfl F.symm C (by simp) X fun A3 W A9 c9 h9 g9 o9 Q s9 p sl x=>done (Heap.le_trans N (Heap.le_trans (Heap.le_put _ (M.free a)) Q)) s9 p sl x⟩
    ·refine B08 (u:=u) rfl ?_
     intro b1 a
     have s3:=f.vis a (.cells ([u].flatMap enc).toArray D4)
     have l3:=Heap.le_put (h:=g) (.cells ([u].flatMap enc).toArray D4) (f.free a)
     refine ⟨_,_,_,rfl,Heap.le_put _ a,?_⟩
     refine Qb s3 (B9 _ _ _) O r (sx.mono (Heap.le_trans lg (Heap.le_trans l3 s3.le))) J (by omega) C ?_
     intro A2 c2 h2 g2 o2 N M H G ha
     refine ⟨_,_,_,rfl,?_⟩
     exact Qa M H G ha ((Lu D4 g b1 [u]).mono (Heap.le_trans N M.le)) (by simp) (by omega) rfl F.symm C (by simp) X fun A3 W A9 c9 h9 g9 o9 Q s9 p sl x=>done (Heap.le_trans l3 (Heap.le_trans N Q)) s9 p sl x
   ·refine B08 (u:=u) rfl ?_
    intro b1 a
    have f:=s.vis a (.cells ([u].flatMap enc).toArray D4)
    have l1:=Heap.le_put (h:=g) (.cells ([u].flatMap enc).toArray D4) (s.free a)
    refine ⟨_,_,_,rfl,Heap.le_put _ a,La Px ?_⟩
    intro be D
    have r:=Ea f ow D
    have O:aS (o.put be (.cells #[] D4)) J5 wA wc V:=ow.keep fun b y e hy=>by rw [B8 _ _ (fun e2=>r (by rw [e,e2]))];exact hy
    have s3:=f.new D (.cells #[] D4)
    refine ⟨_,_,_,rfl,Heap.le_put _ D,?_⟩
    refine Qb s3 (B9 _ _ _) O r (sx.mono (Heap.le_trans lg (Heap.le_trans l1 s3.le))) J (by omega) C ?_
    intro A2 c2 h2 g2 o2 N M H G ha
    refine ⟨_,_,_,rfl,?_⟩
    exact Qa M H G ha ((Lu D4 g b1 [u]).mono (Heap.le_trans N M.le)) (by simp) (by omega) rfl F.symm C (by simp) X fun A3 W A9 c9 h9 g9 o9 Q s9 p sl x=>done (Heap.le_trans l1 (Heap.le_trans N Q)) s9 p sl x
  ·refine La Px ?_
   intro be D
   have r:=Ea s ow D
   have O:aS (o.put be (.cells #[] D4)) J5 wA wc V:=ow.keep fun b y e hy=>by rw [B8 _ _ (fun e2=>r (by rw [e,e2]))];exact hy
   have f:=s.new D (.cells #[] D4)
   refine ⟨_,_,_,rfl,Heap.le_put _ D,?_,?_⟩
   ·obtain ⟨p0,p1,p2,p3⟩:=cells (Heap.le_put (.cells #[] D4) D)
    refine ⟨_,_,_,_,_,_,_,_,p0,p1,p2,p3,?_,?_⟩
    ·refine Qb f (B9 _ _ _) O r (sx.mono (Heap.le_trans lg f.le)) J (by omega) C ?_
     intro A2 c2 h2 g2 o2 N M H G ha
     refine ⟨_,_,_,rfl,B08 (u:=u) rfl ?_⟩
     intro b1 a
     exact ⟨_,_,_,rfl,Heap.le_put _ a,Qa (M.vis a _) H G ha (hu a) (by simp) (by omega) rfl F.symm C (by simp) X fun A3 W A9 c9 h9 g9 o9 Q s9 p sl x=>done (Heap.le_trans N (Heap.le_trans (Heap.le_put _ (M.free a)) Q)) s9 p sl x⟩
    ·refine B08 (u:=u) rfl ?_
     intro b1 a
     have s3:=f.vis a (.cells ([u].flatMap enc).toArray D4)
     have l3:=Heap.le_put (h:=g) (.cells ([u].flatMap enc).toArray D4) (f.free a)
     refine ⟨_,_,_,rfl,Heap.le_put _ a,?_⟩
     refine Qb s3 (B9 _ _ _) O r (sx.mono (Heap.le_trans lg (Heap.le_trans l3 s3.le))) J (by omega) C ?_
     intro A2 c2 h2 g2 o2 N M H G ha
     refine ⟨_,_,_,rfl,?_⟩
     exact Qa M H G ha ((Lu D4 g b1 [u]).mono (Heap.le_trans N M.le)) (by simp) (by omega) rfl F.symm C (by simp) X fun A3 W A9 c9 h9 g9 o9 Q s9 p sl x=>done (Heap.le_trans l3 (Heap.le_trans N Q)) s9 p sl x
   ·refine Qb f (B9 _ _ _) O r (sx.mono (Heap.le_trans lg f.le)) J (by omega) C ?_
    intro A2 c2 h2 g2 o2 N M H G ha
    have lq:h.le h2:=Heap.le_trans lg (Heap.le_trans N M.le)
    refine ⟨_,_,_,rfl,_,_,_,_,_,_,_,_,B5 lq d0,B5 lq d1,B5 lq d2,B5 lq d3,B08 (u:=u) rfl ?_⟩
    intro b1 a
    exact ⟨_,_,_,rfl,Heap.le_put _ a,Qa (M.vis a _) H G ha (hu a) (by simp) (by omega) rfl F.symm C (by simp) X fun A3 W A9 c9 h9 g9 o9 Q s9 p sl x=>done (Heap.le_trans N (Heap.le_trans (Heap.le_put _ (M.free a)) Q)) s9 p sl x⟩
 have Z:d=n:=by omega
 subst Z
 have av:aW hp wA d (w+1) (mtx (G8 E b w) (w+1)):=RowsV.of ⟨V,ow.slF s.ole,F,rr.mono (B7a (w+1)) s.le⟩
 have az:∀ i j,i<d->j<w+1->Sz m (mtx (G8 E b w) (w+1) i j):=fun i j hi hj=>by
  rw [wM i hi j hj]
  split
  ·rename_i e;exact hs i j hi e
  ·exact hs2 i hi
 have S:h.le hp:=Heap.le_trans lg s.le
 refine Xk (m:=m) av hn1 (by omega) (by omega) (by omega) (by omega) hm1 az hnq hm ?_
 intro h2 g2 o2 bo bf c2 A2 ay wd N t ai ap iq
 refine ⟨_,_,_,_,_,_,_,_,_,_,_,_,_,_,rfl,?_⟩
 have a3:Asc (ecE (mtx (G8 E b w) (w+1)) d w).cs w:=A86 d ⟨_,[],1⟩ rfl w
 have ag:(ecE (mtx (G8 E b w) (w+1)) d w).cs.length<=w/\(ecE (mtx (G8 E b w) (w+1)) d w).cs.length<=d:=Ls _ d w
 have am:Gw E b d w ↔ ∀ i,i<d->(ecE (mtx (G8 E b w) (w+1)) d w).cs.length<=i->(ecE (mtx (G8 E b w) (w+1)) d w).R i w=0:=Iff.rfl
 have eX:A33 E b d w=B1d (fun m=>(ecE (mtx (G8 E b w) (w+1)) d w).R m w) (ecE (mtx (G8 E b w) (w+1)) d w).cs (ecE (mtx (G8 E b w) (w+1)) d w).cs.length:=(A0j _ _).symm
 have ao:=t.rowsV
 have sp:=ai.slF t.sep.ole
 have lh:=Heap.le_trans S (Heap.le_trans N t.sep.le)
 clear t ai ap iq
 rw [eX] at hK1
 clear eX
 generalize (ecE (mtx (G8 E b w) (w+1)) d w).cs=cs at *
 generalize (ecE (mtx (G8 E b w) (w+1)) d w).R=R at *
 refine ⟨fun L q=>∃ i:Nat,cs.length<=i/\i<=d/\L=[I (i:Int)]/\q=h2/\∀ j,j<i->cs.length<=j->R j w=0,fun L _=>d-(iAt L 0).toNat,⟨cs.length,aE _,ag.2,rfl,rfl,fun j h1 h2=>by omega⟩,?_⟩
 rintro z q ⟨i,a4,bh,eL,rfl,hz⟩
 obtain rfl:=sI1 eL
 refine B6 (fun an=>?_) (fun ak=>?_)
 ·have ae:i<d:=by omega
  obtain ⟨a1,s1,ad,f1,f2,ac,aa⟩:=ao.at ae
  obtain ⟨a5,w5,e5,n5,c0,c1,af,W⟩:=aa.qat (i:=w) (by omega)
  refine ⟨a1,ad,by omega,by omega,_,_,_,ac,a5,e5,by omega,by omega,_,_,_,_,_,_,_,_,c0,c1,af,W,?_⟩
  refine Cb n5 ⟨_,rfl,I3 (fun r=>hK0 (fun hx=>r (by rw [am.1 hx i ae a4];rfl)) _ lh) (fun he=>?_)⟩
  have a6:R i w=0:=by rw [bG] at he;exact Rat.num_eq_zero.1 he
  rw [wiS i (by omega)]
  refine ⟨⟨i+1,by omega,by omega,rfl,rfl,fun j h1 h2=>?_⟩,by simp only [Cd];omega⟩
  by_cases e:j=i
  ·rw [e];exact a6
  ·exact hz j (by omega) h2
 have ae:i=d:=by omega
 subst ae
 have aw:=hK1 (am.2 fun j h1 h2=>hz j h1 h2)
 refine K8 Px (zx:=Ck) rfl (by omega) (by omega) (by omega) (by omega) ?_
 intro b2 ar
 simp only [aK]
 refine ⟨_,_,_,rfl,?_⟩
 have s5:=(Sep.refl q).new ar (.cells ((bD w Ck).flatMap enc).toArray D4)
 have r0:Row NQr q (bD w Ck) w (B1d (fun m=>R m w) cs 0):=fun i hi=>⟨Ck,by rw [List.getElem?_replicate,iP hi],NQ.zero⟩
 refine ⟨fun L q'=>∃ (i:Nat) (o':aI) (ys:List QV),i<=cs.length/\L=[I (i:Int)]/\Sep q' q o'/\RowX o' b2 ys/\ys.length=w/\Row NQr q ys w (B1d (fun m=>R m w) cs i),fun L _=>cs.length-(iAt L 0).toNat,⟨0,_,_,by omega,rfl,s5,RowX.mk,List.length_replicate,r0⟩,?_⟩
 rintro z q6 ⟨k,o6,ys,hk,eL,s6,al,hy,ah⟩
 obtain rfl:=sI1 eL
 refine B6 (fun an=>?_) (fun ak=>?_)
 ·have aq:k<cs.length:=by omega
  obtain ⟨u,eu,ba⟩:=B93 (sp.mono s6.le) aq
  have bd:=B3g a3 aq
  obtain ⟨a1,s1,ad,f1,f2,ac,aa⟩:=ao.at (i:=k) (by omega)
  obtain ⟨a5,w5,e5,n5,c0,c1,af,W⟩:=aa.qat (i:=w) (by omega)
  refine ⟨u,eu,by omega,by omega,_,ba,a1,ad,by omega,by omega,_,_,_,B5 s6.le ac,a5,e5,by omega,by omega,_,_,_,_,_,_,_,_,B5 s6.le c0,B5 s6.le c1,B5 s6.le af,B5 s6.le W,_,rfl,by omega,by omega,?_⟩
  refine T7 Ef (y:=w5) rfl s6 al (i:=cs.getD k 0) (by omega) ?_
  intro h7 o7 x7 bc s7 ax
  rw [wiS k (by omega)]
  exact ⟨⟨k+1,o7,_,by omega,rfl,s7,ax,by rw [aN];exact hy,ah.upd (by omega) n5⟩,by simp only [Cd];omega⟩
 ·have:k=cs.length:=by omega
  subst this
  exact aw b2 q6 (Heap.le_trans lh s6.le) ⟨ys,al.rowB.slF s6.ole,hy,ah.mono P8 s6.le⟩
end
def B9g(M:Nat->Nat->Rat)(w:Nat->Rat)(i k:Nat):Nat->Nat->Rat:=fun a b=>if a<i\/(a=i/\b<k) then prC M w a b else M b a
section
variable {h:aI} {K:VP} {A B X W:Option aQ} {rows cols ac bc xc wc s sx se nq:Nat} {M:Nat->Nat->Rat} {w b x:Nat->Rat}
def A0v(rs:aW h A rows cols M)(rb:aG NQr h B rows b)(rx:aG NQr h X cols x)(rw':aG NQr h W cols w)(r1:1<=rows)(r2:rows<=64)(c1:1<=cols)(c2:cols<=64)
 (hs1:1<=s) (hssx:s<=sx) (hM:∀ i j,i<rows->j<cols->Sz s (M i j)) (hw:∀ t,t<cols->Sz s (w t)) (hb:∀ i,i<rows->Sz sx (b i)) (hx:∀ t,t<cols->Sz sx (x t))
 (q0:cols<=nq\/rows<=nq) (q1:2*s<=se) (q2:1+cols*(2*(2*s)+1)<=se) (q3:∀ i,i<rows->Sz se (prR cols M b x i)) (q5:7^(nq+1)*se<=40000000) (q6:1+cols*(2*sx+1)+2*sx<=40000000) (q7:1+rows*(2*(7^nq*se)+1)+2*(7^nq*se)+sx<=40000000)
 (hK1:Gw (prE cols rows M w) (prR cols M b x) rows rows->∀ b' h',h.le h'->aG NQr h' (some ⟨b',0,none⟩) cols (prZ rows M w x (A33 (prE cols rows M w) (prR cols M b x) rows rows))->K (.tuple #[.slice (some ⟨b',0,none⟩) cols cols,.bool true]) h')
 (hK0:¬ Gw (prE cols rows M w) (prR cols M b x) rows rows->∀ h',h.le h'->K (.tuple #[.slice none 0 0,.bool false]) h'):
 aL prog Qu #[.slice A rows ac,.slice B rows bc,.slice X cols xc,.slice W cols wc] h K:=by
 refine A7n _ _ _ _ _ _ _ _ _ _ _ _ ?_
 unfold A9i
 refine A6l rs r1 (by omega) (by omega) ?_
 intro h1 g1 o1 bo au l1 t1
 refine ⟨_,_,_,rfl,fun L J=>∃ (i:Nat) (g o:aI),i<=cols/\L=[I (i:Int)]/\h.le g/\Mt J g o bo au cols rows (B9g M w i 0),fun L _=>cols-(iAt L 0).toNat,⟨0,g1,o1,by omega,rfl,l1,t1.congr fun a b _ _=>by unfold B9g;rw [iN (by omega)]⟩,?_⟩
 rintro z J ⟨i,g,o,hi,eL,C,t⟩
 obtain rfl:=sI1 eL
 refine B6 (fun ao=>?_) (fun ai=>?_)
 ·have r:i<cols:=by omega
  obtain ⟨cc,an,hh⟩:=t.head r
  refine ⟨_,rfl,by omega,by omega,_,_,_,t.sep.cell hh,fun L J=>∃ (k:Nat) (g o:aI),k<=rows/\L=[I (k:Int)]/\h.le g/\Mt J g o bo au cols rows (B9g M w i k),fun L _=>rows-(iAt L 0).toNat,⟨0,g,o,by omega,rfl,C,t⟩,?_⟩
  clear hh an t C
  rintro z bm ⟨k,g2,o2,hk,a2,V,p⟩
  obtain rfl:=sI1 a2
  refine B6 (fun bj=>?_) (fun bk=>?_)
  ·have d:k<rows:=by omega
   obtain ⟨cc,an,hh⟩:=p.head r
   obtain ⟨y,iy,y0,y1,y2,y3⟩:=p.elem r d
   obtain ⟨a5,Z,e5,T,d0,d1,d2,d3⟩:=(rw'.mono P8 V).qat r
   have ey:B9g M w i k i k=M k i:=by unfold B9g;rw [iN (by omega)]
   rw [ey] at iy
   refine ⟨_,rfl,by omega,by omega,_,_,_,p.sep.cell hh,_,rfl,by omega,by omega,_,_,_,p.sep.cell hh,_,rfl,by omega,by omega,_,_,_,_,_,_,_,_,p.sep.cell y0,p.sep.cell y1,p.sep.cell y2,p.sep.cell y3,a5,e5,by omega,by omega,_,_,_,_,_,_,_,_,B5 p.sep.le d0,B5 p.sep.le d1,B5 p.sep.le d2,B5 p.sep.le d3,?_⟩
   refine p.sep.call (A3h (a:=y) (b:=Z) (m:=s) iy T (hM k i d r) (hw i r) (by omega) ?_)
   intro v g3 l3 iv h3 s3
   refine ⟨_,_,_,_,_,_,_,_,rfl,p.sep.le_le s3 l3,_,rfl,by omega,by omega,?_⟩
   refine (p.next s3 l3).store r d iv ?_
   intro h6 o6 t6 _
   rw [wiS k (by omega)]
   refine ⟨⟨k+1,g3,o6,by omega,rfl,Heap.le_trans V l3,t6.congr fun a b _ _=>?_⟩,by simp only [Cd];omega⟩
   unfold C0j B9g
   by_cases e:a=i/\b=k
   ·rw [iP e,iP (by omega),e.1,e.2];rfl
   ·rw [iN e]
    by_cases e3:a<i\/(a=i/\b<k)
    ·rw [iP e3,iP (by omega)]
    ·rw [iN e3,iN (by omega)]
  ·obtain rfl:k=rows:=by omega
   rw [wiS i (by omega)]
   refine ⟨⟨i+1,g2,o2,by omega,rfl,V,p.congr fun a b _ hb=>?_⟩,by simp only [Cd];omega⟩
   unfold B9g
   by_cases e3:a<i\/(a=i/\b<k)
   ·rw [iP e3,iP (by omega)]
   ·rw [iN e3,iN (by omega)]
 obtain rfl:i=cols:=by omega
 have G:=Heap.le_trans C t.sep.le
 have rt:aW J (some ⟨bo,0,none⟩) i rows (prC M w):=(t.congr fun a b ha _=>by unfold B9g;rw [iP (.inl ha)]).rowsV
 clear t C t1
 refine K8 Px (zx:=Ck) rfl (by omega) (by omega) (by omega) (by omega) ?_
 intro b2 ay
 simp only [aK]
 have aw:=(Sep.refl J).new ay (.cells ((bD rows Ck).flatMap enc).toArray D4)
 refine ⟨_,_,_,rfl,aw.call (A47 (m:=sx) (RowsV.mono G rs) (rx.mono P8 G) (by omega) (by omega) (fun i j hi u=>(hM i j hi u).mono hssx) hx (by omega) ?_)⟩
 intro b3 g3 E h3 af
 have l3:=E.le
 have ba:=Heap.le_trans G l3
 have ag:=E.vis P8
 refine ⟨_,_,_,rfl,fun L be=>∃ k:Nat,k<=rows/\L=[I (k:Int)]/\OwnK NQr g3 be b2 rows k (prR i M b x),fun L _=>rows-(iAt L 0).toNat,⟨0,by omega,rfl,g3,_,_,B3 _,af,RowX.mk,List.length_replicate,Row.nil⟩,?_⟩
 rintro z aj ⟨k,hk,eL,g,o,O,C,c,l,q,Q⟩
 obtain rfl:=sI1 eL
 have a4:∀ k,k<rows->Sz (1+i*(2*sx+1)) (sm i (fun j=>M k j*x j)):=fun k hk=>Uj (m:=sx) (w:=i) (f:=fun j=>M k j) (f2:=x) (fun j u=>(hM k j hk u).mono hssx) hx i (aE _)
 refine B6 (fun ao=>?_) (fun ai=>?_)
 ·have d:k<rows:=by omega
  obtain ⟨a5,Z,e5,T,c0,a3,a8,c3⟩:=(rb.mono P8 (Heap.le_trans ba C)).qat d
  obtain ⟨a6,w6,e6,n6,d0,d1,d2,d3⟩:=(ag.mono P8 C).qat d
  refine ⟨a5,e5,by omega,by omega,_,_,_,_,_,_,_,_,B5 c.le c0,B5 c.le a3,B5 c.le a8,B5 c.le c3,a6,e6,by omega,by omega,_,_,_,_,_,_,_,_,B5 c.le d0,B5 c.le d1,B5 c.le d2,B5 c.le d3,?_⟩
  refine c.call (A39 (a:=Z) (b:=w6) (m:=1+i*(2*sx+1)+2*sx) T n6 ((hb k d).mono (by omega)) ((a4 k d).mono (by omega)) (by omega) ?_)
  intro v g8 l8 iv h8 F
  refine ⟨_,_,_,_,_,_,_,_,rfl,c.le_le F l8,_,rfl,by omega,by omega,?_⟩
  refine OwnK.store P8 Ef (y:=v) C l8 F l q Q d rfl iv ?_
  intro h9 ow
  rw [wiS k (by omega)]
  exact ⟨⟨k+1,by omega,rfl,ow⟩,by simp only [Cd];omega⟩
 obtain rfl:k=rows:=by omega
 have N:aG NQr aj (some ⟨b2,0,none⟩) k (prR i M b x):=⟨O,l.rowB.slF c.ole,q,Q.mono P8 c.le⟩
 have aa:J.le aj:=Heap.le_trans l3 (Heap.le_trans C c.le)
 have ar:=Heap.le_trans G aa
 clear Q q l c C ag E af aw
 have bp:se<=40000000:=by
  have:=aF se (show 0<7^(nq+1) from aX (by decide))
  omega
 refine A6m (m:=2*s) (RowsV.mono ar rs) (RowsV.mono aa rt) r1 (by omega) c1 (by omega) r1 (by omega) (fun i j hi u=>(hM i j hi u).mono (by omega)) (fun t j R u=>Ut hs1 hM hw t j R u) (by
  have:i*(2*(2*s)+1)<=40000000:=by omega
  omega) ?_
 intro bg h4 l4 r4
 have hE:∀ k',k'<k*k->Sz se (prE i k M w k'):=fun k' hk=>(B2s hs1 hM hw k' hk).mono q2
 have ax:aW h4 (some ⟨bg,0,none⟩) k k (mtx (prE i k M w) k):=RowsV.congr r4 fun a b _ hb=>(A6d M w hb).symm
 refine ⟨_,_,_,rfl,?_⟩
 have aq:=Heap.le_trans ar l4
 have bh:=Heap.le_trans aa l4
 refine Vf (nq:=nq+1) (m:=se) ax (N.mono P8 l4) r1 (by omega) r1 (by omega) (by omega) (Rt hE) q3 (fun j u=>?_) (by omega) (fun bd b5 h5 l5 r5=>?_) (fun bi h5 l5=>⟨_,_,_,_,rfl,Me (hK0 bi h5 (Heap.le_trans aq l5))⟩)
 ·obtain ⟨p1,p2⟩:=A3i (m:=i) M w (prR i M b x) (Nat.le_of_lt u)
  change (elE (G8 (prE i k M w) (prR i M b x) k) k (k+1) j).cs.length<nq+1
  rcases q0 with q0|q0<;>omega
 refine ⟨_,_,_,_,rfl,Br.nt ?_⟩
 have hg:=hK1 bd
 clear hK1 hK0
 have hX:=Ng (b:=prR i M b x) hE q3 (by omega) (nq:=nq) (by
  obtain ⟨p1,p2⟩:=A3i (m:=i) M w (prR i M b x) (aE k)
  rcases q0 with q0|q0
  ·exact aV p1 q0
  ·exact aV p2 q0)
 generalize A33 (prE i k M w) (prR i M b x) k k=y at *
 have bl:se<=7^nq*se:=aF se (aX (by decide))
 generalize 7^nq*se=Y at *
 have a0:=Heap.le_trans aq l5
 refine A47 (m:=Y) (RowsV.mono (Heap.le_trans bh l5) rt) r5 (by omega) (by omega) (fun t j R u=>(Ut hs1 hM hw t j R u).mono (by omega)) (fun j _=>hX j) (by omega) ?_
 intro b6 h6 ad
 obtain ⟨g6,o6,a9,l6,ah,ak,al,ae⟩:=ad
 have bb:∀ t,t<i->Sz (1+k*(2*Y+1)) (sm k (fun j=>prC M w t j*y j)):=fun t R=>Uj (m:=Y) (w:=k) (f:=fun j=>prC M w t j) (f2:=y) (fun j u=>(Ut hs1 hM hw t j R u).mono (by omega)) (fun j _=>hX j) k (aE _)
 refine ⟨_,_,_,rfl,fun L J=>∃ (n:Nat) (g o:aI) (O:List QV),n<=i/\L=[I (n:Int)]/\h5.le g/\Sep J g o/\RowX o b6 O/\O.length=i/\Row NQr g O i (fun t=>if t<n then prZ k M w x y t else sm k (fun j=>prC M w t j*y j)),fun L _=>i-(iAt L 0).toNat,⟨0,g6,o6,a9,by omega,rfl,l6,ah,ak,al,ae.congr fun t _=>by rw [iN (by omega)]⟩,?_⟩
 clear ae al ak ah l6
 rintro z S ⟨n,g,o,O,hn,eL,C,c,l,q,Q⟩
 obtain rfl:=sI1 eL
 have ap:=Heap.le_trans a0 C
 refine B6 (fun ao=>?_) (fun ai=>?_)
 ·have H:n<i:=by omega
  have rz:aG NQr S (some ⟨b6,0,none⟩) i _:=⟨O,l.rowB.slF c.ole,q,Q.mono P8 c.le⟩
  obtain ⟨Z,am,T⟩:=Q n H
  have az:=l.rowB.slF c.ole
  obtain ⟨a5,e5,D⟩:=SlF.at (by decide) az (i:=n) (by omega)
  have a1:O[n]'(by omega)=Z:=by rw [bH (by omega)] at am;exact aT am
  rw [a1] at D
  change NQr g Z (if n<n then _ else _) at T
  rw [iN (by omega)] at T
  obtain ⟨a6,w6,e6,n6,d0,d1,d2,d3⟩:=(rx.mono P8 ap).qat H
  refine ⟨a5,e5,by omega,by omega,_,_,_,_,_,_,_,_,D 0 _ rfl,D 1 _ rfl,D 2 _ rfl,D 3 _ rfl,a6,e6,by omega,by omega,_,_,_,_,_,_,_,_,B5 c.le d0,B5 c.le d1,B5 c.le d2,B5 c.le d3,?_⟩
  refine c.call (Nn (a:=Z) (b:=w6) (m:=1+k*(2*Y+1)+sx) T n6 ((bb n H).mono (by omega)) ((hx n H).mono (by omega)) (by omega) ?_)
  intro v g8 l8 iv h8 F
  refine ⟨_,_,_,_,_,_,_,_,rfl,c.le_le F l8,_,rfl,by omega,by omega,?_⟩
  refine T7 Ef (y:=v) rfl F l (i:=n) (by omega) ?_
  intro h9 o9 x9 bn a7 bf
  rw [wiS n (by omega)]
  refine ⟨⟨n+1,g8,o9,_,by omega,rfl,Heap.le_trans C l8,a7,bf,by rw [aN];exact q,((Q.mono P8 l8).upd (by omega) iv).congr fun t R=>?_⟩,by simp only [Cd];omega⟩
  by_cases ek:t=n
  ·rw [iP ek,iP (by omega),ek];exact Rat.add_comm _ _
  ·rw [iN ek]
   by_cases av:t<n
   ·rw [iP av,iP (by omega)]
   ·rw [iN av,iN (by omega)]
 obtain rfl:n=i:=by omega
 exact hg b6 S (Heap.le_trans ap c.le) ⟨O,l.rowB.slF c.ole,q,(Q.mono P8 c.le).congr fun t R=>iP R⟩
end
section
variable {h:aI} {K:VP} {A B X W:Option aQ} {n nb nx nw cap bc xc wc:Nat} {r c:Int} {la lb lx lw:Nat->List UInt8}
def RowV.listS{h:aI}{A:Option aQ}{n:Nat}{ls:Nat->List UInt8}(r:aG SSr h A n ls):SlF h A ((aC n).map ls):=by
 obtain ⟨a,s,rfl,q⟩:=r
 have:a=(aC a.length).map ls:=by
  refine List.ext_getElem (by simp) fun i b c=>?_
  have:=q.get (i:=i) b b
  rw [List.getElem_map,List.getElem_range]
  exact this
 rw [<- this];exact s
def Qf(r:aG SSr h A n la)(hn:n<=1000000)(hl:LL n la):aL prog Lo #[.slice A n cap] h (fun v hp=>∃ A' n' c' t,v= .tuple #[.slice A' n' c',.bool t]/\h.le hp/\((t=true/\(∀ i,i<n->aJ (la i))/\n'=n/\aG NQr hp A' n (rvs la))\/(t=false/\¬ ∀ i,i<n->aJ (la i)))):=
 A3m r hn hl (fun x _ _ own=>⟨_,_,_,_,rfl,own.le,.inl ⟨rfl,x,rfl,own.vis P8⟩⟩) (fun x _ l=>⟨_,_,_,_,rfl,l,.inr ⟨rfl,x⟩⟩)
def A6n(rv':aG SSr h A n la)(hn:n<=1000000)(hl:LL n la):aL prog A1g #[Xh r c A n cap] h (fun v hp=>∃ A' n' c' t,v= .tuple #[.slice A' n' c',.bool t]/\h.le hp/\((t=true/\∃ rows cols,MOk r c n la rows cols/\n'=rows/\aW hp A' rows cols (mtx (rvs la) cols))\/(t=false/\¬ Mx r c n la))):=
 B0d rv' hn hl (fun rows cols mk _ _ l a=>⟨_,_,_,_,rfl,l,.inl ⟨rfl,rows,cols,mk,rfl,a⟩⟩) (fun x _ l=>⟨_,_,_,_,rfl,l,.inr ⟨rfl,x⟩⟩)
def C78(r c:Int)(n:Nat)(la:Nat->List UInt8)(nb:Nat)(lb:Nat->List UInt8)(nx:Nat)(lx:Nat->List UInt8)(nw:Nat)(lw:Nat->List UInt8)(hp:aI)(zA:Option aQ)(zn:Nat)(e0:Int):Prop:=
 (PChk r c n la nb lb nx lx nw lw e0/\e0≠0/\zn=0)\/(∃ rows cols,MOk r c n la rows cols/\PChk r c n la nb lb nx lx nw lw 0/\nb=rows/\nx=cols/\nw=cols/\((¬ Gw (prE cols rows (mtx (rvs la) cols) (rvs lw)) (prR cols (mtx (rvs la) cols) (rvs lb) (rvs lx)) rows rows/\e0=8/\zn=0)\/(Gw (prE cols rows (mtx (rvs la) cols) (rvs lw)) (prR cols (mtx (rvs la) cols) (rvs lb) (rvs lx)) rows rows/\e0=0/\zn=cols/\aG SSr hp zA cols (fun i=>I9 (prZ rows (mtx (rvs la) cols) (rvs lw) (rvs lx) (A33 (prE cols rows (mtx (rvs la) cols) (rvs lw)) (prR cols (mtx (rvs la) cols) (rvs lb) (rvs lx)) rows rows) i)))))
def W1A(r c:Int)(n:Nat)(la:Nat->List UInt8)(nb:Nat)(lb:Nat->List UInt8)(nx:Nat)(lx:Nat->List UInt8)(nw:Nat)(lw:Nat->List UInt8)(w:Int):Prop:=
 (¬ A5j r c n la nb lb nx lx nw lw/\w=1)\/(A5j r c n la nb lb nx lx nw lw/\¬ ((nb:Int)=r/\(nx:Int)=c/\(nw:Int)=c)/\w=4)\/(A5j r c n la nb lb nx lx nw lw/\((nb:Int)=r/\(nx:Int)=c/\(nw:Int)=c)/\w=0)
def W2A(r c:Int)(n:Nat)(la:Nat->List UInt8)(nb:Nat)(lb:Nat->List UInt8)(nx:Nat)(lx:Nat->List UInt8)(nw:Nat)(lw:Nat->List UInt8)(k:Nat)(w:Int):Prop:=
 (¬ A5j r c n la nb lb nx lx nw lw/\w=1)\/(A5j r c n la nb lb nx lx nw lw/\¬ ((nb:Int)=r/\(nx:Int)=c/\(nw:Int)=c)/\w=4)\/(A5j r c n la nb lb nx lx nw lw/\((nb:Int)=r/\(nx:Int)=c/\(nw:Int)=c)/\((w=0/\k<=nw/\∀ i,i<k->0<rv (lw i))\/(w=3/\∃ i,i<nw/\rv (lw i)<=0)))
def A0a{rows cols:Nat}(h:rows*cols<=12)(r1:1<=rows)(c1:1<=cols):rows<=12/\cols<=12/\(cols<=3\/rows<=3):=by
 have d:rows<=rows*cols:=Nat.le_mul_of_pos_right rows c1
 have c:cols<=rows*cols:=aF cols r1
 refine ⟨by omega,by omega,?_⟩
 by_cases b:cols<=3
 ·exact .inl b
 ·by_cases a:rows<=3
  ·exact .inr a
  ·have:4*4<=rows*cols:=bC (by omega) (by omega)
   omega
def A83{rows cols:Nat}(h:rows*cols<=12)(r1:1<=rows)(c1:1<=cols)(hx:rows+2*cols<=16):∃ nq,(cols<=nq\/rows<=nq)/\2*(3^(nq+1)*bnd (rows+1) (1+cols*481))+1<=40000000/\7^(nq+1)*(1+cols*481)<=40000000/\2*(1+rows*(2*(7^nq*(1+cols*481))+1)+2*(7^nq*(1+cols*481))+120)+14<=40000000:=by
 obtain ⟨m,k,e⟩:=A0a h r1 c1
 have l:rows=1\/rows=2\/rows=3\/rows=4\/rows=5\/rows=6\/rows=7\/rows=8\/rows=9\/rows=10\/rows=11\/rows=12:=by omega
 unfold bnd
 have key:∀ nq,nq<=3->(cols<=nq\/rows<=nq)->(nq=1\/nq=2\/nq=3)->rows*(cols*481)<=5772->((nq=3->rows<=4/\cols<=4)/\(nq=2->rows<=6/\cols<=6))->2*(3^(nq+1)*(1+(rows+1)*(1+cols*481)+(1+cols*481)))+1<=40000000/\7^(nq+1)*(1+cols*481)<=40000000/\2*(1+rows*(2*(7^nq*(1+cols*481))+1)+2*(7^nq*(1+cols*481))+120)+14<=40000000:=by
  intro nq i _ d b j
  have c:(rows+1)*(1+cols*481)=rows+rows*(cols*481)+(1+cols*481):=by rw [Nat.add_mul,Nat.one_mul,Nat.mul_add,Nat.mul_one]
  rcases d with rfl|rfl|rfl
  ·have a:rows*(2*(7^1*(1+cols*481))+1)=14*rows+14*(rows*(cols*481))+rows:=by grind
   rw [c,a]
   omega
  ·have a:rows*(2*(7^2*(1+cols*481))+1)=98*rows+98*(rows*(cols*481))+rows:=by grind
   rw [c,a]
   omega
  ·have a:rows*(2*(7^3*(1+cols*481))+1)=686*rows+686*(rows*(cols*481))+rows:=by grind
   rw [c,a]
   omega
 have b:rows*(cols*481)<=5772:=by
  rw [<- Nat.mul_assoc]
  omega
 by_cases f:cols<=1\/rows<=1
 ·exact ⟨1,f,key 1 (by omega) f (by omega) b ⟨by omega,by omega⟩⟩
 by_cases g:cols<=2\/rows<=2
 ·refine ⟨2,g,key 2 (by omega) g (by omega) b ⟨by omega,fun _=>?_⟩⟩
  have c1:rows*2<=rows*cols:=Nat.mul_le_mul_left _ (by omega)
  have c2:2*cols<=rows*cols:=aD _ (by omega)
  omega
 ·refine ⟨3,e,key 3 (by omega) e (by omega) b ⟨fun _=>?_,by omega⟩⟩
  have c1:rows*3<=rows*cols:=Nat.mul_le_mul_left _ (by omega)
  have c2:3*cols<=rows*cols:=aD _ (by omega)
  omega
def law_refuses(gl:Gl h)(ra:aG SSr h A n la)(rb:aG SSr h B nb lb)(hnb:nb<=1048576)(rx:aG SSr h X nx lx)(hnx:nx<=1048576)(rw':aG SSr h W nw lw)(hnw:nw<=1048576):aL prog Eu #[Xh r c A n cap,.slice B nb bc,.slice X nx xc,.slice W nw wc] h (C71 h):=by
 refine Pm _ _ _ _ _ _ _ _ _ _ _ _ _ _ ?_
 unfold Ji
 have ax:B4 (B4 ((nb:Int)+(nx:Int))+(nw:Int))=((nb+nx+nw:Nat):Int):=by
  rw [B7 (n:=(nb:Int)+(nx:Int)) (by omega) (by omega),B7 (by omega) (by omega)]
  omega
 rw [ax]
 refine ⟨fun L q=>∃ t,L=[.bool t]/\h.le q/\(t=false->n<=12/\nb+nx+nw<=16/\(∀ i,i<n->(la i).length<=30)/\(∀ i,i<nb->(lb i).length<=30)/\(∀ i,i<nx->(lx i).length<=30)/\∀ i,i<nw->(lw i).length<=30),?_,?_⟩
 ·refine B6 (fun _=>⟨_,rfl,B3 _,fun e=>by cases e⟩) (fun bq=>B6 (fun _=>⟨_,rfl,B3 _,fun e=>by cases e⟩) (fun bn=>?_))
  refine Us ra (by omega) (fun sa=>⟨_,rfl,Br.nt ?_⟩) (fun _=>⟨_,rfl,Me ⟨_,rfl,B3 _,fun e=>by cases e⟩⟩)
  refine La Y9 ?_
  intro be bh
  have l1:h.le (h.put be (.cells #[] J0)):=Heap.le_put _ bh
  have sb:=(rb.mono K0 l1).listS
  refine ⟨_,_,_,rfl,Y3 (α:=List UInt8) Y9 (PrivF.nil _ J0 (some ⟨be,0,none⟩)) (ys:=(aC nb).map lb) (by simp) sb (by simp;omega) (by simp;omega) ?_⟩
  intro A2 c2 h2 g2 l2 p2
  have a9:=Heap.le_trans l1 (Heap.le_trans l2 p2.le)
  refine ⟨_,_,_,rfl,Y3 (α:=List UInt8) Y9 p2 (ys:=(aC nx).map lx) (by simp) (rx.mono K0 a9).listS (by simp;omega) (by simp;omega) ?_⟩
  intro A3 c3 h3 g3 l3 p3
  have bp:=Heap.le_trans l1 (Heap.le_trans l2 (Heap.le_trans l3 p3.le))
  refine ⟨_,_,_,rfl,Y3 (α:=List UInt8) Y9 p3 (ys:=(aC nw).map lw) (by simp) (rw'.mono K0 bp).listS (by simp;omega) (by simp;omega) ?_⟩
  intro A4 c4 h4 g4 l4 p4
  have ao:=Heap.le_trans l1 (Heap.le_trans l2 (Heap.le_trans l3 (Heap.le_trans l4 p4.le)))
  refine ⟨_,_,_,rfl,?_⟩
  have hL:((([]++(aC nb).map lb)++(aC nx).map lx)++(aC nw).map lw).length<=1000000000:=by simp;omega
  have bz:=p4.sl
  have mb:∀ i,i<nb->lb i∈(([]++(aC nb).map lb)++(aC nx).map lx)++(aC nw).map lw:=fun i o=>by
   simp only [aZ,bK,bF]
   exact .inl (.inl (.inr ⟨i,o,rfl⟩))
  have mx:∀ i,i<nx->lx i∈(([]++(aC nb).map lb)++(aC nx).map lx)++(aC nw).map lw:=fun i o=>by
   simp only [aZ,bK,bF]
   exact .inl (.inr ⟨i,o,rfl⟩)
  have mw:∀ i,i<nw->lw i∈(([]++(aC nb).map lb)++(aC nx).map lx)++(aC nw).map lw:=fun i o=>by
   simp only [aZ,bK,bF]
   exact .inr ⟨i,o,rfl⟩
  generalize (([]++(aC nb).map lb)++(aC nx).map lx)++(aC nw).map lw=L at *
  have rL:aG SSr h4 A4 L.length (fun i=>L.getD i []):=⟨L,bz,rfl,fun i o=>⟨L[i],bH o,by simp [List.getD,o]⟩⟩
  refine Us rL hL (fun sL=>⟨_,rfl,_,rfl,ao,fun _=>?_⟩) (fun _=>⟨_,rfl,_,rfl,ao,fun e=>by cases e⟩)
  have al:∀ s∈L,s.length<=30:=fun s hs=>by
   obtain ⟨i,o,e⟩:=List.getElem_of_mem hs
   have:=sL i o
   rw [show L.getD i []=s by simp [List.getD,o,e]] at this
   omega
  exact ⟨by omega,by omega,fun i o=>by have:=sa i o;omega,fun i o=>al _ (mb i o),fun i o=>al _ (mx i o),fun i o=>al _ (mw i o)⟩
 rintro bg b9 ⟨t,eL,R,ht⟩
 obtain rfl:bg=t:=by simpa using eL
 refine Br.of (fun _=>Yr (gl.mono R) ⟨_,rfl,rfl,R⟩) (fun e=>?_)
 obtain ⟨bq,bn,sa,sb,sx,sw⟩:=ht e
 clear ht eL
 have kn:∀ {hq:aI} {K2:Bool->aI->Prop},h.le hq->K2 true hq->aL prog Gk #[] hq (fun r q=>∃ t,r= .bool t/\K2 t q):=fun l k=>Yr (gl.mono l) ⟨_,rfl,k⟩
 have S:∀ {x:List UInt8},x.length<=30->Sz 120 (rv x):=fun hx=>C56 (k:=30) hx (by omega)
 have hs:∀ i,i<n->Sz 120 (rv (la i)):=fun i o=>S (sa i o)
 have am:∀ i,i<nb->Sz 120 (rv (lb i)):=fun i o=>S (sb i o)
 have ad:∀ i,i<nx->Sz 120 (rv (lx i)):=fun i o=>S (sx i o)
 have ak:∀ i,i<nw->Sz 120 (rv (lw i)):=fun i o=>S (sw i o)
 have hl:∀ i,i<n->(la i).length<=100000000:=fun i o=>by have:=sa i o;omega
 have az:∀ i,i<nb->(lb i).length<=100000000:=fun i o=>by have:=sb i o;omega
 have a3:∀ i,i<nx->(lx i).length<=100000000:=fun i o=>by have:=sx i o;omega
 have a4:∀ i,i<nw->(lw i).length<=100000000:=fun i o=>by have:=sw i o;omega
 have hR:∀ m f,MOk r c n la m f->nb=m->nx=f->nw=f->m*f<=12/\m+2*f<=16/\∀ i,i<m->Sz (1+f*481) (prR f (mtx (rvs la) f) (rvs lb) (rvs lx) i):=by
  intro m f mk G u H
  subst G u
  refine ⟨by have:=mk.len;omega,by omega,fun i o=>?_⟩
  have e:n=nb*nx:=mk.len
  rw [e] at hs
  refine (C3b (s:=120) (k:=120) (by omega) (Rt hs) am ad i o).mono ?_
  have:=mk.c1
  omega
 refine FCall.mono (A1m (K:=fun v q=>∃ zA zn zc e0,v= .tuple #[.slice zA zn zc,I e0]/\h.le q/\C78 r c n la nb lb nx lx nw lw q zA zn e0) (s:=120) (sx:=120) (gl.mono R) (ra.mono K0 R) (rb.mono K0 R) (rx.mono K0 R) (rw'.mono K0 R) (by omega) (by omega) (by omega) (by omega) hl az a3 a4 (by omega) (by omega) (by omega) hs ak am ad (fun m f mk G u H=>?_) (fun e q l x D=>⟨_,_,_,_,rfl,Heap.le_trans R l,.inl ⟨x,D,rfl⟩⟩) (fun m f mk x G u H g q l=>⟨_,_,_,_,rfl,Heap.le_trans R l,.inr ⟨m,f,mk,x,G,u,H,.inl ⟨g,rfl,rfl⟩⟩⟩) (fun m f mk x G u H O A' c' q l rz=>⟨_,_,_,_,rfl,Heap.le_trans R l,.inr ⟨m,f,mk,x,G,u,H,.inr ⟨O,rfl,rfl,rz⟩⟩⟩)) ?_
 ·obtain ⟨f1,f2,f3⟩:=hR m f mk G u H
  obtain ⟨nq,q0,q4,q5,q7⟩:=A83 f1 mk.r1 mk.c1 f2
  have bb:=mk.c1
  obtain ⟨_,aq,_⟩:=A0a f1 mk.r1 mk.c1
  exact ⟨1+f*481,nq,q0,by omega,by omega,f3,q4,q5,by omega,q7⟩
 rintro r3 b7 ⟨zA,zn,zc,e0,rfl,l8,hz⟩
 refine ⟨_,_,_,_,rfl,?_⟩
 refine FCall.mono (A6n (ra.mono K0 l8) (by omega) hl) ?_
 rintro r4 cc ⟨A9,n9,c9,t9,rfl,l9,d9⟩
 have av:=Heap.le_trans l8 l9
 refine ⟨_,_,_,_,rfl,FCall.mono (Qf (rb.mono K0 av) (by omega) az) ?_⟩
 rintro r5 b1 ⟨A10,bv,b6,bx,rfl,an,a2⟩
 have ae:=Heap.le_trans av an
 refine ⟨_,_,_,_,rfl,FCall.mono (Qf (rx.mono K0 ae) (by omega) a3) ?_⟩
 rintro r6 b3 ⟨A11,a6,cb,bu,rfl,Z,aw⟩
 have ag:=Heap.le_trans ae Z
 refine ⟨_,_,_,_,rfl,FCall.mono (Qf (rw'.mono K0 ag) (by omega) a4) ?_⟩
 rintro r7 C ⟨A12,z,b5,bm,rfl,N,ac⟩
 have F:=Heap.le_trans ag N
 have y9:t9=true↔Mx r c n la:=by
  rcases d9 with ⟨e,m,f,mk,_⟩|⟨e,g⟩
  ·exact ⟨fun _=>⟨_,_,mk⟩,fun _=>e⟩
  ·exact ⟨fun u=>(by rw [e] at u;cases u),fun x=>absurd x g⟩
 have a1:bx=true ↔ ∀ i,i<nb->aJ (lb i):=by
  rcases a2 with ⟨e,x,_⟩|⟨e,g⟩
  ·exact ⟨fun _=>x,fun _=>e⟩
  ·exact ⟨fun u=>(by rw [e] at u;cases u),fun x=>absurd x g⟩
 have ap:bu=true ↔ ∀ i,i<nx->aJ (lx i):=by
  rcases aw with ⟨e,x,_⟩|⟨e,g⟩
  ·exact ⟨fun _=>x,fun _=>e⟩
  ·exact ⟨fun u=>(by rw [e] at u;cases u),fun x=>absurd x g⟩
 have ay:bm=true ↔ ∀ i,i<nw->aJ (lw i):=by
  rcases ac with ⟨e,x,_⟩|⟨e,g⟩
  ·exact ⟨fun _=>x,fun _=>e⟩
  ·exact ⟨fun u=>(by rw [e] at u;cases u),fun x=>absurd x g⟩
 have tf:∀ {t:Bool} {P:Prop},(t=true↔P)->(!t)=true->¬ P:=fun y e x=>by rw [y.2 x] at e;cases e
 have tt:∀ {t:Bool} {P:Prop},(t=true↔P)->(!t)=false->P:=fun {t P} y e=>y.1 (by cases t<;>simp_all)
 refine ⟨_,_,_,_,rfl,fun L q=>q=C/\∃ w,L=[I w]/\W1A r c n la nb lb nx lx nw lw w,?_,?_⟩
 ·have aa:¬ A5j r c n la nb lb nx lx nw lw->(C=C/\∃ w,[I (1:Int)]=[I w]/\W1A r c n la nb lb nx lx nw lw w):=fun x=>⟨rfl,_,rfl,.inl ⟨x,rfl⟩⟩
  refine Br.of (fun e=>aa fun x=>tf y9 e x.1) (fun e9=>Br.of (fun e=>aa fun x=>tf a1 e x.2.1) (fun br=>Br.of (fun e=>aa fun x=>tf ap e x.2.2.1) (fun bk=>Br.of (fun e=>aa fun x=>tf ay e x.2.2.2) (fun bl=>?_))))
  have val:A5j r c n la nb lb nx lx nw lw:=⟨tt y9 e9,tt a1 br,tt ap bk,tt ay bl⟩
  have M:¬ ((nb:Int)=r/\(nx:Int)=c/\(nw:Int)=c)->(C=C/\∃ w,[I (4:Int)]=[I w]/\W1A r c n la nb lb nx lx nw lw w):=fun x=>⟨rfl,_,rfl,.inr (.inl ⟨val,x,rfl⟩)⟩
  exact I3 (fun e=>M fun x=>e x.1) (fun G=>I3 (fun e=>M fun x=>e x.2.1) (fun u=>I3 (fun e=>M fun x=>e x.2.2) (fun H=>⟨rfl,_,rfl,.inr (.inr ⟨val,⟨G,u,H⟩,rfl⟩)⟩)))
 rintro ah ai ⟨rfl,w0,eL,ba⟩
 obtain rfl:ah=w0:=by simpa using eL
 refine ⟨fun L q=>q=ai/\∃ w,L=[I w]/\PChk r c n la nb lb nx lx nw lw w,?_,?_⟩
 ·refine ⟨fun L q=>q=ai/\∃ (k:Nat) (w:Int),L=[I w,I (k:Int)]/\W2A r c n la nb lb nx lx nw lw k w,fun L _=>nw-(iAt L 1).toNat,⟨rfl,0,ah,rfl,?_⟩,?_⟩
  ·rcases ba with ⟨a,b⟩|⟨a,b,d⟩|⟨a,b,d⟩
   ·exact .inl ⟨a,b⟩
   ·exact .inr (.inl ⟨a,b,d⟩)
   ·exact .inr (.inr ⟨a,b,.inl ⟨d,by omega,fun i o=>by omega⟩⟩)
  rintro E n0 a8 ⟨rfl,k,w,eL,hw⟩
  simp only [List.cons.injEq,Value.int.injEq,true_and,and_true] at eL
  obtain ⟨rfl,rfl⟩:=eL
  have out:E≠0->PChk r c n la nb lb nx lx nw lw E:=fun D=>by
   rcases hw with ⟨a,b⟩|⟨a,b,d⟩|⟨a,b,⟨d,_⟩|⟨d,i,o⟩⟩
   ·exact .inl ⟨a,b⟩
   ·exact .inr (.inl ⟨a,b,d⟩)
   ·exact absurd d D
   ·exact .inr (.inr (.inl ⟨a,b,⟨i,o⟩,d⟩))
  refine B6 (fun ca=>D8 (fun e=>?_) (fun e=>⟨rfl,_,rfl,out e⟩)) (fun b8=>⟨rfl,_,rfl,?_⟩)
  ·subst e
   obtain ⟨val,sh,hk,q⟩:A5j r c n la nb lb nx lx nw lw/\((nb:Int)=r/\(nx:Int)=c/\(nw:Int)=c)/\k<=nw/\∀ i,i<k->0<rv (lw i):=by
    rcases hw with ⟨a,b⟩|⟨a,b,d⟩|⟨a,b,⟨d,hk,q⟩|⟨d,_⟩⟩
    ·exact absurd b (by decide)
    ·exact absurd d (by decide)
    ·exact ⟨a,b,hk,q⟩
    ·exact absurd d (by decide)
   rcases ac with ⟨_,_,rfl,T⟩|⟨_,g⟩
   ·have ar:k<z:=by omega
    obtain ⟨a5,w5,e5,n5,c0,c1,c2,c3⟩:=T.qat ar
    refine ⟨fun L q=>q=a8/\∃ w,L=[I w]/\W2A r c n la nb lb nx lx z lw (k+1) w,⟨a5,e5,by omega,by omega,_,_,_,_,_,_,_,_,c0,c1,c2,c3,Cb n5 ⟨_,rfl,B6 (fun e=>⟨rfl,_,rfl,.inr (.inr ⟨val,sh,.inr ⟨rfl,k,ar,A0c.1 e⟩⟩)⟩) (fun e=>⟨rfl,_,rfl,.inr (.inr ⟨val,sh,.inl ⟨rfl,by omega,fun i o=>?_⟩⟩)⟩)⟩⟩,?_⟩
    ·by_cases ek:i=k
     ·rw [ek];exact A63.1 (show 0<(rvs lw k).num.sign by omega)
     ·exact q i (by omega)
    rintro Q b2 ⟨rfl,w2,bd,bf⟩
    obtain rfl:Q=w2:=by simpa using bd
    rw [wiS k (by omega)]
    refine ⟨⟨rfl,k+1,Q,rfl,bf⟩,?_⟩
    show z-((k+1:Nat):Int).toNat<z-(k:Int).toNat
    omega
   ·exact absurd val.2.2.2 g
  ·by_cases e:E=0
   ·subst e
    rcases hw with ⟨a,b⟩|⟨a,b,d⟩|⟨a,b,⟨d,hk,q⟩|⟨d,_⟩⟩
    ·exact absurd b (by decide)
    ·exact absurd d (by decide)
    ·rcases ac with ⟨_,_,rfl,T⟩|⟨_,g⟩
     ·exact .inr (.inr (.inr ⟨a,b,fun i o=>q i (by omega),rfl⟩))
     ·exact absurd a.2.2.2 g
    ·exact absurd d (by decide)
   ·exact out e
 rintro aj b0 ⟨rfl,w3,bj,V⟩
 obtain rfl:aj=w3:=by simpa using bj
 refine I3 (fun D=>?_) (fun he=>?_)
 ·refine kn F (K2:=fun t q=>Br t _ _) (Br.of (fun _=>?_) (fun e=>by cases e))
  rcases hz with ⟨x,_,rfl⟩|⟨m,f,_,x,_⟩
  ·exact D8 (fun _=>⟨rfl,F⟩) (fun e=>absurd (x.eq V) e)
  ·exact absurd (V.eq x) D
 subst he
 rcases hz with ⟨x,D,_⟩|⟨m,f,mk,_,G,u,H,hz⟩
 ·exact absurd (x.eq V) D
 have val:A5j r c n la nb lb nx lx nw lw:=by
  rcases V with ⟨_,e⟩|⟨_,_,e⟩|⟨_,_,_,e⟩|⟨a,_⟩
  ·exact absurd e (by decide)
  ·exact absurd e (by decide)
  ·exact absurd e (by decide)
  ·exact a
 rcases d9.symm with ⟨_,g⟩|⟨_,bw,p,a0,rfl,r9⟩
 ·exact absurd val.1 g
 rcases a2.symm with ⟨_,g⟩|⟨_,_,rfl,bi⟩
 ·exact absurd val.2.1 g
 rcases aw.symm with ⟨_,g⟩|⟨_,_,rfl,bt⟩
 ·exact absurd val.2.2.1 g
 rcases ac.symm with ⟨_,g⟩|⟨_,_,rfl,T⟩
 ·exact absurd val.2.2.2 g
 obtain rfl:n9=m:=by have:=mk.er;have:=a0.er;omega
 obtain rfl:p=f:=by have:=mk.ec;have:=a0.ec;omega
 obtain ⟨f1,f2,f3⟩:=hR n9 p mk G u H
 obtain ⟨nq,q0,q4,q5,q7⟩:=A83 f1 mk.r1 mk.c1 f2
 obtain ⟨_,aq,_⟩:=A0a f1 mk.r1 mk.c1
 have bb:=mk.c1
 have hM:∀ i j,i<n9->j<p->Sz 120 (mtx (rvs la) p i j):=by
  have e:n=n9*p:=mk.len
  rw [e] at hs
  exact Rt hs
 obtain rfl:bv=n9:=G
 obtain rfl:a6=p:=u
 obtain rfl:z=a6:=H
 have bo:=RowsV.mono (Heap.le_trans an (Heap.le_trans Z N)) r9
 have au:=bi.mono P8 (Heap.le_trans Z N)
 have a7:=bt.mono P8 N
 have pz:=B76 (b:=rvs lb) (by omega) hM ak ad q0 (show 2*120<=1+z*481 by omega) (show 1+z*(2*(2*120)+1)<=1+z*481 by omega) f3
 refine A0v (s:=120) (sx:=120) (se:=1+z*481) (nq:=nq) bo au a7 T mk.r1 mk.r2 mk.c1 mk.c2 (by omega) (by omega) hM ak am ad q0 (by omega) (by omega) f3 q5 (by omega) (by omega) (fun O b' h' l rz=>⟨_,_,_,_,rfl,Br.nt ?_⟩) (fun g h' l=>⟨_,_,_,_,rfl,Me ?_⟩)
 ·have J:=Heap.le_trans F l
  refine kn J (K2:=fun t q=>Br t _ _) (Br.of (fun _=>?_) (fun e=>by cases e))
  rcases hz with ⟨g,_⟩|⟨_,rfl,rfl,r0⟩
  ·exact absurd O g
  refine D8 (fun _=>?_) (fun e=>absurd rfl e)
  refine A9r rz (by omega) pz (by omega) ?_
  intro b4 h4 af
  have l4:=af.le
  refine ⟨_,_,_,rfl,B2f (r0.mono K0 (Heap.le_trans l9 (Heap.le_trans an (Heap.le_trans Z (Heap.le_trans N (Heap.le_trans l l4)))))) (af.vis K0) (by omega) (fun _ _=>⟨_,rfl,rfl,Heap.le_trans J l4⟩) (fun hx=>absurd ⟨rfl,fun i _=>rfl⟩ hx)⟩
 ·have J:=Heap.le_trans F l
  refine kn J (K2:=fun t q=>Br t _ _) (Br.of (fun _=>?_) (fun e=>by cases e))
  rcases hz with ⟨_,rfl,rfl⟩|⟨O,_⟩
  ·exact D8 (fun _=>⟨rfl,J⟩) (fun e=>absurd rfl e)
  ·exact absurd O g
end
end Go.Proofs.YtmbfcbbkbefgfaaGreatDoor
namespace Go.Proofs.YtmbfcbbkbefgfaaGreatDoor
set_option maxRecDepth 20000
open Go Go.RowKit
def C3v(s:ByteArray):bs s.data.toList=s:=by
 cases s;simp [bs]
def A3l{H:Type}{enc:aY × Value->H}{P:Program}{W:World}{base:Nat}{sp:Nat->Bool}{held:Bool}{t e:aY}{fuel:Nat}{A:Option aQ}{len cap:Nat}{x:DataW H × List MemPlace}(ht:P.underlying t=some (.slice e))(he:P.underlying e=some .string)(hc:P.cellsOf e=1)
 (hf:DataW.trod enc P W base sp held fuel t [.slice A len cap]=some x):∃ ls:Nat->List UInt8,aG SSr (memOf W) A len ls/\len<=maxLen:=by
 rcases Deep.open_strs ht he hc hf with ⟨b,_⟩|⟨a,l,c,m,Sx,b,_,o,n,g,_,d⟩
 ·simp at b
  obtain ⟨rfl,rfl,rfl⟩:=b
  exact ⟨fun _=>[],RowV.nil,Nat.zero_le _⟩
 ·simp at b
  obtain ⟨rfl,rfl,rfl⟩:=b
  have k:len<=m:=by rw [g];split<;>omega
  have sl:SlV (memOf W) (some a) (((aC len).map fun i=>(Sx i).data.toList).map fun l=>Value.string (bs l)):=by
   refine .inr ⟨a,rfl,fun i v f=>?_⟩
   rw [List.getElem?_map,List.getElem?_map] at f
   by_cases j:i<len
   ·rw [List.getElem?_range j] at f
    simp only [Option.map_some,aP,C3v] at f
    rw [<- f]
    exact Qi (d i (by omega)).1
   ·rw [List.getElem?_eq_none (by simpa using j)] at f;cases f
  have:=B2h sl
  rw [List.length_map,List.length_range] at this
  exact ⟨_,this,by omega⟩
def open_mat{H:Type}{enc:aY × Value->H}{P:Program}{W:World}{base:Nat}{sp:Nat->Bool}{held:Bool}{r:Reach}{b0:Nat}{t e:aY}{f0 f1 f2:Field}{v:Value}{d:DataW H}{ps:List MemPlace}(ht:P.underlying t=some (.struct #[f0,f1,f2]))(u0:P.underlying f0.type=some (.int .i64))(u1:P.underlying f1.type=some (.int .i64))(u2:P.underlying f2.type=some (.slice e))(ue:P.underlying e=some .string)
 (hoff:f0.offset=0/\f1.offset=1/\f2.offset=2/\P.cellsOf f0.type=1/\P.cellsOf f1.type=1/\P.cellsOf f2.type=1/\P.cellsOf t=3/\P.cellsOf e=1)
 (hval:Value.okWide P W r b0 t v) (hd:DataW.Trod enc P W base sp held t v d ps):∃ (x y:Int) (A:Option aQ) (len cap:Nat) (ls:Nat->List UInt8),v= .agg #[.int .i64 x,.int .i64 y,.slice A len cap]/\aG SSr (memOf W) A len ls/\len<=maxLen:=by
 obtain ⟨G,J,L,c0,c1,c2,F,w⟩:=hoff
 obtain ⟨i,rfl,b⟩:=WideShapes.okWide_struct ht hval
 obtain ⟨u,N⟩:=hd
 obtain ⟨Q,R,T,n,O,S,B,D,f⟩:=Deep.trod_struct3 ht N
 rw [G,c0] at B
 rw [J,c1] at D
 rw [L,c2] at f
 obtain ⟨s,j,_,_⟩:=DataW.trod_int u0 B
 obtain ⟨C,k,_,_⟩:=DataW.trod_int u1 D
 rw [F] at b
 have g:i.toList.length=3:=by simpa using b
 obtain ⟨p,q,z,hm⟩:∃ p q z,i.toList=[p,q,z]:=by
  match h:i.toList,g with
  | [p,q,z],_=>exact ⟨p,q,z,rfl⟩
 simp only [Value.cells] at j k f
 rw [hm] at j k f
 simp at j k f
 have M:∃ A len cap,z= .slice A len cap:=by
  rcases Deep.open_strs u2 ue w f with ⟨b,_⟩|⟨a,l,c,m,Sx,b,_⟩
  ·simp at b;exact ⟨_,_,_,b⟩
  ·simp at b;exact ⟨_,_,_,b⟩
 obtain ⟨A,len,cap,rfl⟩:=M
 obtain ⟨ls,E,o⟩:=A3l u2 ue w f
 have:i=#[.int .i64 s,.int .i64 C,.slice A len cap]:=by rw [<- Array.toArray_toList (xs:=i),hm,j,k]
 exact ⟨s,C,A,len,cap,ls,by rw [this],E,o⟩
end Go.Proofs.YtmbfcbbkbefgfaaGreatDoor
namespace Go.Proofs.YtmbfcbbkbefgfaaGreatDoor
set_option maxRecDepth 20000
open Go Go.RowKit
def B7u{H:Type}{f:Nat->List UInt8}: ∀ n,n<=Rows.uptoBulkAll ((aC n).map fun i=>(DataW.lit (.string (f i)):DataW H)):=by
 have app:∀ (l:List (DataW H)) d,Rows.uptoBulkAll (l++[d])=Rows.uptoBulkAll l+Rows.uptoBulk d:=by
  intro l d
  induction l with
  | nil=>simp [Rows.uptoBulkAll]
  | cons x l ih=>rw [List.cons_append,Rows.uptoBulkAll,ih,Rows.uptoBulkAll];omega
 intro n
 induction n with
 | zero=>exact Nat.zero_le _
 | succ n ih=>
  rw [List.range_succ,List.map_append,List.map_cons,List.map_nil,app,Rows.uptoBulk]
  omega
def open_strU{H:Type}{enc:aY × Value->H}{P:Program}{W:World}{base:Nat}{sp:Nat->Bool}{held:Bool}{t e:aY}{fuel:Nat}{A:Option aQ}{len cap:Nat}{x:DataW H × List MemPlace}(ht:P.underlying t=some (.slice e))(he:P.underlying e=some .string)(hc:P.cellsOf e=1)
 (hf:DataW.trod enc P W base sp held fuel t [.slice A len cap]=some x):∃ ls:Nat->List UInt8,aG SSr (memOf W) A len ls/\len<=Rows.uptoBulk x.1:=by
 obtain ⟨ls,j,_⟩:=A3l ht he hc hf
 refine ⟨ls,j,?_⟩
 rcases Deep.open_strs ht he hc hf with ⟨b,_⟩|⟨a,l,c,m,Sx,b,_,p,n,k,g,d⟩
 ·simp at b
  obtain ⟨rfl,rfl,rfl⟩:=b
  exact Nat.zero_le _
 ·simp at b
  obtain ⟨rfl,rfl,rfl⟩:=b
  have o:=B7u (H:=H) (f:=fun i=>(Sx i).data.toList) len
  rw [g]
  show _<=Rows.uptoBulk (.slice _ _)
  rw [Rows.uptoBulk]
  omega
