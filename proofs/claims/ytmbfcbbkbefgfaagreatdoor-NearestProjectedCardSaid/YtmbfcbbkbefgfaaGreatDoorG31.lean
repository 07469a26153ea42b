/- A part. -/
import Derived.Test.YtmbfcbbkbefgfaaGreatDoorG29
import Derived.Test.YtmbfcbbkbefgfaaGreatDoorG30
open Go.Proofs.Tryz
set_option linter.all false
open Int renaming toNat_natCast->aD,natAbs_natCast->aH
open List renaming length_take->aK,length_set->aM
open Nat renaming le_refl->aC,mul_le_mul_right->aF,mul_comm->aL,pow_le_pow_right->aN,div_lt_of_lt_mul->aO,mod_lt->aP,mul_le_mul->aR,le_trans->aS,le_mul_of_pos_left->aT
open Option.some renaming inj->aQ
open _root_.Go.Proofs.YtmbfcbbkbefgfaaGreatDoor renaming FCall->aE,Heap->aG,RowV->aI,IsNum->aJ
namespace Go.Proofs.YtmbfcbbkbefgfaaGreatDoor
set_option maxRecDepth 20000
open Go
def A69{q:Rat}:q.num.sign<0↔q<0:=by rw [Int.sign_neg_iff,Rat.lt_iff];simp
def B2r{q:Rat}:0<q.num.sign↔0<q:=by rw [Int.sign_pos_iff,Rat.lt_iff];simp
def A6a{q:Rat}:q.num.sign<=0↔q<=0:=by rw [<- Rat.not_lt,<- B2r];omega
def B26(z:Int):Hs z=H1 (z:Rat):=by rw [A04 (by simp),Rat.num_intCast]
def B2l{m:Nat}{q:Rat}{f:Int}(h:Sz m q)(h1:(f:Rat)<q)(h2:q<f+1):Sz m (q-f)/\Sz m (q-f)⁻¹:=by
 obtain ⟨a,b,c,_⟩:=Jb h1 h2
 obtain ⟨d,e⟩:=A0b q f
 have g:=h.den
 refine ⟨⟨?_,by rw [e];exact g⟩,⟨by rw [a];exact g,?_⟩⟩
 ·rw [d,<- b];exact g.le (by rw [aH,aH];omega)
 ·exact g.le (by rw [aH,aH];omega)
def B84{m:Nat}{q:Rat}(h:Sz m q)(hm:1<=m):Sz m (q.floor:Rat):=Sz.int (Ti h) hm
def C2h{m:Nat}{q:Rat}(h:Sz m q):ZB m q.ceil:=by
 rw [Rat.ceil_eq_neg_floor_neg];exact (Ti h.neg).neg
def C2i{m:Nat}{q:Rat}(h:Sz m q)(hm:1<=m):Sz m (q.ceil:Rat):=Sz.int (C2h h) hm
section
variable {h:aG} {K:VP} {m:Nat} {a b w:QV} {p q:Rat}
def Ce(gl:Gl h)(hq:Sz m q)(hm1:1<=m)(hm:m<=283)(h0:q≠0)(hK:K (.string (bs (H1 q⁻¹))) h):aE prog Cn #[.string (bs (H1 q))] h K:=by
 refine A7y _ ?_
 unfold A9w
 have a:H1 1=[49]:=by simp [H1,Hs,O1,U5,I6,dch]
 show aE _ _ #[.string (bs [49]),_] _ _
 rw [<- a]
 refine B2c gl (Tx.of (Sz.int (z:=1) (ZB.one hm1) hm1) (by omega)) (Tx.of hq (by omega)) hm1 (by omega) ?_ ?_
 ·intro _
  rw [D8,D8,Rat.div_def]
  refine ⟨_,_,rfl,?_⟩
  have b:((1:Int):Rat)*q⁻¹=q⁻¹:=by rw [Rat.intCast_one,Rat.one_mul]
  first
  | (rw [b];exact hK)
  | (rw [Rat.one_mul];exact hK)
 ·intro e;rw [D8] at e;exact absurd e h0
def Pa:∀ n (lo hi:Rat) (h:aG) (K:VP),lo.den+hi.den<=n->Gl h->0<lo->lo<=hi->Sz m lo->Sz m hi->1<=m->m<=280->K (.string (bs (H1 (Hr lo hi)))) h->aE prog Y8 #[.string (bs (H1 lo)),.string (bs (H1 hi))] h K:=by
 intro n
 induction n with
 | zero=>intro lo hi h K z;have:=lo.den_nz;omega
 | succ n ih=>
  intro lo hi h K z b B f sl w a D o
  have C:0<hi:=Std.lt_of_lt_of_le B f
  have i:=Tx.of sl (by omega)
  have s:=Tx.of w (by omega)
  refine Jt _ _ ?_
  unfold Ps
  refine Cj b s.len ⟨_,rfl,B6 (fun e=>?_) (fun _=>?_)⟩
  ·rw [D8,A69] at e;exfalso;grind
  refine Cj b i.len ⟨_,rfl,B6 (fun e=>?_) (fun _=>?_)⟩
  ·rw [D8,A6a] at e;exfalso;grind
  refine B01 b i (by omega) ⟨_,rfl,?_⟩
  rw [D8,B26]
  refine Nn b (Tx.of (C2i sl a) (by omega)) s (by omega) ⟨_,rfl,B6 (fun e=>?_) (fun e=>?_)⟩
  ·rw [D8,D8,B4y] at e
   rw [Ug e] at o
   exact o
  ·rw [D8,D8,B4y] at e
   obtain ⟨j,l,k⟩:=B3n (fun x=>x.elim e (fun y=>y f))
   rw [Qd e f] at o
   refine A62 b i (by omega) ⟨_,rfl,?_⟩
   rw [D8,B26]
   have A:=B84 sl a
   have t:=Tx.of A (by omega)
   obtain ⟨q,p⟩:=B2l sl j (Std.lt_of_le_of_lt l k)
   obtain ⟨r,g⟩:=B2l w (Std.lt_of_lt_of_le j l) k
   obtain ⟨_,_,G,H⟩:=Jb j (Std.lt_of_le_of_lt l k)
   obtain ⟨_,_,F,J⟩:=Jb (Std.lt_of_lt_of_le j l) k
   refine Tz b s t (by omega) ⟨_,rfl,?_⟩
   rw [D8,D8]
   refine Ce b r a (by omega) (by grind) ⟨_,rfl,?_⟩
   refine Tz b i t (by omega) ⟨_,rfl,?_⟩
   rw [D8,D8]
   refine Ce b q a (by omega) (by grind) ⟨_,rfl,?_⟩
   have c:(hi-lo.floor)⁻¹<=(lo-lo.floor)⁻¹:=Cm (by grind) (by grind)
   have d:0<(hi-lo.floor)⁻¹:=by grind
   refine ih _ _ _ _ (by omega) b d c g p a D ⟨_,rfl,?_⟩
   have u:=A8c d c g
   have E:=(B7i d c).1
   generalize Hr (hi-lo.floor)⁻¹ (lo-lo.floor)⁻¹=x at *
   refine Ce b u a (by omega) (by grind) ⟨_,rfl,?_⟩
   refine A35 b t (Tx.of (u.inv a) (by omega)) (by omega) ⟨_,rfl,?_⟩
   rw [D8,D8];exact o
def Xk{lo hi:Rat}(gl:Gl h)(hle:lo<=hi)(sl:Sz m lo)(sh:Sz m hi)(hm1:1<=m)(hm:m<=280)(hK:K (.string (bs (H1 (B2q lo hi)))) h):aE prog Y8 #[.string (bs (H1 lo)),.string (bs (H1 hi))] h K:=by
 unfold B2q at hK
 have g:=Tx.of sl (by omega)
 have f:=Tx.of sh (by omega)
 by_cases a:hi<0
 ·rw [iP a] at hK
  refine Jt _ _ ?_
  unfold Ps
  refine Cj gl f.len ⟨_,rfl,B6 (fun _=>?_) (fun e=>?_)⟩
  ·refine Ua gl f.len ⟨_,rfl,Ua gl g.len ⟨_,rfl,?_⟩⟩
   rw [D8,D8]
   have d:0 < -hi:=by grind
   have c: -hi <= -lo:=by grind
   refine Pa _ _ _ _ _ (aC _) gl d c sh.neg sl.neg hm1 hm ⟨_,rfl,?_⟩
   have i:=A8c d c sh.neg
   refine Ua gl (Tx.of i (by omega)).len ⟨_,rfl,?_⟩
   rw [D8];exact hK
  ·rw [D8,A69] at e;exact absurd a e
 ·rw [iN a] at hK
  by_cases b:lo<=0
  ·rw [iP b,B25] at hK
   refine Jt _ _ ?_
   unfold Ps
   refine Cj gl f.len ⟨_,rfl,B6 (fun e=>?_) (fun _=>?_)⟩
   ·rw [D8,A69] at e;exact absurd e a
   refine Cj gl g.len ⟨_,rfl,B6 (fun _=>hK) (fun e=>?_)⟩
   rw [D8,A6a] at e;exact absurd b e
  ·rw [iN b] at hK
   exact Pa _ _ _ _ _ (aC _) gl (Rat.not_le.1 b) hle sl sh hm1 hm hK
def Vn{x y:List UInt8}(gl:Gl h)(hx:x.length<=570)(hy:y.length<=570)(sx:Sz m (rv x))(sy:Sz m (rv y))(hm1:1<=m)(hm:m<=280)(hK:∀ (r:List UInt8) (e:Int),(¬ (aJ x/\aJ y)->r=[]/\e=1)->(aJ x->aJ y->rv y<rv x->r=[]/\e=3)->(aJ x->aJ y->rv x<=rv y->r=H1 (B2q (rv x) (rv y))/\e=0)->K (.tuple #[.string (bs r),I e]) h):aE prog Ix #[.string (bs x),.string (bs y)] h K:=by
 refine A2k _ _ ?_
 unfold Zy
 refine ⟨fun L k=>k=h/\∃ t:Bool,L=[.bool t]/\(t=true ↔ ¬ (aJ x/\aJ y)),Ch gl (by omega) (fun e=>?_) (fun e=>?_),?_⟩
 ·refine ⟨_,rfl,P6 (Ch gl (by omega) (fun g=>?_) (fun g=>?_))⟩
  ·exact ⟨_,rfl,rfl,false,rfl,by simp [e,g]⟩
  ·exact ⟨_,rfl,rfl,true,rfl,by simp [g]⟩
 ·exact ⟨_,rfl,P6 ⟨rfl,true,rfl,by simp [e]⟩⟩
 rintro f q ⟨rfl,t,p,j⟩
 obtain rfl:f=t:=by simpa using p
 refine Br.of (fun e=>?_) (fun e=>?_)
 ·have:=j.1 e
  exact hK [] 1 (fun _=>⟨rfl,rfl⟩) (fun a b=>absurd ⟨a,b⟩ this) (fun a b=>absurd ⟨a,b⟩ this)
 ·have c:aJ x/\aJ y:=by
   apply Classical.byContradiction
   intro o
   rw [j.2 o] at e;cases e
  refine Nn gl ⟨by omega,sy⟩ ⟨by omega,sx⟩ (by omega) ⟨_,rfl,B6 (fun d=>?_) (fun d=>?_)⟩
  ·rw [B4x] at d
   exact hK [] 3 (fun a=>absurd c a) (fun _ _ _=>⟨rfl,rfl⟩) (fun _ _ a=>absurd d (Rat.not_lt.2 a))
  ·rw [B4x,Rat.not_lt] at d
   have ex:=B23 c.1
   have n:=B23 c.2
   have key:=Xk (K:=fun l i=>∃ (t20:ByteArray),l= .string t20/\K (.tuple #[.string t20,I (0:Int)]) i) gl d sx sy hm1 hm ⟨_,rfl,hK _ 0 (fun a=>absurd c a) (fun _ _ a=>absurd a (Rat.not_lt.2 d)) (fun _ _ _=>⟨rfl,rfl⟩)⟩
   rw [ex,n] at key
   exact key
end
def B0j:B2q (mkRat 3 10) (mkRat 2 5)=mkRat 1 3:=by
 unfold B2q
 rw [iN (by decide +kernel),iN (by decide +kernel),Qd (by decide +kernel) (by decide +kernel)]
 have a:(mkRat 3 10).floor=0:=by decide +kernel
 have b:(mkRat 2 5-((0:Int):Rat))⁻¹=mkRat 5 2:=by decide +kernel
 have c:(mkRat 3 10-((0:Int):Rat))⁻¹=mkRat 10 3:=by decide +kernel
 rw [a,b,c,Ug (by decide +kernel)]
 decide +kernel
def B9n:H1 (mkRat 3 10)=[51,47,49,48]:=by
 have b:(mkRat 3 10).num=3:=by decide +kernel
 have a:(mkRat 3 10).den=10:=by decide +kernel
 simp [H1,Hs,b,a,O1,U5,I6,dch]
def C3v:H1 (mkRat 2 5)=[50,47,53]:=by
 have b:(mkRat 2 5).num=2:=by decide +kernel
 have a:(mkRat 2 5).den=5:=by decide +kernel
 simp [H1,Hs,b,a,O1,U5,I6,dch]
def C64:H1 (mkRat 1 3)=[49,47,51]:=by
 have b:(mkRat 1 3).num=1:=by decide +kernel
 have a:(mkRat 1 3).den=3:=by decide +kernel
 simp [H1,Hs,b,a,O1,U5,I6,dch]
section
variable {h:aG} {K:VP} {x y:List UInt8}
def B0i(gl:Gl h)(hK:K (.bool true) h):aE prog A1k #[] h K:=by
 refine B6l ?_
 unfold C0x
 show aE _ _ #[.string (bs [51,47,49,48]),.string (bs [50,47,53])] _ _
 rw [<- B9n,<- C3v]
 have c:Sz 8 (rv (H1 (mkRat 3 10))):=by rw [D8];exact ⟨by unfold ZB;decide +kernel,by unfold ZB;decide +kernel⟩
 have d:Sz 8 (rv (H1 (mkRat 2 5))):=by rw [D8];exact ⟨by unfold ZB;decide +kernel,by unfold ZB;decide +kernel⟩
 refine Vn gl (by rw [B9n];decide) (by rw [C3v];decide) c d (by decide) (by decide) ?_
 intro r e _ _ b
 have a:rv (H1 (mkRat 3 10))<=rv (H1 (mkRat 2 5)):=by rw [D8,D8];decide +kernel
 obtain ⟨rfl,rfl⟩:=b ⟨_,rfl⟩ ⟨_,rfl⟩ a
 rw [D8,D8,B0j,C64]
 refine ⟨_,_,rfl,D9 (fun _=>?_) (fun e=>absurd rfl e)⟩
 have:((bs [49,47,51]).toList==({ data:=#[49,47,51] }:ByteArray).toList)=true:=by rw [show ({ data:=#[49,47,51] }:ByteArray)=bs [49,47,51] from rfl,Lf];simp
 rw [this];exact hK
end
section
variable {h:aG} {K:VP} {A B:Option Addr} {n m a b:Nat} {ls ls2:Nat->List UInt8}
def A3e(x:aI SSr h A n ls)(y:aI SSr h B m ls2)(hn:n<=1000000000)(hK1:n=m->(∀ i,i<n->ls i=ls2 i)->K (.bool true) h)(hK0:¬ (n=m/\∀ i,i<n->ls i=ls2 i)->K (.bool false) h):aE prog Af #[.slice A n a,.slice B m b] h K:=by
 refine Wz _ _ _ _ _ _ ?_
 unfold Sg
 refine I8 (fun e=>hK0 fun d=>e (by omega)) (fun e=>?_)
 have e:n=m:=by omega
 subst e
 refine ⟨fun L f=>∃ i:Nat,i<=n/\L=[I (i:Int)]/\f=h/\∀ j,j<i->ls j=ls2 j,fun L _=>n-(iAt L 0).toNat,⟨0,by omega,rfl,rfl,fun j l=>by omega⟩,?_⟩
 rintro z f ⟨i,t,r,rfl,g⟩
 obtain rfl:=sI1 r
 refine B6 (fun k=>?_) (fun o=>?_)
 ·have c:i<n:=by omega
  obtain ⟨u,rfl,p⟩:=x.sat c
  obtain ⟨v,rfl,q⟩:=y.sat c
  refine ⟨u,rfl,by omega,by omega,_,p,v,rfl,by omega,by omega,_,q,?_⟩
  rw [Lf]
  refine P6 (B6 (fun e=>?_) (fun e=>hK0 fun d=>e (d.2 i c)))
  rw [wiS i (by omega)]
  refine ⟨⟨i+1,by omega,rfl,rfl,fun j l=>?_⟩,by simp only [Ec];omega⟩
  by_cases s:j=i
  ·subst s;exact e
  ·exact g j (by omega)
 ·have:i=n:=by omega
  subst this
  exact hK1 rfl g
end
def N8(f:Nat->Rat):rvs (fun k=>H1 (f k))=f:=funext fun _=>D8 _
def C3q(r c:Int)(n:Nat)(la:Nat->List UInt8)(nb:Nat)(lb:Nat->List UInt8)(nx:Nat)(lx:Nat->List UInt8)(nw:Nat)(lw:Nat->List UInt8):Prop:=Mx r c n la/\(∀ i,i<nb->aJ (lb i))/\(∀ i,i<nx->aJ (lx i))/\∀ i,i<nw->aJ (lw i)
def PChk(r c:Int)(n:Nat)(la:Nat->List UInt8)(nb:Nat)(lb:Nat->List UInt8)(nx:Nat)(lx:Nat->List UInt8)(nw:Nat)(lw:Nat->List UInt8)(e:Int):Prop:=
 (¬ C3q r c n la nb lb nx lx nw lw/\e=1)\/(C3q r c n la nb lb nx lx nw lw/\¬ ((nb:Int)=r/\(nx:Int)=c/\(nw:Int)=c)/\e=4)\/
 (C3q r c n la nb lb nx lx nw lw/\((nb:Int)=r/\(nx:Int)=c/\(nw:Int)=c)/\(∃ i,i<nw/\rv (lw i)<=0)/\e=3)\/
 (C3q r c n la nb lb nx lx nw lw/\((nb:Int)=r/\(nx:Int)=c/\(nw:Int)=c)/\(∀ i,i<nw->0<rv (lw i))/\e=0)
def PChk.eq{r c:Int}{n:Nat}{la:Nat->List UInt8}{nb:Nat}{lb:Nat->List UInt8}{nx:Nat}{lx:Nat->List UInt8}{nw:Nat}{lw:Nat->List UInt8}{e f:Int}(x:PChk r c n la nb lb nx lx nw lw e)(y:PChk r c n la nb lb nx lx nw lw f):e=f:=by
 have g:(∃ i,i<nw/\rv (lw i)<=0)->(∀ i,i<nw->0<rv (lw i))->False:=fun ⟨i,j,l⟩ k=>by have:=k i j;grind
 rcases x with ⟨a,rfl⟩|⟨a,b,rfl⟩|⟨a,b,d,rfl⟩|⟨a,b,d,rfl⟩<;>rcases y with ⟨a',rfl⟩|⟨a',b',rfl⟩|⟨a',b',d',rfl⟩|⟨a',b',d',rfl⟩<;>first
 | rfl
 | exact absurd a' a
 | exact absurd a a'
 | exact absurd b' b
 | exact absurd b b'
 | exact (g d d').elim
 | exact (g d' d).elim
section
variable {h:aG} {K:VP}
def A1r{L:Option Addr}{lc:Nat}{hs:List HV}{fs:Nat->Nat->List UInt8}(gl:Gl h)(sl:SlF h L hs)(hr:∀ i (hi:i<hs.length),aI SSr h hs[i].A hs[i].n (fs i))(hlen:hs.length<=1000)(hn:∀ i (hi:i<hs.length),hs[i].n<=1000000)(hl:∀ i (hi:i<hs.length) j,j<hs[i].n->(fs i j).length<=100000000)
 (hK1:(∀ i (hi:i<hs.length) j,j<hs[i].n->aJ (fs i j))->K (.bool true) h) (hK0:¬ (∀ i (hi:i<hs.length) j,j<hs[i].n->aJ (fs i j))->K (.bool false) h):aE prog Qw #[.slice L hs.length lc] h K:=by
 refine A7x _ _ _ ?_
 unfold A9v
 refine ⟨fun q p=>∃ i:Nat,i<=hs.length/\q=[I (i:Int)]/\p=h/\∀ k (d:k<hs.length),k<i->∀ j,j<hs[k].n->aJ (fs k j),fun q _=>hs.length-(iAt q 0).toNat,⟨0,by omega,rfl,rfl,fun k _ d=>by omega⟩,?_⟩
 rintro z p ⟨i,hi,E,rfl,t⟩
 obtain rfl:=sI1 E
 refine B6 (fun F=>?_) (fun B=>hK1 fun k d=>t k d (by omega))
 have b:i<hs.length:=by omega
 obtain ⟨a,N,H⟩:=SlF.at (by decide) sl b
 have f:=H 0 _ rfl
 rw [Jg] at f
 refine ⟨a,N,by omega,by omega,_,_,_,f,?_⟩
 have C:=hn i b
 have row:=hr i b
 refine ⟨fun q m=>∃ j:Nat,j<=hs[i].n/\q=[I (j:Int)]/\m=p/\∀ k,k<j->aJ (fs i k),fun q _=>hs[i].n-(iAt q 0).toNat,⟨0,by omega,rfl,rfl,fun k d=>by omega⟩,?_⟩
 rintro Q J ⟨j,O,r,rfl,g⟩
 obtain rfl:=sI1 r
 refine B6 (fun s=>?_) (fun w=>?_)
 ·have c:j<hs[i].n:=by omega
  obtain ⟨u,D,o⟩:=row.sat c
  refine ⟨u,D,by omega,by omega,_,o,Ch gl (hl i b j c) (fun e=>⟨_,rfl,Br.nt ?_⟩) (fun e=>⟨_,rfl,Sx (hK0 fun x=>e (x i b j c))⟩)⟩
  rw [wiS j (by omega)]
  refine ⟨⟨j+1,by omega,rfl,rfl,fun k d=>?_⟩,by simp only [Ec];omega⟩
  by_cases l:k=j
  ·rw [l];exact e
  ·exact g k (by omega)
 ·rw [wiS i (by omega)]
  refine ⟨⟨i+1,by omega,rfl,rfl,fun k d G=>?_⟩,by simp only [Ec];omega⟩
  by_cases l:k=i
  ·subst l
   exact fun y M=>g y (by omega)
  ·exact t k d (by omega)
variable {A B X W:Option Addr} {n nb nx nw cap bc xc wc:Nat} {r c:Int} {la lb lx lw:Nat->List UInt8}
def A75(gl:Gl h)(ra:aI SSr h A n la)(rb:aI SSr h B nb lb)(rx:aI SSr h X nx lx)(rw':aI SSr h W nw lw)(hn:n<=1000000)(hnb:nb<=1000000)(hnx:nx<=1000000)(hnw:nw<=1000000)(hl:LL n la)(hlb:LL nb lb)(hlx:LL nx lx)(hlw:LL nw lw)
 (hK:∀ e h',h.le h'->PChk r c n la nb lb nx lx nw lw e->K (I e) h'):aE prog Db #[Ys r c A n cap,.slice B nb bc,.slice X nx xc,.slice W nw wc] h K:=by
 refine Sw _ _ _ _ _ _ _ _ _ _ _ _ _ _ ?_
 unfold Pu
 refine Us gl ra hn hl (fun m=>⟨_,rfl,Br.nt ?_⟩) (fun m=>⟨_,rfl,Sx (hK 1 h (B4 _) (.inl ⟨fun x=>m x.1,rfl⟩))⟩)
 refine Uw C3x (vs:=[.slice B nb bc,.slice X nx xc,.slice W nw wc]) (fun v s=>by simp at s;rcases s with rfl|rfl|rfl<;>rfl) rfl (show 3*1<=16777216 by decide) rfl ?_
 intro b G
 have sl:SlF (h.put b (.cells ([(⟨B,nb,bc⟩:HV),⟨X,nx,xc⟩,⟨W,nw,wc⟩].flatMap enc).toArray Fw)) (some ⟨b,0,none⟩) [(⟨B,nb,bc⟩:HV),⟨X,nx,xc⟩,⟨W,nw,wc⟩]:=A7c _ _ _ _
 have a:h.le (h.put b (.cells ([(⟨B,nb,bc⟩:HV),⟨X,nx,xc⟩,⟨W,nw,wc⟩].flatMap enc).toArray Fw)):=Heap.le_put _ G
 refine ⟨_,_,_,rfl,A1r (hs:=[(⟨B,nb,bc⟩:HV),⟨X,nx,xc⟩,⟨W,nw,wc⟩]) (fs:=fun i=>if i=0 then lb else if i=1 then lx else lw) (gl.mono a) sl (fun i d=>?_) (show 3<=1000 by decide) (fun i d=>?_) (fun i d=>?_) (fun j=>⟨_,rfl,Br.nt ?_⟩) (fun j=>⟨_,rfl,Sx (hK 1 _ a (.inl ⟨fun y=>j fun i d=>?_,rfl⟩))⟩)⟩
 ·match i,d with
  | 0,_=>exact rb.mono I9 a
  | 1,_=>exact rx.mono I9 a
  | 2,_=>exact rw'.mono I9 a
 ·match i,d with
  | 0,_=>exact hnb
  | 1,_=>exact hnx
  | 2,_=>exact hnw
 ·match i,d with
  | 0,_=>exact hlb
  | 1,_=>exact hlx
  | 2,_=>exact hlw
 ·have val:C3q r c n la nb lb nx lx nw lw:=⟨m,j 0 (show 0<3 by decide),j 1 (show 1<3 by decide),j 2 (show 2<3 by decide)⟩
  have g:=fun e=>hK 4 _ a (.inr (.inl ⟨val,e,rfl⟩))
  refine I8 (fun e=>g fun x=>e x.1) (fun p=>I8 (fun e=>g fun x=>e x.2.1) (fun C=>I8 (fun e=>g fun x=>e x.2.2) (fun o=>?_)))
  refine ⟨fun q D=>∃ i:Nat,i<=nw/\q=[I (i:Int)]/\D=h.put b (.cells ([(⟨B,nb,bc⟩:HV),⟨X,nx,xc⟩,⟨W,nw,wc⟩].flatMap enc).toArray Fw)/\∀ k,k<i->0<rv (lw k),fun q _=>nw-(iAt q 0).toNat,⟨0,by omega,rfl,rfl,fun k t=>by omega⟩,?_⟩
  rintro z D ⟨i,d,J,rfl,w⟩
  obtain rfl:=sI1 J
  refine B6 (fun L=>?_) (fun F=>hK 0 _ a (.inr (.inr (.inr ⟨val,⟨p,C,o⟩,fun k t=>w k (by omega),rfl⟩))))
  have f:i<nw:=by omega
  obtain ⟨u,H,l⟩:=(rw'.mono I9 a).sat f
  refine ⟨u,H,by omega,by omega,_,l,Cj (gl.mono a) (hlw i f) ⟨_,rfl,B6 (fun e=>?_) (fun e=>?_)⟩⟩
  ·exact hK 3 _ a (.inr (.inr (.inl ⟨val,⟨p,C,o⟩,⟨i,f,A6a.1 e⟩,rfl⟩)))
  ·rw [wiS i (by omega)]
   refine ⟨⟨i+1,by omega,rfl,rfl,fun k t=>?_⟩,by simp only [Ec];omega⟩
   by_cases E:k=i
   ·rw [E]
    exact B2r.1 (by omega)
   ·exact w k (by omega)
 ·match i,d with
  | 0,_=>exact y.2.1
  | 1,_=>exact y.2.2.1
  | 2,_=>exact y.2.2.2
end
def C47(M:Nat->Nat->Rat)(w:Nat->Rat)(i j:Nat):prC M w i j=(w i)⁻¹*M j i:=by unfold prC;rw [Rat.div_def,Rat.mul_comm]
def lcT(rows:Nat)(M:Nat->Nat->Rat)(w:Nat->Rat):Nat->List UInt8:=fun k=>H1 (prC M w (k/rows) (k%rows))
def A6q{rows:Nat}(M:Nat->Nat->Rat)(w:Nat->Rat){i j:Nat}(hj:j<rows):mtx (rvs (lcT rows M w)) rows i j=prC M w i j:=by
 obtain ⟨b,a⟩:=dm1 (i:=i) hj
 show rv (H1 (prC M w ((i*rows+j)/rows) ((i*rows+j)%rows)))=_
 rw [D8,b,a]
def C1x{rows cols:Nat}(hr:1<=rows)(la:Nat->List UInt8)(w:Nat->Rat):(fun k=>H1 (sm cols (fun j=>mtx (rvs la) cols (k/rows) j*mtx (rvs (lcT rows (mtx (rvs la) cols) w)) rows j (k%rows))))=fun k=>H1 (prE cols rows (mtx (rvs la) cols) w k):=by
 funext k
 refine congrArg H1 (C8 fun j _=>?_)
 rw [A6q _ _ (aP k (by omega))]
section
variable {h:aG} {K:VP} {A B X W:Option Addr} {n nb nx nw cap bc xc wc s sx:Nat} {r c:Int} {la lb lx lw:Nat->List UInt8}
def Pb(gl:Gl h)(ra:aI SSr h A n la)(rb:aI SSr h B nb lb)(rx:aI SSr h X nx lx)(rw':aI SSr h W nw lw)(hn:n<=1000000)(hnb:nb<=1000000)(hnx:nx<=1000000)(hnw:nw<=1000000)(hl:LL n la)(hlb:LL nb lb)(hlx:LL nx lx)(hlw:LL nw lw)
 (hs1:1<=s) (hs283:s<=283) (hssx:s<=sx) (hs:∀ i,i<n->Sz s (rv (la i))) (hsw:∀ i,i<nw->Sz s (rv (lw i))) (hsb:∀ i,i<nb->Sz sx (rv (lb i))) (hsx:∀ i,i<nx->Sz sx (rv (lx i)))
 (hb:∀ rows cols,MOk r c n la rows cols->nb=rows->nx=cols->nw=cols->∃ se nq,(cols<=nq\/rows<=nq)/\2*s<=se/\1+cols*(2*(2*s)+1)<=se/\(∀ i,i<rows->Sz se (prR cols (mtx (rvs la) cols) (rvs lb) (rvs lx) i))/\2*(3^(nq+1)*bnd (rows+1) se)+1<=40000000/\7^(nq+1)*se<=40000000/\2*(1+cols*(2*sx+1)+2*sx)+14<=40000000/\2*(1+rows*(2*(7^nq*se)+1)+2*(7^nq*se)+sx)+14<=40000000)
 (hKe:∀ e h',h.le h'->PChk r c n la nb lb nx lx nw lw e->e≠0->K (.tuple #[.slice none 0 0,I e]) h')
 (hK8:∀ rows cols,MOk r c n la rows cols->PChk r c n la nb lb nx lx nw lw 0->nb=rows->nx=cols->nw=cols->¬ Ms (prE cols rows (mtx (rvs la) cols) (rvs lw)) (prR cols (mtx (rvs la) cols) (rvs lb) (rvs lx)) rows rows->∀ h',h.le h'->K (.tuple #[.slice none 0 0,I 8]) h')
 (hK0:∀ rows cols,MOk r c n la rows cols->PChk r c n la nb lb nx lx nw lw 0->nb=rows->nx=cols->nw=cols->Ms (prE cols rows (mtx (rvs la) cols) (rvs lw)) (prR cols (mtx (rvs la) cols) (rvs lb) (rvs lx)) rows rows->∀ A' c' h',h.le h'->aI SSr h' A' cols (fun i=>H1 (prZ rows (mtx (rvs la) cols) (rvs lw) (rvs lx) (A39 (prE cols rows (mtx (rvs la) cols) (rvs lw)) (prR cols (mtx (rvs la) cols) (rvs lb) (rvs lx)) rows rows) i))->K (.tuple #[.slice A' cols c',I 0]) h'):
 aE prog Ko #[Ys r c A n cap,.slice B nb bc,.slice X nx xc,.slice W nw wc] h K:=by
 refine A7w _ _ _ _ _ _ _ _ _ _ _ _ _ _ ?_
 unfold A9u
 refine A75 gl ra rb rx rw' hn hnb hnx hnw hl hlb hlx hlw ?_
 intro e h1 l1 aq
 refine ⟨_,rfl,I8 (fun he=>hKe e h1 l1 aq he) (fun he=>?_)⟩
 subst he
 have k0:C3q r c n la nb lb nx lx nw lw/\((nb:Int)=r/\(nx:Int)=c/\(nw:Int)=c)/\∀ i,i<nw->0<rv (lw i):=by
  rcases aq with ⟨_,e⟩|⟨_,_,e⟩|⟨_,_,_,e⟩|⟨a1,N,a3,_⟩
  ·exact absurd e (by decide)
  ·exact absurd e (by decide)
  ·exact absurd e (by decide)
  ·exact ⟨a1,N,a3⟩
 obtain ⟨⟨⟨rows,cols,mk⟩,vb,vx,vw⟩,⟨s1,s2,s3⟩,dc⟩:=k0
 obtain rfl:nb=rows:=by have:=mk.er;omega
 obtain rfl:nx=cols:=by have:=mk.ec;omega
 obtain rfl:nw=nx:=by omega
 obtain ⟨se,nq,q0,q1,q2,q3,q4,q5,q6,q7⟩:=hb nb nw mk rfl rfl rfl
 have au:=hK8 nb nw mk aq rfl rfl rfl
 have ar:=hK0 nb nw mk aq rfl rfl rfl
 clear hb hK8 hK0 hKe aq s1 s2 s3
 have bh:=mk
 obtain ⟨rfl,rfl,r1,r2,c1,c2,rfl,di⟩:=mk
 have hM:∀ i j,i<nb->j<nw->Sz s (mtx (rvs la) nw i j):=A3r hs
 have d2:nb*nw<=64*64:=aR r2 c2
 refine Uu (gl.mono l1) (ra.mono I9 l1) hn hl (fun a d cm h2 A2 dm df=>?_) (fun bl=>absurd ⟨_,_,bh⟩ bl)
 obtain rfl:a=nb:=by have:=cm.er;omega
 obtain rfl:d=nw:=by have:=cm.ec;omega
 refine ⟨_,_,_,_,_,_,rfl,I8 (fun e=>absurd rfl e) (fun _=>?_)⟩
 obtain ⟨g2,o2,co,l2,ca,bz,bo,cb⟩:=df
 have dh:0<a*d:=Nat.mul_pos r1 c1
 obtain ⟨a6,rfl,a9⟩:=bz.rowB (by rintro rfl;simp at bo;omega)
 have bu:=B0 l1 l2
 clear bz
 refine ⟨fun L hp=>∃ (i:Nat) (g o:aG) (G:List (List UInt8)),i<=d/\L=[I (i:Int)]/\h.le g/\Sep hp g o/\RowB o a6 G/\G.length=a*d/\Row SSr g G (a*d) (fun k=>if k<i*a then lcT a (mtx (rvs la) d) (rvs lw) k else la (k%a*d+k/a)),fun L _=>d-(iAt L 0).toNat,
  ⟨0,g2,o2,co,by omega,rfl,bu,ca,a9,bo,cb.congr fun k _=>by rw [Nat.zero_mul,iN (by omega)]⟩,?_⟩
 clear cb bo a9 ca bu l2
 rintro z cf ⟨i,g,o,G,hi,eL,lg,sp,ay,ax,rr⟩
 obtain rfl:=sI1 eL
 refine B6 (fun ae=>?_) (fun ah=>?_)
 ·have aa:i<d:=by omega
  have ag:=B0 lg sp.le
  obtain ⟨u,hu,al⟩:=(rw'.mono I9 ag).sat aa
  have dz:=dc i aa
  refine ⟨u,hu,by omega,by omega,_,al,?_⟩
  rw [<- B23 (vw i aa)]
  refine sp.call (Ce (gl.mono lg) (hsw i aa) hs1 hs283 (by grind) ?_)
  intro h3 ci
  refine ⟨_,rfl,fun L hp=>∃ (j:Nat) (g o:aG) (G:List (List UInt8)),j<=a/\L=[I (j:Int)]/\h.le g/\Sep hp g o/\RowB o a6 G/\G.length=a*d/\Row SSr g G (a*d) (fun k=>if k<i*a+j then lcT a (mtx (rvs la) d) (rvs lw) k else la (k%a*d+k/a)),fun L _=>a-(iAt L 0).toNat,
   ⟨0,g,o,G,by omega,rfl,lg,ci,ay,ax,rr⟩,?_⟩
  clear rr ax ay ci sp lg ag
  rintro z2 da ⟨j,g4,o4,br,hj,ct,bg,aw,aj,bd,bn⟩
  obtain rfl:=sI1 ct
  have d0:(i+1)*a<=d*a:=aF _ aa
  have c9:(i+1)*a=i*a+a:=by rw [Nat.add_mul,Nat.one_mul]
  have dl:d*a=a*d:=aL _ _
  refine B6 (fun dg=>?_) (fun dj=>?_)
  ·have b5:j<a:=by omega
   have x:i*a+j<a*d:=by omega
   have ei:B5 (B5 ((i:Int)*(a:Int))+(j:Int))=((i*a+j:Nat):Int):=by
    rw [show B5 ((i:Int)*(a:Int))=((i*a:Nat):Int) by rw [<- Int.natCast_mul];exact Z6 (by omega),B7 (by omega) (by omega)]
    omega
   rw [ei]
   have cv:aI SSr da (some ⟨a6,0,none⟩) (a*d) _:=⟨br,aj.slF aw.ole,bd,bn.mono I9 aw.le⟩
   obtain ⟨v,hv,R⟩:=cv.sat x
   obtain ⟨f1,f2⟩:=dm1 (i:=i) b5
   have b6:j*d+i<a*d:=Bp b5 aa
   rw [iN (by omega),f1,f2] at R
   obtain rfl:=aQ hv
   refine ⟨_,rfl,by omega,by omega,_,R,?_⟩
   refine aw.call (B29 (m:=s) (gl.mono bg) (Tx.of ((hsw i aa).inv hs1) (by omega)) ⟨hl _ b6,hs _ b6⟩ (by omega) ?_)
   intro h5 cg
   refine ⟨_,rfl,aw.le_le cg (B4 _),_,rfl,by omega,by omega,?_⟩
   rw [E5,aD]
   refine Sep.store Ai (y:=lcT a (mtx (rvs la) d) (rvs lw) (i*a+j)) ?_ cg aj (i:=i*a+j) (by omega) (by show 0+(i*a+j)*1=(i*a+j)*1;omega) ?_
   ·show (Value.string (bs _)).cells=_
    unfold lcT
    rw [f1,f2,C47,D8]
    rfl
   intro h6 o6 x6 dr db cd
   rw [wiS j (by omega)]
   refine ⟨⟨j+1,g4,o6,_,by omega,rfl,bg,db,cd,by rw [aM];exact bd,(bn.upd (by omega) rfl).congr fun k b7=>?_⟩,by simp only [Ec];omega⟩
   by_cases ek:k=i*a+j
   ·rw [iP ek,iP (by omega),ek]
   ·rw [iN ek]
    by_cases S:k<i*a+j
    ·rw [iP S,iP (by omega)]
    ·rw [iN S,iN (by omega)]
  ·obtain rfl:j=a:=by omega
   rw [wiS i (by omega)]
   refine ⟨⟨i+1,g4,o4,br,by omega,rfl,bg,aw,aj,bd,?_⟩,by simp only [Ec];omega⟩
   rw [c9]
   exact bn
 obtain rfl:i=d:=by omega
 have ag:=B0 lg sp.le
 have rc:aI SSr cf (some ⟨a6,0,none⟩) (a*i) (lcT a (mtx (rvs la) i) (rvs lw)):=⟨G,ay.slF sp.ole,ax,(rr.mono I9 sp.le).congr fun k x=>iP (by rw [aL];exact x)⟩
 clear rr ax ay sp lg G
 have be:∀ k,k<a*i->Sz (2*s) (rv (lcT a (mtx (rvs la) i) (rvs lw) k)):=fun k x=>by
  unfold lcT
  rw [D8]
  exact A8i hs1 hM hsw _ _ (aO x) (aP k (by omega))
 have bv:∀ k,k<a*i->(lcT a (mtx (rvs la) i) (rvs lw) k).length<=100000000:=fun k x=>by
  have h1:=be k x
  unfold lcT at h1 ⊢
  rw [D8] at h1
  have:=R8 h1
  omega
 have bw:MOk (i:Int) (a:Int) (a*i) (lcT a (mtx (rvs la) i) (rvs lw)) i a:=⟨rfl,rfl,c1,c2,r1,r2,aL _ _,fun k _=>⟨_,rfl⟩⟩
 refine B3t (m:=2*s) (gl.mono ag) (ra.mono I9 ag) rc hn hn hl bv (fun k x=>(hs k x).mono (by omega)) be (by omega) (by omega) ?_
 intro o7 c4 A7 c7 h7 l7 r7
 rcases c4 with ⟨hx,_⟩|⟨_,_,hx,_⟩|⟨a1,b1,d1,Z,k2,rfl⟩
 ·exact absurd ⟨⟨_,_,bh⟩,⟨_,_,bw⟩⟩ hx
 ·exact absurd rfl hx
 obtain rfl:a1=a:=by have:=Z.er;omega
 obtain rfl:b1=i:=by have:=Z.ec;omega
 obtain rfl:d1=a1:=by have:=k2.ec;omega
 clear Z k2
 refine ⟨_,_,_,_,_,_,rfl,I8 (fun e=>absurd rfl e) (fun _=>?_)⟩
 have cx:aI SSr h7 A7 (d1*d1) (fun k=>H1 (prE b1 d1 (mtx (rvs la) b1) (rvs lw) k)):=by
  rw [<- C1x r1]
  exact r7
 clear r7
 have a0:=B0 ag l7
 refine Rq (m:=sx) (gl.mono a0) (ra.mono I9 a0) (rx.mono I9 a0) hn hnx hl hlx (fun k x=>(hs k x).mono hssx) hsx (by omega) (fun C t af=>?_) ?_
 ·obtain rfl:t=b1:=by have:=af.ec;omega
  exact q6
 intro o8 cq A8 c8 h8 w8
 rcases cq with ⟨hx,_⟩|⟨_,_,hx,_⟩|⟨N,l,Z,_,_,rfl⟩
 ·exact absurd ⟨⟨_,_,bh⟩,vx⟩ hx
 ·exact absurd rfl hx
 obtain rfl:N=d1:=by have:=Z.er;omega
 obtain rfl:l=b1:=by have:=Z.ec;omega
 clear Z
 refine ⟨_,_,_,_,rfl,I8 (fun e=>absurd rfl e) (fun _=>?_)⟩
 obtain ⟨g8,o8,bm,l8,cn,b0,a5,bj⟩:=w8
 change bm.length=N at a5
 change Row SSr g8 bm N _ at bj
 obtain ⟨b8,rfl,a8⟩:=b0.rowB (by rintro rfl;simp at a5;omega)
 clear b0
 have cy:∀ i,i<N->Sz (1+l*(2*sx+1)) (sm l (fun j=>mtx (rvs la) l i j*rv (lx j))):=fun i hi=>A0d (m:=sx) (w:=l) (f:=fun j=>mtx (rvs la) l i j) (f2:=fun j=>rv (lx j)) (fun j hj=>(hM i j hi hj).mono hssx) hsx l (aC _)
 refine ⟨fun L hp=>∃ (i:Nat) (g o:aG) (G:List (List UInt8)),i<=N/\L=[I (i:Int)]/\h7.le g/\Sep hp g o/\RowB o b8 G/\G.length=N/\Row SSr g G N (fun k=>if k<i then H1 (prR l (mtx (rvs la) l) (rvs lb) (rvs lx) k) else H1 (sm l (fun j=>mtx (rvs la) l k j*rv (lx j)))),fun L _=>N-(iAt L 0).toNat,
  ⟨0,g8,o8,bm,by omega,rfl,l8,cn,a8,a5,bj.congr fun k _=>by rw [iN (by omega)]⟩,?_⟩
 clear bj a5 a8 cn l8
 rintro z ad ⟨p,g9,o9,ai,cw,bf,V,q,D,Q,M⟩
 obtain rfl:=sI1 bf
 have O:h.le g9:=B0 a0 V
 refine B6 (fun ae=>?_) (fun ah=>?_)
 ·have ae:((p:Nat):Int)<((N:Nat):Int):=ae
  have E:p<N:=by omega
  have bk:aI SSr ad (some ⟨b8,0,none⟩) N _:=⟨ai,D.slF q.ole,Q,M.mono I9 q.le⟩
  obtain ⟨v,hv,R⟩:=bk.sat E
  obtain rfl:=aQ hv
  rw [iN (by omega)] at R
  obtain ⟨u,hu,al⟩:=(rb.mono I9 (B0 O q.le)).sat E
  refine ⟨_,rfl,by omega,show ((p:Nat):Int)<((N:Nat):Int) by omega,_,R,u,hu,by omega,by omega,_,al,?_⟩
  have t1:=(cy p E).mono (show 1+l*(2*sx+1)<=1+l*(2*sx+1)+2*sx by omega)
  refine q.call (Tz (m:=1+l*(2*sx+1)+2*sx) (gl.mono O) ⟨hlb p E,(hsb p E).mono (by omega)⟩ (Tx.of t1 (by omega)) (by omega) ?_)
  intro c6 an
  refine ⟨_,rfl,_,rfl,by omega,show ((p:Nat):Int)<((N:Nat):Int) by omega,?_⟩
  rw [E5,aD]
  refine Sep.store Ai (y:=H1 (prR l (mtx (rvs la) l) (rvs lb) (rvs lx) p)) ?_ an D (i:=p) (by omega) (by show 0+p*1=p*1;omega) ?_
  ·rw [D8];rfl
  intro c3 bi cz bp ak T
  rw [wiS p (by omega)]
  refine ⟨⟨p+1,g9,bi,_,by omega,rfl,V,ak,T,by rw [aM];exact Q,(M.upd (by omega) rfl).congr fun k b7=>?_⟩,by simp only [Ec];omega⟩
  by_cases ek:k=p
  ·rw [iP ek,iP (by omega),ek]
  ·rw [iN ek]
   by_cases S:k<p
   ·rw [iP S,iP (by omega)]
   ·rw [iN S,iN (by omega)]
 have ah:¬ ((p:Nat):Int)<((N:Nat):Int):=ah
 obtain rfl:p=N:=by omega
 have bb:=B0 O q.le
 have bq:h7.le ad:=B0 V q.le
 have rm:aI SSr ad (some ⟨b8,0,none⟩) p (fun k=>H1 (prR l (mtx (rvs la) l) (rvs lb) (rvs lx) k)):=⟨ai,D.slF q.ole,Q,(M.mono I9 q.le).congr fun k x=>iP x⟩
 clear M Q D q V O ai
 have hE:∀ k,k<p*p->Sz se (prE l p (mtx (rvs la) l) (rvs lw) k):=fun k x=>(B9s hs1 hM hsw k x).mono q2
 have cs:MOk (p:Int) (p:Int) (p*p) (fun k=>H1 (prE l p (mtx (rvs la) l) (rvs lw) k)) p p:=⟨rfl,rfl,r1,r2,r1,r2,rfl,fun k _=>⟨_,rfl⟩⟩
 have ds:se<=40000000:=by
  have:=aT se (show 0<7^(nq+1) from Nat.pow_pos (by decide))
  omega
 have dv:p*p<=64*64:=aR r2 r2
 have du:3^nq*bnd (p+1) se<=3^(nq+1)*bnd (p+1) se:=aF _ (aN (by decide) (Nat.le_succ nq))
 have dq:7^nq*se<=7^(nq+1)*se:=aF _ (aN (by decide) (Nat.le_succ nq))
 refine A3u (m:=se) (n:=p*p) (n2:=p) (gl.mono bb) (cx.mono I9 bq) rm (by omega) (by omega) (fun k x=>by have:=R8 (hE k x);omega) (fun k x=>by have:=R8 (q3 k x);omega) (fun k x=>by rw [D8];exact hE k x) (fun k x=>by rw [D8];exact q3 k x) (by omega) (fun C t af=>?_) ?_
 ·obtain rfl:C=p:=by have h1:((p:Nat):Int)=C:=af.er;omega
  obtain rfl:t=C:=by have h1:((C:Nat):Int)=t:=af.ec;omega
  rw [N8,N8]
  refine ⟨nq,nq+1,fun j hj=>?_,fun j hj=>?_,by omega,q4,by omega,q5⟩
  ·obtain ⟨p1,p2⟩:=B39 (m:=l) (mtx (rvs la) l) (rvs lw) (prR l (mtx (rvs la) l) (rvs lb) (rvs lx)) hj
   rcases q0 with q0|q0<;>omega
  ·obtain ⟨p1,p2⟩:=C1p (m:=l) (mtx (rvs la) l) (rvs lw) (prR l (mtx (rvs la) l) (rvs lb) (rvs lx)) hj
   rcases q0 with q0|q0<;>omega
 intro d3 ce ny fy _ A12 dy B12 dx az ch bx _
 have ao:=B0 bb ch
 rcases ce with ⟨hx,_⟩|⟨_,_,hx,_⟩|⟨a3,F,Z,_,_,cj⟩
 ·exact absurd ⟨⟨_,_,cs⟩,fun k _=>⟨_,rfl⟩⟩ hx
 ·exact absurd rfl hx
 obtain rfl:a3=p:=by have h1:((p:Nat):Int)=a3:=Z.er;omega
 obtain rfl:F=a3:=by have h1:((a3:Nat):Int)=F:=Z.ec;omega
 clear Z
 rw [N8,N8] at cj
 rcases cj.symm with ⟨bl,rfl⟩|⟨c5,rfl⟩
 ·exact ⟨_,_,_,_,_,_,_,rfl,I8 (fun _=>au bl az ao) (fun e=>absurd e (by decide))⟩
 refine ⟨_,_,_,_,_,_,_,rfl,I8 (fun e=>absurd rfl e) (fun _=>?_)⟩
 have hg:=ar c5
 clear ar au
 have hX:=Td (b:=prR l (mtx (rvs la) l) (rvs lb) (rvs lx)) hE q3 (by omega) (nq:=nq) (by
  obtain ⟨p1,p2⟩:=B39 (m:=l) (mtx (rvs la) l) (rvs lw) (prR l (mtx (rvs la) l) (rvs lb) (rvs lx)) (aC F)
  rcases q0 with q0|q0
  ·exact aS p1 q0
  ·exact aS p2 q0)
 generalize A39 (prE l F (mtx (rvs la) l) (rvs lw)) (prR l (mtx (rvs la) l) (rvs lb) (rvs lx)) F F=y at *
 have dk:se<=7^nq*se:=aT se (Nat.pow_pos (by decide))
 generalize 7^nq*se=Y at *
 change aI SSr az A12 F (fun j=>H1 (y j)) at bx
 have cu:cf.le az:=B0 l7 (B0 bq ch)
 have de:∀ i,i<l->Sz (1+F*(2*Y+1)) (sm F (fun j=>mtx (rvs (lcT F (mtx (rvs la) l) (rvs lw))) F i j*rv (H1 (y j)))):=fun i hi=>A0d (m:=Y) (w:=F) (f:=fun j=>mtx (rvs (lcT F (mtx (rvs la) l) (rvs lw))) F i j) (f2:=fun j=>rv (H1 (y j))) (fun j hj=>by
  show Sz Y (mtx (rvs (lcT F (mtx (rvs la) l) (rvs lw))) F i j)
  rw [A6q _ _ hj]
  exact (A8i hs1 hM hsw i j hi hj).mono (by omega)) (fun j hj=>by rw [D8];exact hX j) F (aC _)
 refine Rq (m:=Y) (n2:=F) (gl.mono ao) (rc.mono I9 cu) bx hn (by show F<=1000000;omega) bv (fun k _=>by have:=R8 (hX k);show (H1 (y k)).length<=_;omega) (fun k x=>(be k x).mono (by omega)) (fun k _=>by show Sz Y (rv (H1 (y k)));rw [D8];exact hX k) (by omega) (fun C t af=>?_) ?_
 ·obtain rfl:t=F:=by have:=af.ec;omega
  omega
 intro cc cl A13 dw dn cr
 rcases cl with ⟨hx,_⟩|⟨_,_,hx,_⟩|⟨J,b4,Z,_,_,rfl⟩
 ·exact absurd ⟨⟨_,_,bw⟩,fun k _=>⟨_,rfl⟩⟩ hx
 ·exact absurd rfl hx
 obtain rfl:J=l:=by have:=Z.er;omega
 obtain rfl:b4=F:=by have:=Z.ec;omega
 clear Z
 refine ⟨_,_,_,_,rfl,I8 (fun e=>absurd rfl e) (fun _=>?_)⟩
 obtain ⟨b9,cc,av,ck,ba,a7,ac,ap⟩:=cr
 change av.length=J at ac
 change Row SSr b9 av J _ at ap
 obtain ⟨bt,rfl,am⟩:=a7.rowB (by rintro rfl;simp at ac;omega)
 clear a7
 refine ⟨fun L hp=>∃ (i:Nat) (g o:aG) (G:List (List UInt8)),i<=J/\L=[I (i:Int)]/\az.le g/\Sep hp g o/\RowB o bt G/\G.length=J/\Row SSr g G J (fun k=>if k<i then H1 (prZ b4 (mtx (rvs la) J) (rvs lw) (rvs lx) y k) else H1 (sm b4 (fun j=>mtx (rvs (lcT b4 (mtx (rvs la) J) (rvs lw))) b4 k j*rv (H1 (y j))))),fun L _=>J-(iAt L 0).toNat,
  ⟨0,b9,cc,av,by omega,rfl,ck,ba,am,ac,ap.congr fun k _=>by rw [iN (by omega)]⟩,?_⟩
 clear ap ac am ba ck
 rintro z ad ⟨H,g9,o9,ai,cw,bf,V,q,D,Q,M⟩
 obtain rfl:=sI1 bf
 have O:h.le g9:=B0 ao V
 refine B6 (fun ae=>?_) (fun ah=>?_)
 ·have ae:((H:Nat):Int)<((J:Nat):Int):=ae
  have E:H<J:=by omega
  have bk:aI SSr ad (some ⟨bt,0,none⟩) J _:=⟨ai,D.slF q.ole,Q,M.mono I9 q.le⟩
  obtain ⟨v,hv,R⟩:=bk.sat E
  obtain rfl:=aQ hv
  rw [iN (by omega)] at R
  obtain ⟨u,hu,al⟩:=(rx.mono I9 (B0 O q.le)).sat E
  refine ⟨_,rfl,by omega,show ((H:Nat):Int)<((J:Nat):Int) by omega,_,R,u,hu,by omega,by omega,_,al,?_⟩
  have t1:=(de H E).mono (show 1+b4*(2*Y+1)<=1+b4*(2*Y+1)+sx by omega)
  refine q.call (A35 (m:=1+b4*(2*Y+1)+sx) (gl.mono O) ⟨hlx H E,(hsx H E).mono (by omega)⟩ (Tx.of t1 (by omega)) (by omega) ?_)
  intro c6 an
  refine ⟨_,rfl,_,rfl,by omega,show ((H:Nat):Int)<((J:Nat):Int) by omega,?_⟩
  rw [E5,aD]
  refine Sep.store Ai (y:=H1 (prZ b4 (mtx (rvs la) J) (rvs lw) (rvs lx) y H)) ?_ an D (i:=H) (by omega) (by show 0+H*1=H*1;omega) ?_
  ·rw [D8,C8 (g:=fun j=>prC (mtx (rvs la) J) (rvs lw) H j*y j) fun j hj=>by rw [A6q _ _ hj,D8]]
   rfl
  intro c3 bi cz bp ak T
  rw [wiS H (by omega)]
  refine ⟨⟨H+1,g9,bi,_,by omega,rfl,V,ak,T,by rw [aM];exact Q,(M.upd (by omega) rfl).congr fun k b7=>?_⟩,by simp only [Ec];omega⟩
  by_cases ek:k=H
  ·rw [iP ek,iP (by omega),ek]
  ·rw [iN ek]
   by_cases S:k<H
   ·rw [iP S,iP (by omega)]
   ·rw [iN S,iN (by omega)]
 have ah:¬ ((H:Nat):Int)<((J:Nat):Int):=ah
 obtain rfl:H=J:=by omega
 exact hg _ _ ad (B0 O q.le) ⟨ai,D.slF q.ole,Q,(M.mono I9 q.le).congr fun k x=>iP x⟩
end
def TapeS(g o:aG)(b:Nat)(xs:List Int):Prop:=∃ (A:Option Addr) (c k:Nat) (e:TypeId),o b=some (.cells #[.slice A xs.length c,I (k:Int)] e)/\k<=xs.length/\xs.length<=400/\SlI .i64 g A xs
def TapeS.keep{g o g' o':aG}{b:Nat}{xs:List Int}(t:TapeS g o b xs)(l:g.le g')(h:∀ x,o b=some x->o' b=some x):TapeS g' o' b xs:=by
 obtain ⟨A,c,k,e,f,a,i,d⟩:=t
 exact ⟨A,c,k,e,h _ f,a,i,d.mono l⟩
def C2k{P:Program}{t:TypeId}{v:Value}{K:VP}{h:aG}(x:∀ b,h b=none->K (.pointer (some ⟨b,0,none⟩)) (h.put b (.cells v.cells t))):wpH P (Instr.box t v) K h:=by
 unfold Instr.box newVar
 simp only [C6,P7,G1]
 exact x
section
variable {h g o:aG} {K:VP} {A:Option Addr} {xs:List Int} {b:Nat}
def B3b{ac:Nat}(s:SlI .i64 h A xs)(hc:xs.length<=ac)(hK:∀ b h' o',Sep h' h o'->TapeS h o' b (xs.take 400)->(∀ k,k≠b->o' k=none)->K (.pointer (some ⟨b,0,none⟩)) h'):aE prog B4e #[.slice A xs.length ac] h K:=by
 refine C3b _ _ _ ?_
 unfold C7t
 have e:(if (400:Int)<((xs.length:Nat):Int) then (400:Int) else ((xs.length:Nat):Int))=(((xs.take 400).length:Nat):Int):=by
  rw [aK];split<;>omega
 have f:(xs.take 400).length<=xs.length:=by rw [aK];omega
 rw [e]
 refine ⟨⟨by omega,by omega⟩,C2k ?_⟩
 intro b a
 refine ⟨_,rfl,hK b _ _ (Z2 a) ⟨J9 A ac 0 1,ac-0,0,_,C2 _ _ _,by omega,by rw [aK];omega,?_⟩ fun k d=>B8 _ _ d⟩
 have:=s.cut (c:=ac) (l:=0) (m:=(xs.take 400).length) (by omega) f hc
 rw [List.drop_zero,Nat.sub_zero,aK] at this
 have g:xs.take (min 400 xs.length)=xs.take 400:=by
  rw [<- List.take_take,List.take_of_length_le (aC _)]
 rw [g] at this
 exact this
def Cl{n:Nat}(s:Sep h g o)(t:TapeS g o b xs)(hn:0<n/\n<=1000000)(hK:∀ (r:Nat) h' o',r<n->Sep h' g o'->TapeS g o' b xs->(∀ k,k≠b->o' k=o k)->K (I (r:Int)) h'):aE prog It #[.pointer (some ⟨b,0,none⟩),I (n:Int)] h K:=by
 have G:=t
 obtain ⟨A,c,k,e,p,R,M,sl⟩:=t
 refine B92 _ _ ?_
 unfold C58
 have a:(h.without b).put b (.cells #[.slice A xs.length c,I (k:Int)] e)=h:=L3 (s.own b _ p)
 have c0:h.cell? (Addr.add ⟨b,0,none⟩ 0)=some (.slice A xs.length c):=by rw [<- a,E5,E4];rfl
 have c1:h.cell? (Addr.add ⟨b,0,none⟩ 1)=some (I (k:Int)):=by rw [<- a,E5,E4];rfl
 refine ⟨_,rfl,_,c1,_,rfl,_,_,_,c0,B6 (fun N=>?_) (fun N=>?_)⟩
 ·exact hK 0 _ o hn.1 s G fun _ _=>rfl
 ·have L:k<xs.length:=by omega
  refine ⟨_,rfl,_,_,_,c0,_,rfl,_,c1,?_⟩
  have u:=sl.mono s.le
  refine u.load rfl (by omega) (by omega) ?_
  rw [aD]
  refine ⟨_,rfl,_,c1,_,rfl,?_⟩
  have F:B5 ((k:Int)+1)=((k+1:Nat):Int):=by rw [B7 (by omega) (by omega)];omega
  rw [F]
  have H:∀ {K2:Unit->aG->Prop},(∀ h' o',Sep h' g o'->TapeS g o' b xs->(∀ k,k≠b->o' k=o k)->K2 () h')->wpH prog (Instr.storeAt F2 (.pointer (some (Addr.add ⟨b,0,none⟩ 1))) (I ((k+1:Nat):Int))) K2 h:=by
   intro K2 l
   have x:=A37 (P:=prog) (t:=F2) (k:=.i64) (n:=((k+1:Nat):Int)) (i:=1) (g:=h.without b) (b:=b) (c:=#[.slice A xs.length c,I (k:Int)]) (e:=e) (K:=K2) B2h (by show (1:Nat)<2;decide) (by
    rw [show (h.without b).put b (.cells ((#[.slice A xs.length c,I (k:Int)]:Array Value).setIfInBounds (1:Int).toNat (.int .i64 ((k+1:Nat):Int))) e)=h.put b (.cells #[.slice A xs.length c,I ((k+1:Nat):Int)] e) by
     have m:∀ y,(h.without b).put b y=h.put b y:=fun y=>by
      conv=>rhs;rw [<- a]
      rw [Js]
     rw [m];rfl]
    exact l _ _ (s.upd p _) ⟨A,c,k+1,e,C2 _ _ _,by omega,M,sl⟩ fun j q=>B8 _ _ q)
   rw [a] at x
   exact x
  refine H ?_
  intro h' o' z O C
  generalize xs.getD k 0=v
  have f:¬ ((n:Int)=0):=by omega
  refine B6 (fun e=>absurd e f) (fun _=>B6 (fun e=>absurd e f) (fun _=>?_))
  have D: -(n:Int)<Int.tmod v n/\Int.tmod v n<n:=by
   have S:=aP v.natAbs hn.1
   have d:=A06 v.natAbs n
   by_cases Q:v<0
   ·rw [show -((v.natAbs:Nat):Int)=v by omega] at d;have:=d.2.2.1;omega
   ·rw [show ((v.natAbs:Nat):Int)=v by omega] at d;have:=d.1;omega
  generalize Int.tmod v n=w at *
  rw [B7 (by omega) (by omega),Int.tmod_eq_emod_of_nonneg (by omega)]
  have J:=Int.emod_nonneg (w+n) f
  have E:=Int.emod_lt_of_pos (w+n) (show (0:Int)<n by omega)
  obtain ⟨r,B⟩:=Int.eq_ofNat_of_zero_le J
  rw [B] at E ⊢
  exact hK r _ o' (by omega) z O C
end
section
variable {h g o:aG} {wA B:Option Addr} {wc be m d:Nat} {hd:List HV} {xs ys:List QV}
end
section
variable {h g o:aG} {K:VP} {xs:List Int} {b:Nat}
def C5z(b:Nat)(o o':aG):Prop:=∀ k,k≠b->o' k=o k
def Sep.beside{h g o g2 p:aG}(s:Sep h g o)(t:Sep g g2 p):∀ k x,o k=some x->p k=none:=fun k x e=>by
 cases hp:p k with
 | none=>rfl
 | some y=>have a:=t.own k y hp;rw [s.dis k x e] at a;cases a
def Sep.giveB{ys:List QV}{bb n:Nat}{f:Nat->Rat}(s:Sep h g o)(rb:RowB o bb ys)(hy:ys.length=n)(rr:Row NQr g ys n f):∃ g2,g.le g2/\Sep h g2 (o.without bb)/\aI NQr g2 (some ⟨bb,0,none⟩) n f:=by
 have a:(o.without bb).le o:=fun k x e=>by
  by_cases b:k=bb
  ·subst b
   have:Heap.without o k k=none:=S5 _ _
   rw [this] at e;cases e
  ·unfold Heap.without at e;rw [iN b] at e;exact e
 obtain ⟨g2,c,d⟩:=s.give a
 obtain ⟨e,ex,i⟩:=rb
 have j:g2 bb=some (.cells (ys.flatMap enc++ex).toArray e):=by
  rw [<- d.rest bb (S5 _ _)]
  exact s.own _ _ i
 refine ⟨g2,c,d,ys,?_,hy,rr.mono Q5 c⟩
 exact RowB.slF (o:=g2) ⟨e,ex,j⟩ (B4 _)
def C4e{x y:Int}(hx:0<x)(hy:0<y):0<Rat.divInt x y:=by
 rw [Rat.divInt_eq_div,Rat.div_def]
 exact Rat.mul_pos (Rat.intCast_pos.2 hx) (Rat.inv_pos.2 (Rat.intCast_pos.2 hy))
def Uo(s:Sep h g o)(t:TapeS g o b xs)(hK:∀ w q h' g' o',g.le g'->Sep h' g' o'->TapeS g' o' b xs->C5z b o o'->NQ g' w q->Sz 8 q->K w.v h'):aE prog A4e #[.pointer (some ⟨b,0,none⟩)] h K:=by
 refine C3a _ ?_
 unfold C7s
 refine Cl (n:=19) s t (by omega) ?_
 intro f V O z G y i
 refine ⟨_,rfl,?_⟩
 rw [show B5 ((f:Int)-9)=(f:Int)-9 from B7 (by omega) (by omega)]
 refine G.call (T9 (by omega) ?_)
 intro sg A n c X r F Z B
 refine ⟨_,_,_,_,rfl,Cl (n:=4) B (y.keep r fun _ e=>e) (by omega) ?_⟩
 intro j W o3 J N M a
 refine ⟨_,rfl,?_⟩
 rw [show B5 (1+(j:Int))=1+(j:Int) from B7 (by omega) (by omega)]
 refine N.call (T9 (by omega) ?_)
 intro E A2 n2 c2 T d D Q C
 have x:ZB 8 ((f:Int)-9):=by unfold ZB;omega
 have u:ZB 8 (1+(j:Int)):=by unfold ZB;omega
 refine ⟨_,_,_,_,rfl,C.call (Ez (m:=8) (F.mono d) D (by omega) x u (by omega) ?_)⟩
 intro w S p H R L
 exact ⟨_,_,_,_,_,_,_,_,rfl,hK w _ _ _ _ (B0 r (B0 d p)) L (M.keep (B0 d p) fun _ e=>e) (fun k l=>(a k l).trans (i k l)) H (Fo (by omega) x u)⟩
def Xg(s:Sep h g o)(t:TapeS g o b xs)(hK:∀ w q h' g' o',g.le g'->Sep h' g' o'->TapeS g' o' b xs->C5z b o o'->NQ g' w q->Sz 8 q->0<q->K w.v h'):aE prog Ml #[.pointer (some ⟨b,0,none⟩)] h K:=by
 refine A5a _ ?_
 unfold A5b
 refine Cl (n:=9) s t (by omega) ?_
 intro f V O z G y i
 refine ⟨_,rfl,?_⟩
 rw [show B5 (1+(f:Int))=1+(f:Int) from B7 (by omega) (by omega)]
 refine G.call (T9 (by omega) ?_)
 intro sg A n c X r F Z B
 refine ⟨_,_,_,_,rfl,Cl (n:=4) B (y.keep r fun _ e=>e) (by omega) ?_⟩
 intro j W o3 J N M a
 refine ⟨_,rfl,?_⟩
 rw [show B5 (1+(j:Int))=1+(j:Int) from B7 (by omega) (by omega)]
 refine N.call (T9 (by omega) ?_)
 intro E A2 n2 c2 T d D Q C
 have x:ZB 8 (1+(f:Int)):=by unfold ZB;omega
 have u:ZB 8 (1+(j:Int)):=by unfold ZB;omega
 refine ⟨_,_,_,_,rfl,C.call (Ez (m:=8) (F.mono d) D (by omega) x u (by omega) ?_)⟩
 intro w S p H R L
 exact ⟨_,_,_,_,_,_,_,_,rfl,hK w _ _ _ _ (B0 r (B0 d p)) L (M.keep (B0 d p) fun _ e=>e) (fun k l=>(a k l).trans (i k l)) H (Fo (by omega) x u) (C4e (by omega) (by omega))⟩
def A6k{n:Nat}(s:Sep h g o)(t:TapeS g o b xs)(hn1:1<=n)(hn:n<=1000)(hK:∀ bb c ys f h' g' o',g.le g'->Sep h' g' o'->TapeS g' o' b xs->RowB o' bb ys->ys.length=n->Row NQr g' ys n f->(∀ i,i<n->Sz 8 (f i))->bb≠b->n<=c->(∀ k x,k≠b->o k=some x->o' k=some x/\k≠bb)->K (.slice (some ⟨bb,0,none⟩) n c) h'):aE prog Vi #[.pointer (some ⟨b,0,none⟩),I (n:Int)] h K:=by
 refine B91 _ _ ?_
 unfold C57
 refine ⟨fun L R=>∃ (k:Nat) (g' o':aG) (A:Option Addr) (c:Nat) (ys:List QV) (f:Nat->Rat),k<=n/\L=[.slice A k c,I (k:Int)]/\g.le g'/\Sep R g' o'/\TapeS g' o' b xs/\OwnSl o' K9 A c ys/\ys.length=k/\Row NQr g' ys k f/\(∀ i,i<k->Sz 8 (f i))/\A≠some ⟨b,0,none⟩/\∀ j x,j≠b->o j=some x->o' j=some x/\A≠some ⟨j,0,none⟩,fun L _=>n-(iAt L 1).toNat,
  ⟨0,g,o,none,0,[],fun _=>0,by omega,rfl,B4 _,s,t,OwnSl.nil,rfl,Row.nil,fun i S=>by omega,by simp,fun j x _ e=>⟨e,by simp⟩⟩,?_⟩
 rintro lA l X z R ⟨k,g1,o1,A,c,ys,f,hk,eL,W,s1,V,Q,a,rr,Z,m,d⟩
 obtain ⟨⟨rfl,rfl,rfl⟩,rfl⟩:=sI2 eL
 refine B6 (fun ac=>?_) (fun aa=>?_)
 ·refine Uo s1 V ?_
  intro w q h2 g2 o2 l2 s2 t2 u iw sq
  have E:OwnSl o2 K9 lA X ys:=Q.keep fun j x hA hx=>by
   rw [u j (fun e=>m (by rw [hA,e]))];exact hx
  refine ⟨_,_,_,_,_,_,_,_,rfl,?_⟩
  refine N4 (ty:=A85) A09 s2 E a.symm (y:=w) rfl (by decide) (by omega) (by omega) ?_
  intro A3 c3 h3 g3 o3 C s3 H p
  rw [a,wiS l (by omega)]
  obtain ⟨A0,c0,k0,e0,O,G,J,M⟩:=t2
  have r:=p b _ O m
  refine ⟨⟨l+1,g3,o3,A3,c3,_,fun i=>if i=l then q else f i,by omega,rfl,B0 W (B0 l2 C),s3,⟨A0,c0,k0,e0,r.1,G,J,M.mono C⟩,H,by rw [List.length_append,a];rfl,?_,fun i S=>?_,r.2,fun j x B e=>?_⟩,?_⟩
  ·have rA:Row NQr g3 ys ys.length (fun i=>if i=l then q else f i):=by
    rw [a]
    exact (rr.mono Q5 (B0 l2 C)).congr fun i S=>(iN (by omega)).symm
   have T:=rA.push (w:=w) (by rw [a,iP rfl];exact Q5 _ _ _ _ C iw)
   rw [List.length_append,a] at T
   exact T
  ·show Sz 8 (if i=l then q else f i)
   split
   ·exact sq
   ·exact Z i (by omega)
  ·obtain ⟨F,N⟩:=d j x B e
   have D:o2 j=some x:=by rw [u j B];exact F
   exact p j x D N
  ·show n-((l+1:Nat):Int).toNat<n-(l:Int).toNat
   omega
 ·obtain rfl:l=n:=by omega
  obtain ⟨bb,rfl,rb⟩:=Q.rowB (by rintro rfl;simp at a;omega)
  refine hK bb X ys f R g1 o1 W s1 V rb a rr Z (fun e=>m (by rw [e])) (by have:=Q.1;omega) (fun j x B e=>?_)
  obtain ⟨F,N⟩:=d j x B e
  exact ⟨F,fun D=>N (by rw [D])⟩
def Yo{n:Nat}(s:Sep h g o)(t:TapeS g o b xs)(hn1:1<=n)(hn:n<=1000)(hK:∀ bb c f h' g' o',g.le g'->Sep h' g' o'->TapeS g' o' b xs->aI NQr g' (some ⟨bb,0,none⟩) n f->(∀ i,i<n->Sz 8 (f i))->n<=c->(∀ k x,k≠b->o k=some x->o' k=some x)->K (.slice (some ⟨bb,0,none⟩) n c) h'):aE prog Vi #[.pointer (some ⟨b,0,none⟩),I (n:Int)] h K:=by
 refine A6k s t hn1 hn ?_
 intro bb c G f w H F r D m u j E y d B a
 obtain ⟨A,l,q,rv⟩:=D.giveB u j E
 refine hK bb c f w A _ (B0 r l) q (m.keep l fun x e=>?_) rv y B fun k x z e=>?_
 ·unfold Heap.without
  rw [iN d.symm];exact e
 ·obtain ⟨p,C⟩:=a k x z e
  unfold Heap.without
  rw [iN C];exact p
def C33(g o:aG)(b bo:Nat)(rb:Nat->Nat)(n w:Nat)(xs:List Int)(hp:aG):Prop:=∃ (g' o':aG) (R:Nat->Nat->Rat),g.le g'/\Mt hp g' o' bo rb n w R/\TapeS g' o' b xs/\(∀ i j,i<n->j<w->Sz 8 (R i j))/\∀ k x,k≠b->o k=some x->o' k=some x
def B0b{n w:Nat}(s:Sep h g o)(t:TapeS g o b xs)(hn:n<=1000)(hw:w<=1000)(hK:∀ bo rb R h' g' o',g.le g'->Mt h' g' o' bo rb n w R->TapeS g' o' b xs->(∀ i j,i<n->j<w->Sz 8 (R i j))->b≠bo->(∀ i,i<n->b≠rb i)->(∀ k x,k≠b->o k=some x->o' k=some x/\k≠bo/\∀ i,i<n->k≠rb i)->K (.slice (some ⟨bo,0,none⟩) n n) h'):aE prog A6x #[.pointer (some ⟨b,0,none⟩),I (n:Int),I (w:Int)] h K:=by
 refine B8z _ _ _ ?_
 unfold C55
 refine s.call (A6u (by omega) (by omega) ?_)
 intro h1 g1 o1 bo rb l1 t1 h2 s2
 have y:=s2.beside t1.sep
 have sj:=s2.join t1.sep
 have jr:∀ k x,o1 k=some x->(o.join o1) k=some x:=fun k x e=>by unfold Heap.join;rw [e]
 have jl:∀ k x,o k=some x->(o.join o1) k=some x:=fun k x e=>by
  unfold Heap.join;rw [y k x e];exact e
 obtain ⟨⟨y0,ad⟩,hy⟩:=t1.own
 have aa:∀ k x,o k=some x->k≠bo:=fun k x e e2=>by rw [e2] at e;rw [y _ x e] at ad;cases ad
 have E:∀ k x,o k=some x->∀ i,i<n->k≠rb i:=fun k x e i hi e2=>by
  obtain ⟨y1,V⟩:=hy i hi
  rw [e2] at e;rw [y _ x e] at V;cases V
 have hb:∃ x,o b=some x:=by obtain ⟨A,c,k,e,hb,_⟩:=t;exact ⟨_,hb⟩
 obtain ⟨xb,X⟩:=hb
 have b1:=aa b xb X
 have b2:=E b xb X
 refine ⟨_,_,_,rfl,fun L hp=>∃ i:Nat,i<=n/\L=[I (i:Int)]/\C33 g o b bo rb n w xs hp,fun L _=>n-(iAt L 0).toNat,
  ⟨0,by omega,rfl,g1,o.join o1,_,l1,t1.keep sj (B4 _) fun k x e _=>jr k x e,t.keep l1 fun x e=>jl b x e,fun _ _ _ _=>Sz.zero (by omega),fun k x _ e=>jl k x e⟩,?_⟩
 rintro z hp ⟨i,hi,eL,ri⟩
 obtain rfl:=sI1 eL
 refine B6 (fun al=>?_) (fun an=>?_)
 ·have f:i<n:=by omega
  have ag:=ri
  obtain ⟨g3,o3,R,l3,S,B,F,C⟩:=ag
  obtain ⟨cc,W,hh⟩:=S.head f
  refine ⟨_,rfl,by omega,by omega,_,_,_,S.sep.cell hh,fun L hp=>∃ j:Nat,j<=w/\L=[I (j:Int)]/\C33 g o b bo rb n w xs hp,fun L _=>w-(iAt L 0).toNat,⟨0,by omega,rfl,ri⟩,?_⟩
  clear hh W C F B S l3 ri
  rintro z2 am ⟨j,hj,af,g4,o4,R4,l4,M,D,N,ac⟩
  obtain rfl:=sI1 af
  refine B6 (fun aj=>?_) (fun ak=>?_)
  ·have Q:j<w:=by omega
   obtain ⟨cc,W,hh⟩:=M.head f
   have kp:∀ {h5 p r:aG},g4.le p->Sep h5 p r->C5z b o4 r->Mt h5 p r bo rb n w R4:=fun u G d=>M.keep G u fun k x e H=>by
    have ai:k≠b:=by
     rcases H with rfl|⟨i',ae,rfl⟩
     ·exact b1.symm
     ·exact (b2 i' ae).symm
    rw [d k ai];exact e
   have Z:∀ {q:Rat} {h6 p r J:aG},g4.le p->TapeS p r b xs->C5z b o4 r->Sz 8 q->Mt h6 p J bo rb n w (C3t R4 i j q)->(∀ k,k≠rb i->J k=r k)->C33 g o b bo rb n w xs h6:=by
    intro q h6 p r J u m d T O l
    refine ⟨p,J,_,B0 l4 u,O,m.keep (B4 _) fun x e=>by rw [l b (b2 i f)];exact e,fun a c ha hc=>?_,fun k x H e=>?_⟩
    ·unfold C3t
     split
     ·exact T
     ·exact N a c ha hc
    ·rw [l k (E k x e i f),d k H]
     exact ac k x H e
   have ew:B5 ((j:Int)+1)=((j+1:Nat):Int):=by rw [B7]<;>omega
   refine ⟨_,rfl,by omega,by omega,⟨_,_,_,M.sep.cell hh,Uo M.sep D ?_⟩,Uo M.sep D ?_⟩
   ·intro v q h5 p r u G m d iv T
    refine ⟨_,_,_,_,_,_,_,_,rfl,_,rfl,by omega,by omega,?_⟩
    refine (kp u G d).store f Q iv ?_
    intro h6 J O l
    rw [ew]
    exact ⟨⟨j+1,by omega,rfl,Z u m d T O l⟩,by simp only [Ec];omega⟩
   ·intro v q h5 p r u G m d iv T
    obtain ⟨c5,ao,ah⟩:=(kp u G d).head f
    refine ⟨_,_,_,_,_,_,_,_,rfl,_,_,_,G.cell ah,_,rfl,by omega,by omega,?_⟩
    refine (kp u G d).store f Q iv ?_
    intro h6 J O l
    rw [ew]
    exact ⟨⟨j+1,by omega,rfl,Z u m d T O l⟩,by simp only [Ec];omega⟩
  ·rw [wiS i (by omega)]
   exact ⟨⟨i+1,by omega,rfl,g4,o4,R4,l4,M,D,N,ac⟩,by simp only [Ec];omega⟩
 ·obtain ⟨g3,o3,R,l3,S,B,F,C⟩:=ri
  exact hK bo rb R hp g3 o3 l3 S B F b1 b2 fun k x H e=>⟨C k x H e,aa k x e,E k x e⟩
end
end Go.Proofs.YtmbfcbbkbefgfaaGreatDoor
namespace Go.Proofs.YtmbfcbbkbefgfaaGreatDoor
set_option maxRecDepth 20000
def Ly{cs:List Nat}{m:Nat}(h:m<cs.length):cs.getD m 0∈cs:=by
 rw [List.getD_eq_getElem?_getD,List.getElem?_eq_getElem h]
 exact List.getElem_mem h
def B3m{R:Nat->Nat->Rat}{cs:List Nat}{c:Nat}(hc:c∉cs):∀ k,k<=cs.length->∀ j,Qh R cs c k j=(if j=c then 1 else 0)+B37 (fun m=> - R m c) cs k j:=by
 intro k
 induction k with
 | zero=>intro _ j;show (if j=c then (1:Rat) else 0)=_+0;rw [Rat.add_zero]
 | succ k ih=>
  intro f j
  have d:=ih (by omega) j
  have a:cs.getD k 0≠c:=fun e=>hc (e▸Ly (by omega))
  show (if j=cs.getD k 0 then-R k c else Qh R cs c k j)=(if j=c then 1 else 0)+(if j=cs.getD k 0 then-R k c else B37 (fun m=> - R m c) cs k j)
  by_cases e:j=cs.getD k 0
  ·rw [iP e,iP e,iN (fun b=>a (by rw [<- e,b])),Rat.zero_add]
  ·rw [iN e,iN e,d]
def B7y{M:Nat->Nat->Rat}{n w l:Nat}(hl:l<(Q6 (ecE M n w).cs w).length){i:Nat}(hi:i<n):sm w (fun t=>M i t*C4b (ecE M n w).R (ecE M n w).cs w l t)=0:=by
 have h:=EqA.run (n:=n) (w:=w) M w (aC w)
 have b:Asc (ecE M n w).cs w:=Te n ⟨M,[],1⟩ rfl w
 obtain ⟨f,k⟩:=A45 (ecE M n w).cs w _ (Ly hl)
 unfold C4b
 generalize (Q6 (ecE M n w).cs w).getD l 0=c at *
 obtain ⟨B,E,r,_⟩:=h.elim
 have q:=h.zero
 change ZrE n w (ecE M n w) at q
 change Elim n w B (ecE M n w).R (fun m=>(ecE M n w).cs.getD m 0) (ecE M n w).cs.length at E
 generalize ecE M n w=s at *
 obtain ⟨a,d,e⟩:=r i hi
 have o:∀ j,j<w->B a j=sm s.cs.length fun m=>B a (s.cs.getD m 0)*s.R m j:=fun j g=>by
  by_cases u:a<s.cs.length
  ·exact E.top a j u g
  ·rw [E.bot a j d (by omega) g,q a j d (by omega) g,Rat.zero_add]
 have x:sm w (fun t=>M i t*Qh s.R s.cs c s.cs.length t)=sm w (fun t=>B a t*(if t=c then 1 else 0)+B a t*Xe (fun _=>0) (fun m=> - s.R m c) 0 s.cs t):=C8 fun t _=>by
  rw [B3m k s.cs.length (aC _) t,A0k,<- e t]
  grind
 rw [x,Ii,Ud f fun t _ p=>by rw [iN p,Rat.mul_zero],iP rfl,Rat.mul_one,B2n _ _ (A4r b) b.lt,o c f]
 have y:(sm s.cs.length fun m=>B a (s.cs.getD m 0) * - s.R m c)= - sm s.cs.length fun m=>B a (s.cs.getD m 0)*s.R m c:=by
  rw [<- Ue]
  exact C8 fun m _=>by grind
 rw [y]
 grind
def C1y{M:Nat->Nat->Rat}{n w m l:Nat}(hs:∀ i j,i<n->j<w->Sz m (M i j))(hm:1<=m)(hl:l<(Q6 (ecE M n w).cs w).length)(j:Nat):Sz (7^w*m) (C4b (ecE M n w).R (ecE M n w).cs w l j):=by
 obtain ⟨a,_⟩:=A45 (ecE M n w).cs w _ (Ly hl)
 exact B7w (n:=n) (w:=w) (C4m hs hm (aC w) (aC _)).1 a (Ee M n w).2 (Tf w m hm) _ (aC _) j
def B7r{m n:Nat}{M:Nat->Nat->Rat}{w b z:Nat->Rat}(hz:∀ i,i<n->sm m (fun t=>M i t*z t)=b i)(i:Nat):prZ n M w z (A39 (prE m n M w) (prR m M b z) n n) i=z i:=by
 have c:∀ j,A39 (prE m n M w) (prR m M b z) n n j=0:=B7d fun i a=>by
  unfold prR
  rw [hz i a];grind
 unfold prZ
 rw [T4 fun j _=>by rw [c j,Rat.mul_zero],Rat.add_zero]
def A8t(R:Nat->Nat->Rat)(w k:Nat):rv (Qn R w k)=R (k/w) (k%w):=D8 _
def B46(R:Nat->Nat->Rat){w i j:Nat}(hj:j<w):mtx (rvs (Qn R w)) w i j=R i j:=by
 obtain ⟨b,a⟩:=dm1 (i:=i) hj
 show rv (Qn R w (i*w+j))=_
 rw [A8t,b,a]
def A48{R:Nat->Nat->Rat}{n w m k:Nat}(hs:∀ i j,i<n->j<w->Sz m (R i j))(hm:m<=1000000)(hk:k<n*w):(Qn R w k).length<=100000000:=by
 have b:k/w<n:=aO (by rw [aL];exact hk)
 have a:k%w<w:=aP k (Nat.pos_of_ne_zero (by rintro rfl;simp at hk))
 have:=R8 (hs _ _ b a)
 show (H1 (R (k/w) (k%w))).length<=_
 omega
def A8s{R:Nat->Nat->Rat}{n w m k:Nat}(hs:∀ i j,i<n->j<w->Sz m (R i j))(hk:k<n*w):Sz m (rv (Qn R w k)):=by
 have b:k/w<n:=aO (by rw [aL];exact hk)
 have a:k%w<w:=aP k (Nat.pos_of_ne_zero (by rintro rfl;simp at hk))
 rw [A8t]
 exact hs _ _ b a
def Ym{h:aG}{K:VP}{A:Option Addr}{n w m cap:Nat}{M:Nat->Nat->Rat}(rs:RowsV h A n w M)(hn:n<=10000)(hw1:1<=w)(hw:w<=10000)(hn1:1<=n)(hs:∀ i j,i<n->j<w->Sz m (M i j))(hm:m<=400000000)
 (hK:∀ A' c' h',h.le h'->n*w<=c'->aI SSr h' A' (n*w) (Qn M w)->K (Ys n w A' (n*w) c') h'):aE prog A1d #[.slice A n cap] h K:=by
 refine B90 _ _ _ ?_
 unfold C56
 exact B0m rs hn hw1 hw hn1 hs hm fun A' c' h' l a r=>⟨_,_,_,_,_,rfl,hK A' c' h' l a r⟩
section
variable {h:aG} {A:Option Addr} {xs:List Int}
def law_projected{ac:Nat}(gl:Gl h)(s:SlI .i64 h A xs)(hc:xs.length<=ac):aE prog Da #[.slice A xs.length ac] h (C80 h):=by
 refine Kx _ _ _ ?_
 unfold Fq
 refine B3b s hc ?_
 intro b h1 o1 s1 t1 _
 generalize xs.take 400=ys at t1
 refine ⟨_,rfl,Cl (n:=3) s1 t1 (by omega) ?_⟩
 intro n0 h2 o2 dc s2 t2 _
 refine ⟨_,rfl,Cl (n:=4) s2 t2 (by omega) ?_⟩
 intro m0 h3 o3 df s3 t3 _
 have en:B5 (1+(n0:Int))=((1+n0:Nat):Int):=by rw [B7]<;>omega
 have em:B5 (1+(m0:Int))=((1+m0:Nat):Int):=by rw [B7]<;>omega
 refine ⟨_,rfl,?_⟩
 rw [en,em]
 obtain ⟨n,hn⟩:∃ n,n=1+n0:=⟨_,rfl⟩
 obtain ⟨m,hm⟩:∃ m,m=1+m0:=⟨_,rfl⟩
 rw [<- hn,<- hm]
 refine B0b s3 t3 (by omega) (by omega) ?_
 intro bo rb R h4 g4 o4 l4 m4 t4 S b1 b2 _
 refine ⟨_,_,_,rfl,Yo m4.sep t4 (by omega) (by omega) ?_⟩
 intro bx cx fx h5 g5 o5 l5 s5 t5 rx hx et k5
 have aq:∀ k,(k=bo\/∃ i,i<n/\k=rb i)->k≠b:=by
  rintro k (rfl|⟨i',W,rfl⟩)
  ·exact b1.symm
  ·exact (b2 i' W).symm
 have m5:=m4.keep s5 l5 fun k x e hk=>k5 k x (aq k hk) e
 refine ⟨_,_,_,rfl,K6 A09 (zx:=Ay) rfl (by omega) (by omega) (by omega) (by omega) ?_⟩
 intro bw bz
 simp only [aD]
 have fr:∀ k x,o5 k=some x->k≠bw:=by
  rintro k x e rfl
  rw [s5.own k x e] at bz;cases bz
 have s6:=s5.new bz (.cells ((List.replicate m Ay).flatMap enc).toArray K9)
 have m6:=m5.keep s6 (B4 _) fun k x e _=>by rw [B8 _ _ (fr k x e)];exact e
 have t6:=t5.keep (o':=o5.put bw (.cells ((List.replicate m Ay).flatMap enc).toArray K9)) (B4 _) fun x e=>by rw [B8 _ _ (fr b x e)];exact e
 obtain ⟨⟨y0,co⟩,b4⟩:=m5.own
 have ao:b≠bw:=by obtain ⟨A0,c0,k0,e0,cw,_⟩:=t5;exact fr b _ cw
 have bt:∀ k,(k=bo\/∃ i,i<n/\k=rb i)->k≠bw:=by
  rintro k (rfl|⟨i',W,rfl⟩)
  ·exact fr _ _ co
  ·obtain ⟨y1,dh⟩:=b4 i' W;exact fr _ _ dh
 refine ⟨_,_,_,rfl,fun L hp=>∃ (k:Nat) (g o:aG) (ws:List QV) (f:Nat->Rat),k<=m/\L=[I (k:Int)]/\g5.le g/\Mt hp g o bo rb n m R/\TapeS g o b ys/\RowX o bw ws/\ws.length=m/\Row NQr g ws k f/\∀ i,i<k->Sz 8 (f i)/\0<f i,fun L _=>m-(iAt L 0).toNat,
  ⟨0,g5,_,_,fun _=>0,by omega,rfl,B4 _,m6,t6,RowX.mk,List.length_replicate,Row.nil,fun i c=>by omega⟩,?_⟩
 clear m6 t6 s6
 rintro z dx ⟨k,g6,o6,ws,T,hk,eL,l6,m6,t6,bj,cc,rr,Q⟩
 obtain rfl:=sI1 eL
 refine B6 (fun cg=>?_) (fun cl=>?_)
 ·refine Xg m6.sep t6 ?_
  intro w q h7 g7 o7 l7 s7 t7 cf iw sq pq
  have dr:RowX o7 bw ws:=bj.keep fun x e=>by rw [cf bw ao.symm];exact e
  refine ⟨_,_,_,_,_,_,_,_,rfl,_,rfl,by omega,by omega,?_⟩
  refine S4 Cu (y:=w) rfl s7 dr (i:=k) (by omega) ?_
  intro h8 o8 x8 ca s8 ar
  rw [wiS k (by omega)]
  refine ⟨⟨k+1,g7,o8,_,fun i=>if i=k then q else T i,by omega,rfl,B0 l6 l7,m6.keep s8 l7 fun j x e p=>?_,t7.keep (B4 _) fun x e=>?_,ar,by rw [aM];exact cc,Row.set ((rr.mono Q5 l7).congr fun i c=>(iN (by omega)).symm) (by omega) (by rw [iP rfl];exact iw),fun i c=>?_⟩,by simp only [Ec];omega⟩
  ·rw [ca,B8 _ _ (bt j p),cf j (aq j p)];exact e
  ·rw [ca,B8 _ _ ao];exact e
  ·show Sz 8 (if i=k then q else T i)/\0<(if i=k then q else T i)
   by_cases e:i=k
   ·rw [iP e];exact ⟨sq,pq⟩
   ·rw [iN e];exact Q i (by omega)
 obtain rfl:k=m:=by omega
 obtain ⟨g7,l7,s7,ch⟩:=m6.sep.giveB bj.rowB cc rr
 have m7:=m6.keep s7 l7 fun j x e p=>by unfold Heap.without;rw [iN (bt j p)];exact e
 have t7:=t6.keep (o':=o6.without bw) l7 fun x e=>by unfold Heap.without;rw [iN ao];exact e
 refine Yo m7.sep t7 (by omega) (by omega) ?_
 intro bu cu fu h8 g8 o8 l8 s8 t8 ru hu d8 k8
 have m8:=m7.keep s8 l8 fun j x e p=>k8 j x (aq j p) e
 have af:=m8.rowsV
 have ar:=rx.mono Q5 (B0 l6 (B0 l7 (B0 l8 s8.le)))
 have bi:=ch.mono Q5 (B0 l8 s8.le)
 have cz:=ru.mono Q5 s8.le
 have av:h.le h8:=B0 l4 (B0 l5 (B0 l6 (B0 l7 (B0 l8 s8.le))))
 clear m8 m7 t7 s7 ch m6 t6 bj rr m5 m4 t4 t5 s5 ru rx k8 k5 s8 t8 fr ao bt aq b4 co
 obtain ⟨n1,n3⟩:1<=n/\n<=3:=by omega
 obtain ⟨m1,m3⟩:1<=k/\k<=4:=by omega
 clear hn hm en em dc df
 refine ⟨_,_,_,rfl,A4b (m:=8) af cz (by omega) (by omega) S hu (by omega) ?_⟩
 intro b9 h9 bf
 have l9:=bf.le
 obtain ⟨D,hfb⟩:∃ D,D=fun i=>sm k (fun j=>R i j*fu j):=⟨_,rfl⟩
 have ci:=bf.vis Q5
 rw [<- hfb] at ci
 have N:∀ i,i<n->Sz 69 (D i):=fun i c=>by
  rw [hfb]
  exact (A0d (m:=8) (w:=k) (f:=fun j=>R i j) (f2:=fu) (fun j p=>S i j c p) hu k (aC _)).mono (by omega)
 refine ⟨_,_,_,rfl,Ck (m:=69) ci (by omega) N (by omega) ?_⟩
 intro d4 di r
 have dk:=r.le
 have a4:=B0 l9 dk
 refine ⟨_,_,_,rfl,Ym (m:=8) (RowsV.mono a4 af) (by omega) m1 (by omega) n1 S (by omega) ?_⟩
 intro A11 eh ee bl dv c6
 have bc:=B0 a4 bl
 refine ⟨_,_,_,_,_,rfl,Ck (m:=8) (ar.mono Q5 bc) (by omega) hx (by omega) ?_⟩
 intro ei ea ah
 have au:=ah.le
 have az:=B0 bc au
 refine ⟨_,_,_,rfl,Ck (m:=8) (bi.mono Q5 az) (by omega) (fun i c=>(Q i c).1) (by omega) ?_⟩
 intro dw dz ae
 have ak:=ae.le
 have bg:=B0 az ak
 have cq:=B0 av bg
 have d6:n*k<=3*4:=aR n3 m3
 have mk:MOk (n:Int) (k:Int) (n*k) (Qn R k) n k:=⟨rfl,rfl,n1,by omega,m1,by omega,rfl,fun i _=>⟨_,rfl⟩⟩
 have ck:∀ (D fx:Nat->Rat),PChk (n:Int) (k:Int) (n*k) (Qn R k) n (fun i=>H1 (D i)) k (fun i=>H1 (fx i)) k (fun i=>H1 (T i)) 0:=fun D fx=>.inr (.inr (.inr ⟨⟨⟨_,_,mk⟩,fun i _=>⟨_,rfl⟩,fun i _=>⟨_,rfl⟩,fun i _=>⟨_,rfl⟩⟩,⟨rfl,rfl,rfl⟩,fun i c=>by rw [D8];exact (Q i c).2,rfl⟩))
 obtain ⟨M,hM⟩:∃ M,M=mtx (rvs (Qn R k)) k:=⟨_,rfl⟩
 have am:∀ i j,j<k->M i j=R i j:=fun i j p=>by rw [hM];exact B46 R p
 have cb:∀ i j,i<n->j<k->Sz 8 (M i j):=fun i j c p=>by rw [am i j p];exact S i j c p
 have hb:∀ i,i<n->D i=sm k fun t=>M i t*fu t:=fun i _=>by
  rw [hfb]
  exact C8 fun t H=>by rw [am i t H]
 have b6:∀ (x u:Nat->Rat),(∀ i,i<n->D i=sm k fun t=>M i t*u t)->Ms (prE k n M T) (prR k M D x) n n:=fun x u hu=>C6a (M:=M) (w:=T) (x:=x) (fun t H=>(Q t H).2) hu (fun i j _ p=>A0l M T p) (fun _ _=>rfl)
 have b0:=b6 fx fu hb
 obtain ⟨z,hz⟩:∃ z,z=prZ n M T fx (A39 (prE k n M T) (prR k M D fx) n n):=⟨_,rfl⟩
 have an:∀ i,i<n->sm k (fun t=>M i t*z t)=D i:=fun i c=>by
  rw [hz]
  refine B38 (fun i c=>?_) c
  rw [<- C1e b0 c]
  exact C8 fun j p=>by rw [A0l M T p]
 have q3:∀ i,i<n->Sz 700 (prR k M D fx i):=fun i c=>(C45 (s:=8) (k:=69) (by omega) cb N (fun t H=>(hx t H).mono (by omega)) i c).mono (by omega)
 have J:∀ i,i<k->Sz 1440674 (z i):=fun i c=>by
  rw [hz]
  exact (B7s (s:=8) (sx:=69) (se:=700) (nq:=3) (by omega) cb (fun t H=>(Q t H).1) (fun t H=>(hx t H).mono (by omega)) (.inr n3) (by omega) (by omega) q3 i c).mono (by omega)
 have ct:=b6 z z fun i c=>(an i c).symm
 have ag:=B7r (M:=M) (w:=T) (b:=D) (z:=z) an
 refine ⟨_,_,_,rfl,Pb (s:=8) (sx:=69) (gl.mono cq) (c6.mono I9 (B0 au ak)) ((r.vis I9).mono I9 (B0 bl (B0 au ak))) ((ah.vis I9).mono I9 ak) (ae.vis I9) (by omega) (by omega) (by omega) (by omega) (fun i c=>A48 S (by omega) c) (fun i c=>by have:=R8 (N i c);omega) (fun i c=>by have:=R8 (hx i c);omega) (fun i c=>by have:=R8 (Q i c).1;omega) (by omega) (by omega) (by omega) (fun i c=>A8s S c) (fun i c=>by rw [D8];exact (Q i c).1) (fun i c=>by rw [D8];exact N i c) (fun i c=>by rw [D8];exact (hx i c).mono (by omega)) (fun E F O e1 X e3=>?_) (fun e h' l x br=>absurd (x.eq (ck D fx)) br) (fun E F O x e1 X e3 d=>?_) (fun E F O x e1 X e3 bn A14 dy el ce rz=>?_)⟩
 ·subst e1 X
  rw [N8,N8,<- hM]
  refine ⟨700,3,.inr n3,by omega,by omega,q3,?_,by omega,by omega,by omega⟩
  unfold bnd
  omega
 ·subst e1 X
  rw [N8,N8,N8,<- hM] at d
  exact absurd b0 d
 subst e1 X
 rw [N8,N8,N8,<- hM,<- hz] at rz
 clear O x e3 bn
 have be:=B0 bg ce
 refine ⟨_,_,_,_,rfl,Ym (m:=8) (RowsV.mono be af) (by omega) m1 (by omega) n1 S (by omega) ?_⟩
 intro A15 ej ef bh du c8
 have bb:=B0 be bh
 refine ⟨_,_,_,_,_,rfl,Ck (m:=8) (bi.mono Q5 bb) (by omega) (fun i c=>(Q i c).1) (by omega) ?_⟩
 intro es cy V
 have aw:=V.le
 have a0:=B0 bb aw
 have cn:=B0 av a0
 have ai:di.le cy:=B0 bl (B0 au (B0 ak (B0 ce (B0 bh aw))))
 have a3:=rz.mono I9 (B0 bh aw)
 refine ⟨_,_,_,rfl,Pb (s:=8) (sx:=1440674) (gl.mono cn) (c8.mono I9 aw) ((r.vis I9).mono I9 ai) a3 (V.vis I9) (by omega) (by omega) (by omega) (by omega) (fun i c=>A48 S (by omega) c) (fun i c=>by have:=R8 (N i c);omega) (fun i c=>by have:=R8 (J i c);omega) (fun i c=>by have:=R8 (Q i c).1;omega) (by omega) (by omega) (by omega) (fun i c=>A8s S c) (fun i c=>by rw [D8];exact (Q i c).1) (fun i c=>by rw [D8];exact (N i c).mono (by omega)) (fun i c=>by rw [D8];exact J i c) (fun E F O e1 X e3=>?_) (fun e h' l x br=>absurd (x.eq (ck D z)) br) (fun E F O x e1 X e3 d=>?_) (fun E F O x e1 X e3 bn A17 eo ep bp cj=>?_)⟩
 ·subst e1 X
  rw [N8,N8,<- hM]
  refine ⟨700,3,.inr n3,by omega,by omega,fun i c=>?_,?_,by omega,by omega,by omega⟩
  ·unfold prR
   rw [an i c,show D i-D i=0 by grind]
   exact Sz.zero (by omega)
  ·unfold bnd
   omega
 ·subst e1 X
  rw [N8,N8,N8,<- hM] at d
  exact absurd ct d
 subst e1 X
 rw [N8,N8,N8,<- hM] at cj
 clear O x e3 bn
 have a2:=a3.mono I9 bp
 refine ⟨_,_,_,_,rfl,B3l a2 (by omega) (fun i c=>by have:=R8 (J i c);omega) (fun _ c9 c7 aa=>⟨_,_,_,_,rfl,?_⟩) (fun d=>absurd (fun i _=>⟨_,rfl⟩) d)⟩
 have ap:=aa.le
 refine I8 (fun e=>absurd rfl e) (fun _=>I8 (fun e=>absurd rfl e) (fun _=>Br.nt (I8 (fun e=>absurd rfl e) (fun _=>?_))))
 refine A3e (a2.mono I9 ap) (cj.mono I9 ap) (by omega) (fun _ _=>⟨_,rfl,Br.nt ?_⟩) (fun d=>absurd ⟨rfl,fun i _=>by rw [ag i]⟩ d)
 have ay:aI NQr c7 (some ⟨c9,0,none⟩) k z:=(aa.vis Q5).congr fun i _=>D8 _
 have ax:=B0 a0 (B0 bp ap)
 refine A4b (m:=1440674) (RowsV.mono ax af) ay (by omega) (by omega) (fun i j c p=>(S i j c p).mono (by omega)) J (by omega) ?_
 intro dn dq aj
 have dj:=aj.le
 have b7:aI NQr dq (some ⟨dn,0,none⟩) n D:=(aj.vis Q5).congr fun i c=>by
  rw [<- an i c]
  exact C8 fun t H=>by rw [am i t H]
 refine ⟨_,_,_,rfl,Ck (m:=69) b7 (by omega) N (by omega) ?_⟩
 intro d7 dg ad
 have dm:=ad.le
 have G:=B0 dj dm
 refine ⟨_,_,_,rfl,A3e (ad.vis I9) ((r.vis I9).mono I9 (B0 ai (B0 bp (B0 ap G)))) (by omega) (fun _ _=>⟨_,rfl,Br.nt ?_⟩) (fun d=>absurd ⟨rfl,fun i _=>rfl⟩ d)⟩
 have a8:=B0 ax G
 refine K6 A09 (zx:=Ay) rfl (by omega) (by omega) (by omega) (by omega) ?_
 intro bd da
 simp only [aD]
 obtain ⟨fd,hfd⟩:∃ fd,fd=fun i=>T i*(z i-fx i):=⟨_,rfl⟩
 refine ⟨_,_,_,rfl,fun L hp=>∃ j:Nat,j<=k/\L=[I (j:Int)]/\OwnK NQr dg hp bd k j fd,fun L _=>k-(iAt L 0).toNat,⟨0,by omega,rfl,OwnK.zero da⟩,?_⟩
 rintro z5 cm ⟨j,p,eL,g,o,cr,lg,C,bq,bk,rr⟩
 obtain rfl:=sI1 eL
 refine B6 (fun cg=>?_) (fun cl=>?_)
 ·have B:j<k:=by omega
  have b8:=B0 a8 lg
  obtain ⟨a5,w5,e5,n5,c0,c1,c2,c3⟩:=(bi.mono Q5 b8).qat B
  obtain ⟨a6,w6,e6,n6,d0,d1,d2,d3⟩:=(ay.mono Q5 (B0 G lg)).qat B
  obtain ⟨a7,w7,e7,n7,f0,f1,f2,f3⟩:=(ar.mono Q5 b8).qat B
  refine ⟨a5,e5,by omega,by omega,_,_,_,_,_,_,_,_,B9 C.le c0,B9 C.le c1,B9 C.le c2,B9 C.le c3,a6,e6,by omega,by omega,_,_,_,_,_,_,_,_,B9 C.le d0,B9 C.le d1,B9 C.le d2,B9 C.le d3,a7,e7,by omega,by omega,_,_,_,_,_,_,_,_,B9 C.le f0,B9 C.le f1,B9 C.le f2,B9 C.le f3,?_⟩
  refine C.call (A3g (a:=w6) (b:=w7) (m:=1440674) n6 n7 (J j B) ((hx j B).mono (by omega)) (by omega) ?_)
  intro v ek bv iv eb Z
  refine ⟨_,_,_,_,_,_,_,_,rfl,C.le_le Z bv,?_⟩
  refine Z.call (Nu (a:=w5) (b:=v) (m:=1440700) (NQ.mono bv n5) iv ((Q j B).1.mono (by omega)) (((J j B).sub (hx j B)).mono (by omega)) (by omega) ?_)
  intro v2 ec cd c5 d9 a1
  refine ⟨_,_,_,_,_,_,_,_,rfl,Z.le_le a1 cd,_,rfl,by omega,by omega,?_⟩
  refine OwnK.store Q5 Cu (y:=v2) lg (B0 bv cd) a1 bq bk rr B rfl (by rw [hfd];exact c5) ?_
  intro eg ow
  rw [wiS j (by omega)]
  exact ⟨⟨j+1,by omega,rfl,ow⟩,by simp only [Ec];omega⟩
 obtain rfl:j=k:=by omega
 have rd:aI NQr cm (some ⟨bd,0,none⟩) j fd:=⟨cr,bq.rowB.slF C.ole,bk,rr.mono Q5 C.le⟩
 have a9:=B0 a8 (B0 lg C.le)
 clear rr bk bq C lg
 have cv:∀ i,i<j->Sz 1440700 (fd i):=fun i c=>by
  rw [hfd]
  exact ((Q i c).1.mul ((J i c).sub (hx i c))).mono (by omega)
 have p7:7^j*8<=19208:=aS (aF 8 (aN (show 7>0 by decide) m3)) (by decide)
 refine B0n (m:=8) (RowsV.mono a9 af) n1 (by omega) m1 (by omega) (by omega) S (by omega) ?_
 intro A29 er de b5 rk
 have ba:=B0 a9 b5
 refine ⟨_,_,_,rfl,fun L hp=>∃ i:Nat,i<=(Q6 (ecE R n j).cs j).length/\L=[I (i:Int)]/\de.le hp,fun L _=>(Q6 (ecE R n j).cs j).length-(iAt L 0).toNat,⟨0,by omega,rfl,B4 _⟩,?_⟩
 have ed:(Q6 (ecE R n j).cs j).length<=j:=by have:=Yt (ecE R n j).cs j;omega
 rintro z6 ds ⟨i,c,eL,al⟩
 obtain rfl:=sI1 eL
 refine B6 (fun cg=>?_) (fun cl=>B0i (gl.mono (B0 av (B0 ba al))) ⟨_,rfl,rfl,B0 av (B0 ba al)⟩)
 have bm:i<(Q6 (ecE R n j).cs j).length:=by omega
 obtain ⟨a5,s5,c4,f1,f2,db,b3⟩:=(RowsV.mono al rk).at bm
 refine ⟨a5,c4,by omega,by omega,_,_,_,db,?_⟩
 rw [f1]
 refine A4a (m:=1440700) b3 (rd.mono Q5 (B0 b5 al)) (by omega) (fun t _=>(C1y S (by omega) bm t).mono (by omega)) cv (by omega) ?_
 intro v d5 dl iv
 have e0:sm j (fun t=>C4b (ecE R n j).R (ecE R n j).cs j i t*fd t)=0:=by
  rw [hfd,hz]
  exact B7p (fun t H=>(Q t H).2) fun i' W=>by
   rw [<- B7y bm W]
   exact C8 fun t H=>by rw [am i' t H]
 rw [e0] at iv
 refine ⟨_,_,_,_,_,_,_,_,rfl,Ke iv ⟨_,rfl,I8 (fun e=>absurd rfl e) (fun _=>?_)⟩⟩
 rw [wiS i (by omega)]
 exact ⟨⟨i+1,by omega,rfl,B0 al dl⟩,by simp only [Ec];omega⟩
end
