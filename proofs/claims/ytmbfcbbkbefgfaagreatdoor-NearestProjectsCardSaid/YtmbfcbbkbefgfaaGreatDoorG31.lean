/- A part. -/
import Derived.Test.YtmbfcbbkbefgfaaGreatDoorG29
import Derived.Test.YtmbfcbbkbefgfaaGreatDoorG30
open Go.Proofs.Tryz
set_option linter.all false
open _root_.Go.Addr renaming add->aJ
open _root_.Go.Addr.mk renaming injEq->bN
open _root_.Go.Builtin renaming append_->bJ
open _root_.Go.Instr renaming storeAt->bM
open Int renaming toNat_natCast->aF,natAbs_natCast->aQ,sign_eq_zero_iff_zero->bL
open List renaming length_set->aD,length_append->aE,replicate->aP,getElem?_eq_getElem->aV,length_take->aW,length_replicate->aY,append_assoc->bH
open Nat renaming le_refl->aH,mul_le_mul_right->aK,le_mul_of_pos_left->aM,not_lt_zero->aO,mul_comm->aX,div_lt_of_lt_mul->aZ,lt_irrefl->bC,mod_lt->bD,le_trans->bG,pow_pos->bI,mul_le_mul->bK
open Option.some renaming inj->aG,injEq->bF
open _root_.Go renaming Value->aN,Addr->aR,TypeId->aS
open _root_.Go.Proofs.YtmbfcbbkbefgfaaGreatDoor renaming Heap->aC,RowV->aI,FCall->aL,OwnSl->aT,IsNum->aU,RowsV->bB
namespace Go.Proofs.YtmbfcbbkbefgfaaGreatDoor
set_option maxRecDepth 20000
open Go
def A5x{q:Rat}:q.num.sign<0↔q<0:=by rw [Int.sign_neg_iff,Rat.lt_iff];simp
def B2e{q:Rat}:0<q.num.sign↔0<q:=by rw [Int.sign_pos_iff,Rat.lt_iff];simp
def A5y{q:Rat}:q.num.sign<=0↔q<=0:=by rw [<- Rat.not_lt,<- B2e];omega
def B1u(z:Int):Ia z=I8 (z:Rat):=by rw [Zy (by simp),Rat.num_intCast]
def B2a{m:Nat}{q:Rat}{f:Int}(h:Sz m q)(h1:(f:Rat)<q)(h2:q<f+1):Sz m (q-f)/\Sz m (q-f)⁻¹:=by
 obtain ⟨a,b,c,_⟩:=Iv h1 h2
 obtain ⟨d,e⟩:=A05 q f
 have g:=h.den
 refine ⟨⟨?_,by rw [e];exact g⟩,⟨by rw [a];exact g,?_⟩⟩
 ·rw [d,<- b];exact g.le (by rw [aQ,aQ];omega)
 ·exact g.le (by rw [aQ,aQ];omega)
def B7k{m:Nat}{q:Rat}(h:Sz m q)(hm:1<=m):Sz m (q.floor:Rat):=Sz.int (Tl h) hm
def C1u{m:Nat}{q:Rat}(h:Sz m q):ZB m q.ceil:=by
 rw [Rat.ceil_eq_neg_floor_neg];exact (Tl h.neg).neg
def C1v{m:Nat}{q:Rat}(h:Sz m q)(hm:1<=m):Sz m (q.ceil:Rat):=Sz.int (C1u h) hm
section
variable {h:aC} {K:VP} {m:Nat} {a b w:QV} {p q:Rat}
def Ca(gl:Gl h)(hq:Sz m q)(hm1:1<=m)(hm:m<=283)(h0:q≠0)(hK:K (.string (bs (I8 q⁻¹))) h):aL prog Ci #[.string (bs (I8 q))] h K:=by
 refine A7t _ ?_
 unfold A9k
 have a:I8 1=[49]:=by simp [I8,Ia,P7,U1,I7,dch]
 show aL _ _ #[.string (bs [49]),_] _ _
 rw [<- a]
 refine B21 gl (Tx.of (Sz.int (z:=1) (ZB.one hm1) hm1) (by omega)) (Tx.of hq (by omega)) hm1 (by omega) ?_ ?_
 ·intro _
  rw [D9,D9,Rat.div_def]
  refine ⟨_,_,rfl,?_⟩
  have b:((1:Int):Rat)*q⁻¹=q⁻¹:=by rw [Rat.intCast_one,Rat.one_mul]
  first
  | (rw [b];exact hK)
  | (rw [Rat.one_mul];exact hK)
 ·intro e;rw [D9] at e;exact absurd e h0
def Ow:∀ n (lo hi:Rat) (h:aC) (K:VP),lo.den+hi.den<=n->Gl h->0<lo->lo<=hi->Sz m lo->Sz m hi->1<=m->m<=280->K (.string (bs (I8 (Hp lo hi)))) h->aL prog Y6 #[.string (bs (I8 lo)),.string (bs (I8 hi))] h K:=by
 intro n
 induction n with
 | zero=>intro lo hi h K z;have:=lo.den_nz;omega
 | succ n ih=>
  intro lo hi h K z b D d sl w a A o
  have B:0<hi:=Std.lt_of_lt_of_le D d
  have i:=Tx.of sl (by omega)
  have t:=Tx.of w (by omega)
  refine Jn _ _ ?_
  unfold Po
  refine Cf b t.len ⟨_,rfl,B7 (fun e=>?_) (fun _=>?_)⟩
  ·rw [D9,A5x] at e;exfalso;grind
  refine Cf b i.len ⟨_,rfl,B7 (fun e=>?_) (fun _=>?_)⟩
  ·rw [D9,A5y] at e;exfalso;grind
  refine A9q b i (by omega) ⟨_,rfl,?_⟩
  rw [D9,B1u]
  refine Nd b (Tx.of (C1v sl a) (by omega)) t (by omega) ⟨_,rfl,B7 (fun e=>?_) (fun e=>?_)⟩
  ·rw [D9,D9,B4g] at e
   rw [Uk e] at o
   exact o
  ·rw [D9,D9,B4g] at e
   obtain ⟨l,k,j⟩:=B35 (fun x=>x.elim e (fun y=>y d))
   rw [Qa e d] at o
   refine A5q b i (by omega) ⟨_,rfl,?_⟩
   rw [D9,B1u]
   have C:=B7k sl a
   have s:=Tx.of C (by omega)
   obtain ⟨r,p⟩:=B2a sl l (Std.lt_of_le_of_lt k j)
   obtain ⟨q,g⟩:=B2a w (Std.lt_of_lt_of_le l k) j
   obtain ⟨_,_,F,G⟩:=Iv l (Std.lt_of_le_of_lt k j)
   obtain ⟨_,_,J,E⟩:=Iv (Std.lt_of_lt_of_le l k) j
   refine Ue b t s (by omega) ⟨_,rfl,?_⟩
   rw [D9,D9]
   refine Ca b q a (by omega) (by grind) ⟨_,rfl,?_⟩
   refine Ue b i s (by omega) ⟨_,rfl,?_⟩
   rw [D9,D9]
   refine Ca b r a (by omega) (by grind) ⟨_,rfl,?_⟩
   have c:(hi-lo.floor)⁻¹<=(lo-lo.floor)⁻¹:=Ch (by grind) (by grind)
   have f:0<(hi-lo.floor)⁻¹:=by grind
   refine ih _ _ _ _ (by omega) b f c g p a A ⟨_,rfl,?_⟩
   have u:=A84 f c g
   have H:=(B72 f c).1
   generalize Hp (hi-lo.floor)⁻¹ (lo-lo.floor)⁻¹=x at *
   refine Ca b u a (by omega) (by grind) ⟨_,rfl,?_⟩
   refine A2r b s (Tx.of (u.inv a) (by omega)) (by omega) ⟨_,rfl,?_⟩
   rw [D9,D9];exact o
def Xi{lo hi:Rat}(gl:Gl h)(hle:lo<=hi)(sl:Sz m lo)(sh:Sz m hi)(hm1:1<=m)(hm:m<=280)(hK:K (.string (bs (I8 (B2c lo hi)))) h):aL prog Y6 #[.string (bs (I8 lo)),.string (bs (I8 hi))] h K:=by
 unfold B2c at hK
 have g:=Tx.of sl (by omega)
 have f:=Tx.of sh (by omega)
 by_cases a:hi<0
 ·rw [iP a] at hK
  refine Jn _ _ ?_
  unfold Po
  refine Cf gl f.len ⟨_,rfl,B7 (fun _=>?_) (fun e=>?_)⟩
  ·refine Uf gl f.len ⟨_,rfl,Uf gl g.len ⟨_,rfl,?_⟩⟩
   rw [D9,D9]
   have d:0 < -hi:=by grind
   have c: -hi <= -lo:=by grind
   refine Ow _ _ _ _ _ (aH _) gl d c sh.neg sl.neg hm1 hm ⟨_,rfl,?_⟩
   have i:=A84 d c sh.neg
   refine Uf gl (Tx.of i (by omega)).len ⟨_,rfl,?_⟩
   rw [D9];exact hK
  ·rw [D9,A5x] at e;exact absurd a e
 ·rw [iN a] at hK
  by_cases b:lo<=0
  ·rw [iP b,B1t] at hK
   refine Jn _ _ ?_
   unfold Po
   refine Cf gl f.len ⟨_,rfl,B7 (fun e=>?_) (fun _=>?_)⟩
   ·rw [D9,A5x] at e;exact absurd e a
   refine Cf gl g.len ⟨_,rfl,B7 (fun _=>hK) (fun e=>?_)⟩
   rw [D9,A5y] at e;exact absurd b e
  ·rw [iN b] at hK
   exact Ow _ _ _ _ _ (aH _) gl (Rat.not_le.1 b) hle sl sh hm1 hm hK
def Vp{x y:List UInt8}(gl:Gl h)(hx:x.length<=570)(hy:y.length<=570)(sx:Sz m (rv x))(sy:Sz m (rv y))(hm1:1<=m)(hm:m<=280)(hK:∀ (r:List UInt8) (e:Int),(¬ (aU x/\aU y)->r=[]/\e=1)->(aU x->aU y->rv y<rv x->r=[]/\e=3)->(aU x->aU y->rv x<=rv y->r=I8 (B2c (rv x) (rv y))/\e=0)->K (.tuple #[.string (bs r),I e]) h):aL prog Is #[.string (bs x),.string (bs y)] h K:=by
 refine A26 _ _ ?_
 unfold Zr
 refine ⟨fun L l=>l=h/\∃ t:Bool,L=[.bool t]/\(t=true ↔ ¬ (aU x/\aU y)),Cd gl (by omega) (fun e=>?_) (fun e=>?_),?_⟩
 ·refine ⟨_,rfl,R2 (Cd gl (by omega) (fun f=>?_) (fun f=>?_))⟩
  ·exact ⟨_,rfl,rfl,false,rfl,by simp [e,f]⟩
  ·exact ⟨_,rfl,rfl,true,rfl,by simp [f]⟩
 ·exact ⟨_,rfl,R2 ⟨rfl,true,rfl,by simp [e]⟩⟩
 rintro g q ⟨rfl,t,n,j⟩
 obtain rfl:g=t:=by simpa using n
 refine Br.of (fun e=>?_) (fun e=>?_)
 ·have:=j.1 e
  exact hK [] 1 (fun _=>⟨rfl,rfl⟩) (fun a b=>absurd ⟨a,b⟩ this) (fun a b=>absurd ⟨a,b⟩ this)
 ·have c:aU x/\aU y:=by
   apply Classical.byContradiction
   intro k
   rw [j.2 k] at e;cases e
  refine Nd gl ⟨by omega,sy⟩ ⟨by omega,sx⟩ (by omega) ⟨_,rfl,B7 (fun d=>?_) (fun d=>?_)⟩
  ·rw [B4f] at d
   exact hK [] 3 (fun a=>absurd c a) (fun _ _ _=>⟨rfl,rfl⟩) (fun _ _ a=>absurd d (Rat.not_lt.2 a))
  ·rw [B4f,Rat.not_lt] at d
   have ex:=B1s c.1
   have o:=B1s c.2
   have key:=Xi (K:=fun p i=>∃ (t20:ByteArray),p= .string t20/\K (.tuple #[.string t20,I (0:Int)]) i) gl d sx sy hm1 hm ⟨_,rfl,hK _ 0 (fun a=>absurd c a) (fun _ _ a=>absurd a (Rat.not_lt.2 d)) (fun _ _ _=>⟨rfl,rfl⟩)⟩
   rw [ex,o] at key
   exact key
end
def B0a:B2c (mkRat 3 10) (mkRat 2 5)=mkRat 1 3:=by
 unfold B2c
 rw [iN (by decide +kernel),iN (by decide +kernel),Qa (by decide +kernel) (by decide +kernel)]
 have a:(mkRat 3 10).floor=0:=by decide +kernel
 have c:(mkRat 2 5-((0:Int):Rat))⁻¹=mkRat 5 2:=by decide +kernel
 have b:(mkRat 3 10-((0:Int):Rat))⁻¹=mkRat 10 3:=by decide +kernel
 rw [a,c,b,Uk (by decide +kernel)]
 decide +kernel
def B93:I8 (mkRat 3 10)=[51,47,49,48]:=by
 have a:(mkRat 3 10).num=3:=by decide +kernel
 have b:(mkRat 3 10).den=10:=by decide +kernel
 simp [I8,Ia,a,b,P7,U1,I7,dch]
def C37:I8 (mkRat 2 5)=[50,47,53]:=by
 have a:(mkRat 2 5).num=2:=by decide +kernel
 have b:(mkRat 2 5).den=5:=by decide +kernel
 simp [I8,Ia,a,b,P7,U1,I7,dch]
def C5d:I8 (mkRat 1 3)=[49,47,51]:=by
 have a:(mkRat 1 3).num=1:=by decide +kernel
 have b:(mkRat 1 3).den=3:=by decide +kernel
 simp [I8,Ia,a,b,P7,U1,I7,dch]
section
variable {h:aC} {K:VP} {x y:List UInt8}
def B09(gl:Gl h)(hK:K (.bool true) h):aL prog Oq #[] h K:=by
 refine B63 ?_
 unfold C0d
 show aL _ _ #[.string (bs [51,47,49,48]),.string (bs [50,47,53])] _ _
 rw [<- B93,<- C37]
 have b:Sz 8 (rv (I8 (mkRat 3 10))):=by rw [D9];exact ⟨by unfold ZB;decide +kernel,by unfold ZB;decide +kernel⟩
 have d:Sz 8 (rv (I8 (mkRat 2 5))):=by rw [D9];exact ⟨by unfold ZB;decide +kernel,by unfold ZB;decide +kernel⟩
 refine Vp gl (by rw [B93];decide) (by rw [C37];decide) b d (by decide) (by decide) ?_
 intro r e _ _ c
 have a:rv (I8 (mkRat 3 10))<=rv (I8 (mkRat 2 5)):=by rw [D9,D9];decide +kernel
 obtain ⟨rfl,rfl⟩:=c ⟨_,rfl⟩ ⟨_,rfl⟩ a
 rw [D9,D9,B0a,C5d]
 refine ⟨_,_,rfl,E4 (fun _=>?_) (fun e=>absurd rfl e)⟩
 have:((bs [49,47,51]).toList==({ data:=#[49,47,51] }:ByteArray).toList)=true:=by rw [show ({ data:=#[49,47,51] }:ByteArray)=bs [49,47,51] from rfl,Sd];simp
 rw [this];exact hK
end
section
variable {h:aC} {K:VP} {A B:Option aR} {n m a b:Nat} {ls ls2:Nat->List UInt8}
def B2h(x:aI SSr h A n ls)(y:aI SSr h B m ls2)(hn:n<=1000000000)(hK1:n=m->(∀ i,i<n->ls i=ls2 i)->K (.bool true) h)(hK0:¬ (n=m/\∀ i,i<n->ls i=ls2 i)->K (.bool false) h):aL prog Dz #[.slice A n a,.slice B m b] h K:=by
 refine Wy _ _ _ _ _ _ ?_
 unfold So
 refine J4 (fun e=>hK0 fun d=>e (by omega)) (fun e=>?_)
 have e:n=m:=by omega
 subst e
 refine ⟨fun L f=>∃ i:Nat,i<=n/\L=[I (i:Int)]/\f=h/\∀ j,j<i->ls j=ls2 j,fun L _=>n-(iAt L 0).toNat,⟨0,by omega,rfl,rfl,fun j s=>by omega⟩,?_⟩
 rintro z f ⟨i,t,k,rfl,g⟩
 obtain rfl:=sI1 k
 refine B7 (fun r=>?_) (fun l=>?_)
 ·have c:i<n:=by omega
  obtain ⟨u,rfl,p⟩:=x.sat c
  obtain ⟨v,rfl,q⟩:=y.sat c
  refine ⟨u,rfl,by omega,by omega,_,p,v,rfl,by omega,by omega,_,q,?_⟩
  rw [Sd]
  refine R2 (B7 (fun e=>?_) (fun e=>hK0 fun d=>e (d.2 i c)))
  rw [wiS i (by omega)]
  refine ⟨⟨i+1,by omega,rfl,rfl,fun j s=>?_⟩,by simp only [Bk];omega⟩
  by_cases o:j=i
  ·subst o;exact e
  ·exact g j (by omega)
 ·have:i=n:=by omega
  subst this
  exact hK1 rfl g
end
def T1(f:Nat->Rat):rvs (fun k=>I8 (f k))=f:=funext fun _=>D9 _
def C32(r c:Int)(n:Nat)(la:Nat->List UInt8)(nb:Nat)(lb:Nat->List UInt8)(nx:Nat)(lx:Nat->List UInt8)(nw:Nat)(lw:Nat->List UInt8):Prop:=Mx r c n la/\(∀ i,i<nb->aU (lb i))/\(∀ i,i<nx->aU (lx i))/\∀ i,i<nw->aU (lw i)
def PChk(r c:Int)(n:Nat)(la:Nat->List UInt8)(nb:Nat)(lb:Nat->List UInt8)(nx:Nat)(lx:Nat->List UInt8)(nw:Nat)(lw:Nat->List UInt8)(e:Int):Prop:=
 (¬ C32 r c n la nb lb nx lx nw lw/\e=1)\/(C32 r c n la nb lb nx lx nw lw/\¬ ((nb:Int)=r/\(nx:Int)=c/\(nw:Int)=c)/\e=4)\/
 (C32 r c n la nb lb nx lx nw lw/\((nb:Int)=r/\(nx:Int)=c/\(nw:Int)=c)/\(∃ i,i<nw/\rv (lw i)<=0)/\e=3)\/
 (C32 r c n la nb lb nx lx nw lw/\((nb:Int)=r/\(nx:Int)=c/\(nw:Int)=c)/\(∀ i,i<nw->0<rv (lw i))/\e=0)
def PChk.eq{r c:Int}{n:Nat}{la:Nat->List UInt8}{nb:Nat}{lb:Nat->List UInt8}{nx:Nat}{lx:Nat->List UInt8}{nw:Nat}{lw:Nat->List UInt8}{e f:Int}(x:PChk r c n la nb lb nx lx nw lw e)(y:PChk r c n la nb lb nx lx nw lw f):e=f:=by
 have g:(∃ i,i<nw/\rv (lw i)<=0)->(∀ i,i<nw->0<rv (lw i))->False:=fun ⟨i,j,l⟩ k=>by have:=k i j;grind
 rcases x with ⟨a,rfl⟩|⟨a,b,rfl⟩|⟨a,b,d,rfl⟩|⟨a,b,d,rfl⟩<;>rcases y with ⟨a',rfl⟩|⟨a',b',rfl⟩|⟨a',b',d',rfl⟩|⟨a',b',d',rfl⟩<;>first
 | rfl
 | exact absurd a' a
 | exact absurd a a'
 | exact absurd b' b
 | exact absurd b b'
 | exact (g d d').elim
 | exact (g d' d).elim
section
variable {h:aC} {K:VP}
def A1e{L:Option aR}{lc:Nat}{hs:List HV}{fs:Nat->Nat->List UInt8}(gl:Gl h)(sl:SlF h L hs)(hr:∀ i (hi:i<hs.length),aI SSr h hs[i].A hs[i].n (fs i))(hlen:hs.length<=1000)(hn:∀ i (hi:i<hs.length),hs[i].n<=1000000)(hl:∀ i (hi:i<hs.length) j,j<hs[i].n->(fs i j).length<=100000000)
 (hK1:(∀ i (hi:i<hs.length) j,j<hs[i].n->aU (fs i j))->K (.bool true) h) (hK0:¬ (∀ i (hi:i<hs.length) j,j<hs[i].n->aU (fs i j))->K (.bool false) h):aL prog Qz #[.slice L hs.length lc] h K:=by
 refine A7s _ _ _ ?_
 unfold A9j
 refine ⟨fun q m=>∃ i:Nat,i<=hs.length/\q=[I (i:Int)]/\m=h/\∀ k (c:k<hs.length),k<i->∀ j,j<hs[k].n->aU (fs k j),fun q _=>hs.length-(iAt q 0).toNat,⟨0,by omega,rfl,rfl,fun k _ c=>by omega⟩,?_⟩
 rintro z m ⟨i,hi,y,rfl,s⟩
 obtain rfl:=sI1 y
 refine B7 (fun M=>?_) (fun B=>hK1 fun k c=>s k c (by omega))
 have b:i<hs.length:=by omega
 obtain ⟨a,x,D⟩:=SlF.at (by decide) sl b
 have g:=D 0 _ rfl
 rw [Iz] at g
 refine ⟨a,x,by omega,by omega,_,_,_,g,?_⟩
 have H:=hn i b
 have row:=hr i b
 refine ⟨fun q r=>∃ j:Nat,j<=hs[i].n/\q=[I (j:Int)]/\r=m/\∀ k,k<j->aU (fs i k),fun q _=>hs[i].n-(iAt q 0).toNat,⟨0,by omega,rfl,rfl,fun k c=>by omega⟩,?_⟩
 rintro O F ⟨j,Q,l,rfl,f⟩
 obtain rfl:=sI1 l
 refine B7 (fun w=>?_) (fun t=>?_)
 ·have d:j<hs[i].n:=by omega
  obtain ⟨u,E,o⟩:=row.sat d
  refine ⟨u,E,by omega,by omega,_,o,Cd gl (hl i b j d) (fun e=>⟨_,rfl,Br.nt ?_⟩) (fun e=>⟨_,rfl,Pq (hK0 fun G=>e (G i b j d))⟩)⟩
  rw [wiS j (by omega)]
  refine ⟨⟨j+1,by omega,rfl,rfl,fun k c=>?_⟩,by simp only [Bk];omega⟩
  by_cases p:k=j
  ·rw [p];exact e
  ·exact f k (by omega)
 ·rw [wiS i (by omega)]
  refine ⟨⟨i+1,by omega,rfl,rfl,fun k c N=>?_⟩,by simp only [Bk];omega⟩
  by_cases p:k=i
  ·subst p
   exact fun C J=>f C (by omega)
  ·exact s k c (by omega)
variable {A B X W:Option aR} {n nb nx nw cap bc xc wc:Nat} {r c:Int} {la lb lx lw:Nat->List UInt8}
def A6w(gl:Gl h)(ra:aI SSr h A n la)(rb:aI SSr h B nb lb)(rx:aI SSr h X nx lx)(rw':aI SSr h W nw lw)(hn:n<=1000000)(hnb:nb<=1000000)(hnx:nx<=1000000)(hnw:nw<=1000000)(hl:LL n la)(hlb:LL nb lb)(hlx:LL nx lx)(hlw:LL nw lw)
 (hK:∀ e h',h.le h'->PChk r c n la nb lb nx lx nw lw e->K (I e) h'):aL prog Cw #[Yo r c A n cap,.slice B nb bc,.slice X nx xc,.slice W nw wc] h K:=by
 refine Tf _ _ _ _ _ _ _ _ _ _ _ _ _ _ ?_
 unfold Pp
 refine Uy gl ra hn hl (fun l=>⟨_,rfl,Br.nt ?_⟩) (fun l=>⟨_,rfl,Pq (hK 1 h (B4 _) (.inl ⟨fun x=>l x.1,rfl⟩))⟩)
 refine Ny C39 (vs:=[.slice B nb bc,.slice X nx xc,.slice W nw wc]) (fun v D=>by simp at D;rcases D with rfl|rfl|rfl<;>rfl) rfl (show 3*1<=16777216 by decide) rfl ?_
 intro b G
 have sl:SlF (h.put b (.cells ([(⟨B,nb,bc⟩:HV),⟨X,nx,xc⟩,⟨W,nw,wc⟩].flatMap enc).toArray Fp)) (some ⟨b,0,none⟩) [(⟨B,nb,bc⟩:HV),⟨X,nx,xc⟩,⟨W,nw,wc⟩]:=Ly _ _ _ _
 have a:h.le (h.put b (.cells ([(⟨B,nb,bc⟩:HV),⟨X,nx,xc⟩,⟨W,nw,wc⟩].flatMap enc).toArray Fp)):=Heap.le_put _ G
 refine ⟨_,_,_,rfl,A1e (hs:=[(⟨B,nb,bc⟩:HV),⟨X,nx,xc⟩,⟨W,nw,wc⟩]) (fs:=fun i=>if i=0 then lb else if i=1 then lx else lw) (gl.mono a) sl (fun i d=>?_) (show 3<=1000 by decide) (fun i d=>?_) (fun i d=>?_) (fun j=>⟨_,rfl,Br.nt ?_⟩) (fun j=>⟨_,rfl,Pq (hK 1 _ a (.inl ⟨fun y=>j fun i d=>?_,rfl⟩))⟩)⟩
 ·match i,d with
  | 0,_=>exact rb.mono L7 a
  | 1,_=>exact rx.mono L7 a
  | 2,_=>exact rw'.mono L7 a
 ·match i,d with
  | 0,_=>exact hnb
  | 1,_=>exact hnx
  | 2,_=>exact hnw
 ·match i,d with
  | 0,_=>exact hlb
  | 1,_=>exact hlx
  | 2,_=>exact hlw
 ·have val:C32 r c n la nb lb nx lx nw lw:=⟨l,j 0 (show 0<3 by decide),j 1 (show 1<3 by decide),j 2 (show 2<3 by decide)⟩
  have g:=fun e=>hK 4 _ a (.inr (.inl ⟨val,e,rfl⟩))
  refine J4 (fun e=>g fun x=>e x.1) (fun w=>J4 (fun e=>g fun x=>e x.2.1) (fun p=>J4 (fun e=>g fun x=>e x.2.2) (fun s=>?_)))
  refine ⟨fun q C=>∃ i:Nat,i<=nw/\q=[I (i:Int)]/\C=h.put b (.cells ([(⟨B,nb,bc⟩:HV),⟨X,nx,xc⟩,⟨W,nw,wc⟩].flatMap enc).toArray Fp)/\∀ k,k<i->0<rv (lw k),fun q _=>nw-(iAt q 0).toNat,⟨0,by omega,rfl,rfl,fun k o=>by omega⟩,?_⟩
  rintro z C ⟨i,d,E,rfl,t⟩
  obtain rfl:=sI1 E
  refine B7 (fun L=>?_) (fun F=>hK 0 _ a (.inr (.inr (.inr ⟨val,⟨w,p,s⟩,fun k o=>t k (by omega),rfl⟩))))
  have f:i<nw:=by omega
  obtain ⟨u,H,m⟩:=(rw'.mono L7 a).sat f
  refine ⟨u,H,by omega,by omega,_,m,Cf (gl.mono a) (hlw i f) ⟨_,rfl,B7 (fun e=>?_) (fun e=>?_)⟩⟩
  ·exact hK 3 _ a (.inr (.inr (.inl ⟨val,⟨w,p,s⟩,⟨i,f,A5y.1 e⟩,rfl⟩)))
  ·rw [wiS i (by omega)]
   refine ⟨⟨i+1,by omega,rfl,rfl,fun k o=>?_⟩,by simp only [Bk];omega⟩
   by_cases J:k=i
   ·rw [J]
    exact B2e.1 (by omega)
   ·exact t k (by omega)
 ·match i,d with
  | 0,_=>exact y.2.1
  | 1,_=>exact y.2.2.1
  | 2,_=>exact y.2.2.2
end
def C3l(M:Nat->Nat->Rat)(w:Nat->Rat)(i j:Nat):prC M w i j=(w i)⁻¹*M j i:=by unfold prC;rw [Rat.div_def,Rat.mul_comm]
def lcT(rows:Nat)(M:Nat->Nat->Rat)(w:Nat->Rat):Nat->List UInt8:=fun k=>I8 (prC M w (k/rows) (k%rows))
def A6f{rows:Nat}(M:Nat->Nat->Rat)(w:Nat->Rat){i j:Nat}(hj:j<rows):mtx (rvs (lcT rows M w)) rows i j=prC M w i j:=by
 obtain ⟨b,a⟩:=dm1 (i:=i) hj
 show rv (I8 (prC M w ((i*rows+j)/rows) ((i*rows+j)%rows)))=_
 rw [D9,b,a]
def C1b{rows cols:Nat}(hr:1<=rows)(la:Nat->List UInt8)(w:Nat->Rat):(fun k=>I8 (sm cols (fun j=>mtx (rvs la) cols (k/rows) j*mtx (rvs (lcT rows (mtx (rvs la) cols) w)) rows j (k%rows))))=fun k=>I8 (prE cols rows (mtx (rvs la) cols) w k):=by
 funext k
 refine congrArg I8 (D6 fun j _=>?_)
 rw [A6f _ _ (bD k (by omega))]
section
variable {h:aC} {K:VP} {A B X W:Option aR} {n nb nx nw cap bc xc wc s sx:Nat} {r c:Int} {la lb lx lw:Nat->List UInt8}
def A1d(gl:Gl h)(ra:aI SSr h A n la)(rb:aI SSr h B nb lb)(rx:aI SSr h X nx lx)(rw':aI SSr h W nw lw)(hn:n<=1000000)(hnb:nb<=1000000)(hnx:nx<=1000000)(hnw:nw<=1000000)(hl:LL n la)(hlb:LL nb lb)(hlx:LL nx lx)(hlw:LL nw lw)
 (hs1:1<=s) (hs283:s<=283) (hssx:s<=sx) (hs:∀ i,i<n->Sz s (rv (la i))) (hsw:∀ i,i<nw->Sz s (rv (lw i))) (hsb:∀ i,i<nb->Sz sx (rv (lb i))) (hsx:∀ i,i<nx->Sz sx (rv (lx i)))
 (hb:∀ rows cols,MOk r c n la rows cols->nb=rows->nx=cols->nw=cols->∃ se nq,(cols<=nq\/rows<=nq)/\2*s<=se/\1+cols*(2*(2*s)+1)<=se/\(∀ i,i<rows->Sz se (prR cols (mtx (rvs la) cols) (rvs lb) (rvs lx) i))/\2*(3^(nq+1)*bnd (rows+1) se)+1<=40000000/\7^(nq+1)*se<=40000000/\2*(1+cols*(2*sx+1)+2*sx)+14<=40000000/\2*(1+rows*(2*(7^nq*se)+1)+2*(7^nq*se)+sx)+14<=40000000)
 (hKe:∀ e h',h.le h'->PChk r c n la nb lb nx lx nw lw e->e≠0->K (.tuple #[.slice none 0 0,I e]) h')
 (hK8:∀ rows cols,MOk r c n la rows cols->PChk r c n la nb lb nx lx nw lw 0->nb=rows->nx=cols->nw=cols->¬ Ha (prE cols rows (mtx (rvs la) cols) (rvs lw)) (prR cols (mtx (rvs la) cols) (rvs lb) (rvs lx)) rows rows->∀ h',h.le h'->K (.tuple #[.slice none 0 0,I 8]) h')
 (hK0:∀ rows cols,MOk r c n la rows cols->PChk r c n la nb lb nx lx nw lw 0->nb=rows->nx=cols->nw=cols->Ha (prE cols rows (mtx (rvs la) cols) (rvs lw)) (prR cols (mtx (rvs la) cols) (rvs lb) (rvs lx)) rows rows->∀ A' c' h',h.le h'->aI SSr h' A' cols (fun i=>I8 (prZ rows (mtx (rvs la) cols) (rvs lw) (rvs lx) (A2x (prE cols rows (mtx (rvs la) cols) (rvs lw)) (prR cols (mtx (rvs la) cols) (rvs lb) (rvs lx)) rows rows) i))->K (.tuple #[.slice A' cols c',I 0]) h'):
 aL prog Qy #[Yo r c A n cap,.slice B nb bc,.slice X nx xc,.slice W nw wc] h K:=by
 refine A7r _ _ _ _ _ _ _ _ _ _ _ _ _ _ ?_
 unfold A9i
 refine A6w gl ra rb rx rw' hn hnb hnx hnw hl hlb hlx hlw ?_
 intro e h1 l1 av
 refine ⟨_,rfl,J4 (fun he=>hKe e h1 l1 av he) (fun he=>?_)⟩
 subst he
 have k0:C32 r c n la nb lb nx lx nw lw/\((nb:Int)=r/\(nx:Int)=c/\(nw:Int)=c)/\∀ i,i<nw->0<rv (lw i):=by
  rcases av with ⟨_,e⟩|⟨_,_,e⟩|⟨_,_,_,e⟩|⟨a1,S,a3,_⟩
  ·exact absurd e (by decide)
  ·exact absurd e (by decide)
  ·exact absurd e (by decide)
  ·exact ⟨a1,S,a3⟩
 obtain ⟨⟨⟨rows,cols,mk⟩,vb,vx,vw⟩,⟨s1,s2,s3⟩,db⟩:=k0
 obtain rfl:nb=rows:=by have:=mk.er;omega
 obtain rfl:nx=cols:=by have:=mk.ec;omega
 obtain rfl:nw=nx:=by omega
 obtain ⟨se,nq,q0,q1,q2,q3,q4,q5,q6,q7⟩:=hb nb nw mk rfl rfl rfl
 have an:=hK8 nb nw mk av rfl rfl rfl
 have aq:=hK0 nb nw mk av rfl rfl rfl
 clear hb hK8 hK0 hKe av s1 s2 s3
 have bm:=mk
 obtain ⟨rfl,rfl,r1,r2,c1,c2,rfl,df⟩:=mk
 have hM:∀ i j,i<nb->j<nw->Sz s (mtx (rvs la) nw i j):=Yn hs
 have dk:nb*nw<=64*64:=bK r2 c2
 refine Uz (gl.mono l1) (ra.mono L7 l1) hn hl (fun a d cm h2 A2 dx cr=>?_) (fun bl=>absurd ⟨_,_,bm⟩ bl)
 obtain rfl:a=nb:=by have:=cm.er;omega
 obtain rfl:d=nw:=by have:=cm.ec;omega
 refine ⟨_,_,_,_,_,_,rfl,J4 (fun e=>absurd rfl e) (fun _=>?_)⟩
 obtain ⟨g2,o2,da,l2,bq,ci,bn,ck⟩:=cr
 have dg:0<a*d:=Nat.mul_pos r1 c1
 obtain ⟨aw,rfl,ba⟩:=ci.rowB (by rintro rfl;simp at bn;omega)
 have br:=B0 l1 l2
 clear ci
 refine ⟨fun L hp=>∃ (i:Nat) (g o:aC) (G:List (List UInt8)),i<=d/\L=[I (i:Int)]/\h.le g/\Sep hp g o/\RowB o aw G/\G.length=a*d/\Row SSr g G (a*d) (fun k=>if k<i*a then lcT a (mtx (rvs la) d) (rvs lw) k else la (k%a*d+k/a)),fun L _=>d-(iAt L 0).toNat,
  ⟨0,g2,o2,da,by omega,rfl,br,bq,ba,bn,ck.congr fun k _=>by rw [Nat.zero_mul,iN (by omega)]⟩,?_⟩
 clear ck bn ba bq br l2
 rintro z bz ⟨i,g,o,G,hi,eL,lg,sp,ax,az,rr⟩
 obtain rfl:=sI1 eL
 refine B7 (fun ag=>?_) (fun ah=>?_)
 ·have T:i<d:=by omega
  have af:=B0 lg sp.le
  obtain ⟨u,hu,am⟩:=(rw'.mono L7 af).sat T
  have dy:=db i T
  refine ⟨u,hu,by omega,by omega,_,am,?_⟩
  rw [<- B1s (vw i T)]
  refine sp.call (Ca (gl.mono lg) (hsw i T) hs1 hs283 (by grind) ?_)
  intro h3 b0
  refine ⟨_,rfl,fun L hp=>∃ (j:Nat) (g o:aC) (G:List (List UInt8)),j<=a/\L=[I (j:Int)]/\h.le g/\Sep hp g o/\RowB o aw G/\G.length=a*d/\Row SSr g G (a*d) (fun k=>if k<i*a+j then lcT a (mtx (rvs la) d) (rvs lw) k else la (k%a*d+k/a)),fun L _=>a-(iAt L 0).toNat,
   ⟨0,g,o,G,by omega,rfl,lg,b0,ax,az,rr⟩,?_⟩
  clear rr az ax b0 sp lg af
  rintro z2 co ⟨j,g4,o4,b5,hj,ct,bk,aj,ak,be,bh⟩
  obtain rfl:=sI1 ct
  have dq:(i+1)*a<=d*a:=aK _ T
  have c9:(i+1)*a=i*a+a:=by rw [Nat.add_mul,Nat.one_mul]
  have ds:d*a=a*d:=aX _ _
  refine B7 (fun dh=>?_) (fun di=>?_)
  ·have cg:j<a:=by omega
   have t:i*a+j<a*d:=by omega
   have ei:B6 (B6 ((i:Int)*(a:Int))+(j:Int))=((i*a+j:Nat):Int):=by
    rw [show B6 ((i:Int)*(a:Int))=((i*a:Nat):Int) by rw [<- Int.natCast_mul];exact Z2 (by omega),B8 (by omega) (by omega)]
    omega
   rw [ei]
   have cu:aI SSr co (some ⟨aw,0,none⟩) (a*d) _:=⟨b5,ak.slF aj.ole,be,bh.mono L7 aj.le⟩
   obtain ⟨v,hv,O⟩:=cu.sat t
   obtain ⟨f1,f2⟩:=dm1 (i:=i) cg
   have ce:j*d+i<a*d:=Bj cg T
   rw [iN (by omega),f1,f2] at O
   obtain rfl:=aG hv
   refine ⟨_,rfl,by omega,by omega,_,O,?_⟩
   refine aj.call (B1x (m:=s) (gl.mono bk) (Tx.of ((hsw i T).inv hs1) (by omega)) ⟨hl _ ce,hs _ ce⟩ (by omega) ?_)
   intro h5 ca
   refine ⟨_,rfl,aj.le_le ca (B4 _),_,rfl,by omega,by omega,?_⟩
   rw [E6,aF]
   refine Sep.store Ae (y:=lcT a (mtx (rvs la) d) (rvs lw) (i*a+j)) ?_ ca ak (i:=i*a+j) (by omega) (by show 0+(i*a+j)*1=(i*a+j)*1;omega) ?_
   ·show (Value.string (bs _)).cells=_
    unfold lcT
    rw [f1,f2,C3l,D9]
    rfl
   intro h6 o6 x6 dm cw bv
   rw [wiS j (by omega)]
   refine ⟨⟨j+1,g4,o6,_,by omega,rfl,bk,cw,bv,by rw [aD];exact be,(bh.upd (by omega) rfl).congr fun k b7=>?_⟩,by simp only [Bk];omega⟩
   by_cases ek:k=i*a+j
   ·rw [iP ek,iP (by omega),ek]
   ·rw [iN ek]
    by_cases Q:k<i*a+j
    ·rw [iP Q,iP (by omega)]
    ·rw [iN Q,iN (by omega)]
  ·obtain rfl:j=a:=by omega
   rw [wiS i (by omega)]
   refine ⟨⟨i+1,g4,o4,b5,by omega,rfl,bk,aj,ak,be,?_⟩,by simp only [Bk];omega⟩
   rw [c9]
   exact bh
 obtain rfl:i=d:=by omega
 have af:=B0 lg sp.le
 have rc:aI SSr bz (some ⟨aw,0,none⟩) (a*i) (lcT a (mtx (rvs la) i) (rvs lw)):=⟨G,ax.slF sp.ole,az,(rr.mono L7 sp.le).congr fun k t=>iP (by rw [aX];exact t)⟩
 clear rr az ax sp lg G
 have bj:∀ k,k<a*i->Sz (2*s) (rv (lcT a (mtx (rvs la) i) (rvs lw) k)):=fun k t=>by
  unfold lcT
  rw [D9]
  exact Ur hs1 hM hsw _ _ (aZ t) (bD k (by omega))
 have cd:∀ k,k<a*i->(lcT a (mtx (rvs la) i) (rvs lw) k).length<=100000000:=fun k t=>by
  have h1:=bj k t
  unfold lcT at h1 ⊢
  rw [D9] at h1
  have:=Bn h1
  omega
 have cf:MOk (i:Int) (a:Int) (a*i) (lcT a (mtx (rvs la) i) (rvs lw)) i a:=⟨rfl,rfl,c1,c2,r1,r2,aX _ _,fun k _=>⟨_,rfl⟩⟩
 refine B3b (m:=2*s) (gl.mono af) (ra.mono L7 af) rc hn hn hl cd (fun k t=>(hs k t).mono (by omega)) bj (by omega) (by omega) ?_
 intro o7 c5 A7 c7 h7 l7 r7
 rcases c5 with ⟨hx,_⟩|⟨_,_,hx,_⟩|⟨a1,b1,d1,k1,k2,rfl⟩
 ·exact absurd ⟨⟨_,_,bm⟩,⟨_,_,cf⟩⟩ hx
 ·exact absurd rfl hx
 obtain rfl:a1=a:=by have:=k1.er;omega
 obtain rfl:b1=i:=by have:=k1.ec;omega
 obtain rfl:d1=a1:=by have:=k2.ec;omega
 clear k1 k2
 refine ⟨_,_,_,_,_,_,rfl,J4 (fun e=>absurd rfl e) (fun _=>?_)⟩
 have cn:aI SSr h7 A7 (d1*d1) (fun k=>I8 (prE b1 d1 (mtx (rvs la) b1) (rvs lw) k)):=by
  rw [<- C1b r1]
  exact r7
 clear r7
 have a0:=B0 af l7
 refine Ru (m:=sx) (gl.mono a0) (ra.mono L7 a0) (rx.mono L7 a0) hn hnx hl hlx (fun k t=>(hs k t).mono hssx) hsx (by omega) (fun C x ad=>?_) ?_
 ·obtain rfl:x=b1:=by have:=ad.ec;omega
  exact q6
 intro o8 cz A8 c8 h8 w8
 rcases cz with ⟨hx,_⟩|⟨_,_,hx,_⟩|⟨S,l,k1,_,_,rfl⟩
 ·exact absurd ⟨⟨_,_,bm⟩,vx⟩ hx
 ·exact absurd rfl hx
 obtain rfl:S=d1:=by have:=k1.er;omega
 obtain rfl:l=b1:=by have:=k1.ec;omega
 clear k1
 refine ⟨_,_,_,_,rfl,J4 (fun e=>absurd rfl e) (fun _=>?_)⟩
 obtain ⟨g8,o8,bd,l8,bp,b6,ay,bg⟩:=w8
 change bd.length=S at ay
 change Row SSr g8 bd S _ at bg
 obtain ⟨b8,rfl,a8⟩:=b6.rowB (by rintro rfl;simp at ay;omega)
 clear b6
 have de:∀ i,i<S->Sz (1+l*(2*sx+1)) (sm l (fun j=>mtx (rvs la) l i j*rv (lx j))):=fun i hi=>Sq (m:=sx) (w:=l) (f:=fun j=>mtx (rvs la) l i j) (f2:=fun j=>rv (lx j)) (fun j hj=>(hM i j hi hj).mono hssx) hsx l (aH _)
 refine ⟨fun L hp=>∃ (i:Nat) (g o:aC) (G:List (List UInt8)),i<=S/\L=[I (i:Int)]/\h7.le g/\Sep hp g o/\RowB o b8 G/\G.length=S/\Row SSr g G S (fun k=>if k<i then I8 (prR l (mtx (rvs la) l) (rvs lb) (rvs lx) k) else I8 (sm l (fun j=>mtx (rvs la) l k j*rv (lx j)))),fun L _=>S-(iAt L 0).toNat,
  ⟨0,g8,o8,bd,by omega,rfl,l8,bp,a8,ay,bg.congr fun k _=>by rw [iN (by omega)]⟩,?_⟩
 clear bg ay a8 bp l8
 rintro z ae ⟨p,g9,o9,ac,c3,bf,Z,q,D,R,M⟩
 obtain rfl:=sI1 bf
 have N:h.le g9:=B0 a0 Z
 refine B7 (fun ag=>?_) (fun ah=>?_)
 ·have ag:((p:Nat):Int)<((S:Nat):Int):=ag
  have E:p<S:=by omega
  have bb:aI SSr ae (some ⟨b8,0,none⟩) S _:=⟨ac,D.slF q.ole,R,M.mono L7 q.le⟩
  obtain ⟨v,hv,O⟩:=bb.sat E
  obtain rfl:=aG hv
  rw [iN (by omega)] at O
  obtain ⟨u,hu,am⟩:=(rb.mono L7 (B0 N q.le)).sat E
  refine ⟨_,rfl,by omega,show ((p:Nat):Int)<((S:Nat):Int) by omega,_,O,u,hu,by omega,by omega,_,am,?_⟩
  have t1:=(de p E).mono (show 1+l*(2*sx+1)<=1+l*(2*sx+1)+2*sx by omega)
  refine q.call (Ue (m:=1+l*(2*sx+1)+2*sx) (gl.mono N) ⟨hlb p E,(hsb p E).mono (by omega)⟩ (Tx.of t1 (by omega)) (by omega) ?_)
  intro c4 au
  refine ⟨_,rfl,_,rfl,by omega,show ((p:Nat):Int)<((S:Nat):Int) by omega,?_⟩
  rw [E6,aF]
  refine Sep.store Ae (y:=I8 (prR l (mtx (rvs la) l) (rvs lb) (rvs lx) p)) ?_ au D (i:=p) (by omega) (by show 0+p*1=p*1;omega) ?_
  ·rw [D9];rfl
  intro cv bi cs b9 ai V
  rw [wiS p (by omega)]
  refine ⟨⟨p+1,g9,bi,_,by omega,rfl,Z,ai,V,by rw [aD];exact R,(M.upd (by omega) rfl).congr fun k b7=>?_⟩,by simp only [Bk];omega⟩
  by_cases ek:k=p
  ·rw [iP ek,iP (by omega),ek]
  ·rw [iN ek]
   by_cases Q:k<p
   ·rw [iP Q,iP (by omega)]
   ·rw [iN Q,iN (by omega)]
 have ah:¬ ((p:Nat):Int)<((S:Nat):Int):=ah
 obtain rfl:p=S:=by omega
 have a6:=B0 N q.le
 have cj:h7.le ae:=B0 Z q.le
 have rm:aI SSr ae (some ⟨b8,0,none⟩) p (fun k=>I8 (prR l (mtx (rvs la) l) (rvs lb) (rvs lx) k)):=⟨ac,D.slF q.ole,R,(M.mono L7 q.le).congr fun k t=>iP t⟩
 clear M R D q Z N ac
 have hE:∀ k,k<p*p->Sz se (prE l p (mtx (rvs la) l) (rvs lw) k):=fun k t=>(B2t hs1 hM hsw k t).mono q2
 have cq:MOk (p:Int) (p:Int) (p*p) (fun k=>I8 (prE l p (mtx (rvs la) l) (rvs lw) k)) p p:=⟨rfl,rfl,r1,r2,r1,r2,rfl,fun k _=>⟨_,rfl⟩⟩
 have dv:se<=40000000:=by
  have:=aM se (show 0<7^(nq+1) from bI (by decide))
  omega
 have dl:p*p<=64*64:=bK r2 r2
 have dz:3^nq*bnd (p+1) se<=3^(nq+1)*bnd (p+1) se:=aK _ (Nat.pow_le_pow_right (by decide) (Nat.le_succ nq))
 have dj:7^nq*se<=7^(nq+1)*se:=aK _ (Nat.pow_le_pow_right (by decide) (Nat.le_succ nq))
 refine A3h (m:=se) (n:=p*p) (n2:=p) (gl.mono a6) (cn.mono L7 cj) rm (by omega) (by omega) (fun k t=>by have:=Bn (hE k t);omega) (fun k t=>by have:=Bn (q3 k t);omega) (fun k t=>by rw [D9];exact hE k t) (fun k t=>by rw [D9];exact q3 k t) (by omega) (fun C x ad=>?_) ?_
 ·obtain rfl:C=p:=by have h1:((p:Nat):Int)=C:=ad.er;omega
  obtain rfl:x=C:=by have h1:((C:Nat):Int)=x:=ad.ec;omega
  rw [T1,T1]
  refine ⟨nq,nq+1,fun j hj=>?_,fun j hj=>?_,by omega,q4,by omega,q5⟩
  ·obtain ⟨p1,p2⟩:=A3b (m:=l) (mtx (rvs la) l) (rvs lw) (prR l (mtx (rvs la) l) (rvs lb) (rvs lx)) hj
   rcases q0 with q0|q0<;>omega
  ·obtain ⟨p1,p2⟩:=C14 (m:=l) (mtx (rvs la) l) (rvs lw) (prR l (mtx (rvs la) l) (rvs lb) (rvs lx)) hj
   rcases q0 with q0|q0<;>omega
 intro dn cc ny fy _ A12 d2 B12 dr a5 bo bw _
 have ar:=B0 a6 bo
 rcases cc with ⟨hx,_⟩|⟨_,_,hx,_⟩|⟨a3,F,k1,_,_,ch⟩
 ·exact absurd ⟨⟨_,_,cq⟩,fun k _=>⟨_,rfl⟩⟩ hx
 ·exact absurd rfl hx
 obtain rfl:a3=p:=by have h1:((p:Nat):Int)=a3:=k1.er;omega
 obtain rfl:F=a3:=by have h1:((a3:Nat):Int)=F:=k1.ec;omega
 clear k1
 rw [T1,T1] at ch
 rcases ch.symm with ⟨bl,rfl⟩|⟨cy,rfl⟩
 ·exact ⟨_,_,_,_,_,_,_,rfl,J4 (fun _=>an bl a5 ar) (fun e=>absurd e (by decide))⟩
 refine ⟨_,_,_,_,_,_,_,rfl,J4 (fun e=>absurd rfl e) (fun _=>?_)⟩
 have hg:=aq cy
 clear aq an
 have hX:=Nj (b:=prR l (mtx (rvs la) l) (rvs lb) (rvs lx)) hE q3 (by omega) (nq:=nq) (by
  obtain ⟨p1,p2⟩:=A3b (m:=l) (mtx (rvs la) l) (rvs lw) (prR l (mtx (rvs la) l) (rvs lb) (rvs lx)) (aH F)
  rcases q0 with q0|q0
  ·exact bG p1 q0
  ·exact bG p2 q0)
 generalize A2x (prE l F (mtx (rvs la) l) (rvs lw)) (prR l (mtx (rvs la) l) (rvs lb) (rvs lx)) F F=y at *
 have du:se<=7^nq*se:=aM se (bI (by decide))
 generalize 7^nq*se=Y at *
 change aI SSr a5 A12 F (fun j=>I8 (y j)) at bw
 have dc:bz.le a5:=B0 l7 (B0 cj bo)
 have c6:∀ i,i<l->Sz (1+F*(2*Y+1)) (sm F (fun j=>mtx (rvs (lcT F (mtx (rvs la) l) (rvs lw))) F i j*rv (I8 (y j)))):=fun i hi=>Sq (m:=Y) (w:=F) (f:=fun j=>mtx (rvs (lcT F (mtx (rvs la) l) (rvs lw))) F i j) (f2:=fun j=>rv (I8 (y j))) (fun j hj=>by
  show Sz Y (mtx (rvs (lcT F (mtx (rvs la) l) (rvs lw))) F i j)
  rw [A6f _ _ hj]
  exact (Ur hs1 hM hsw i j hi hj).mono (by omega)) (fun j hj=>by rw [D9];exact hX j) F (aH _)
 refine Ru (m:=Y) (n2:=F) (gl.mono ar) (rc.mono L7 dc) bw hn (by show F<=1000000;omega) cd (fun k _=>by have:=Bn (hX k);show (I8 (y k)).length<=_;omega) (fun k t=>(bj k t).mono (by omega)) (fun k _=>by show Sz Y (rv (I8 (y k)));rw [D9];exact hX k) (by omega) (fun C x ad=>?_) ?_
 ·obtain rfl:x=F:=by have:=ad.ec;omega
  omega
 intro bu bx A13 dw d0 cx
 rcases bx with ⟨hx,_⟩|⟨_,_,hx,_⟩|⟨H,b4,k1,_,_,rfl⟩
 ·exact absurd ⟨⟨_,_,cf⟩,fun k _=>⟨_,rfl⟩⟩ hx
 ·exact absurd rfl hx
 obtain rfl:H=l:=by have:=k1.er;omega
 obtain rfl:b4=F:=by have:=k1.ec;omega
 clear k1
 refine ⟨_,_,_,_,rfl,J4 (fun e=>absurd rfl e) (fun _=>?_)⟩
 obtain ⟨cl,bu,al,cb,a7,a9,aa,ap⟩:=cx
 change al.length=H at aa
 change Row SSr cl al H _ at ap
 obtain ⟨bt,rfl,ao⟩:=a9.rowB (by rintro rfl;simp at aa;omega)
 clear a9
 refine ⟨fun L hp=>∃ (i:Nat) (g o:aC) (G:List (List UInt8)),i<=H/\L=[I (i:Int)]/\a5.le g/\Sep hp g o/\RowB o bt G/\G.length=H/\Row SSr g G H (fun k=>if k<i then I8 (prZ b4 (mtx (rvs la) H) (rvs lw) (rvs lx) y k) else I8 (sm b4 (fun j=>mtx (rvs (lcT b4 (mtx (rvs la) H) (rvs lw))) b4 k j*rv (I8 (y j))))),fun L _=>H-(iAt L 0).toNat,
  ⟨0,cl,bu,al,by omega,rfl,cb,a7,ao,aa,ap.congr fun k _=>by rw [iN (by omega)]⟩,?_⟩
 clear ap aa ao a7 cb
 rintro z ae ⟨J,g9,o9,ac,c3,bf,Z,q,D,R,M⟩
 obtain rfl:=sI1 bf
 have N:h.le g9:=B0 ar Z
 refine B7 (fun ag=>?_) (fun ah=>?_)
 ·have ag:((J:Nat):Int)<((H:Nat):Int):=ag
  have E:J<H:=by omega
  have bb:aI SSr ae (some ⟨bt,0,none⟩) H _:=⟨ac,D.slF q.ole,R,M.mono L7 q.le⟩
  obtain ⟨v,hv,O⟩:=bb.sat E
  obtain rfl:=aG hv
  rw [iN (by omega)] at O
  obtain ⟨u,hu,am⟩:=(rx.mono L7 (B0 N q.le)).sat E
  refine ⟨_,rfl,by omega,show ((J:Nat):Int)<((H:Nat):Int) by omega,_,O,u,hu,by omega,by omega,_,am,?_⟩
  have t1:=(c6 J E).mono (show 1+b4*(2*Y+1)<=1+b4*(2*Y+1)+sx by omega)
  refine q.call (A2r (m:=1+b4*(2*Y+1)+sx) (gl.mono N) ⟨hlx J E,(hsx J E).mono (by omega)⟩ (Tx.of t1 (by omega)) (by omega) ?_)
  intro c4 au
  refine ⟨_,rfl,_,rfl,by omega,show ((J:Nat):Int)<((H:Nat):Int) by omega,?_⟩
  rw [E6,aF]
  refine Sep.store Ae (y:=I8 (prZ b4 (mtx (rvs la) H) (rvs lw) (rvs lx) y J)) ?_ au D (i:=J) (by omega) (by show 0+J*1=J*1;omega) ?_
  ·rw [D9,D6 (g:=fun j=>prC (mtx (rvs la) H) (rvs lw) J j*y j) fun j hj=>by rw [A6f _ _ hj,D9]]
   rfl
  intro cv bi cs b9 ai V
  rw [wiS J (by omega)]
  refine ⟨⟨J+1,g9,bi,_,by omega,rfl,Z,ai,V,by rw [aD];exact R,(M.upd (by omega) rfl).congr fun k b7=>?_⟩,by simp only [Bk];omega⟩
  by_cases ek:k=J
  ·rw [iP ek,iP (by omega),ek]
  ·rw [iN ek]
   by_cases Q:k<J
   ·rw [iP Q,iP (by omega)]
   ·rw [iN Q,iN (by omega)]
 have ah:¬ ((J:Nat):Int)<((H:Nat):Int):=ah
 obtain rfl:J=H:=by omega
 exact hg _ _ ae (B0 N q.le) ⟨ac,D.slF q.ole,R,(M.mono L7 q.le).congr fun k t=>iP t⟩
end
def TapeS(g o:aC)(b:Nat)(xs:List Int):Prop:=∃ (A:Option aR) (c k:Nat) (e:aS),o b=some (.cells #[.slice A xs.length c,I (k:Int)] e)/\k<=xs.length/\xs.length<=400/\SlI .i64 g A xs
def TapeS.keep{g o g' o':aC}{b:Nat}{xs:List Int}(t:TapeS g o b xs)(l:g.le g')(h:∀ x,o b=some x->o' b=some x):TapeS g' o' b xs:=by
 obtain ⟨A,c,k,e,d,f,a,i⟩:=t
 exact ⟨A,c,k,e,h _ d,f,a,i.mono l⟩
def C1x{P:Program}{t:aS}{v:aN}{K:VP}{h:aC}(x:∀ b,h b=none->K (.pointer (some ⟨b,0,none⟩)) (h.put b (.cells v.cells t))):wpH P (Instr.box t v) K h:=by
 unfold Instr.box newVar
 simp only [C5,O7,F8]
 exact x
section
variable {h g o:aC} {K:VP} {A:Option aR} {xs:List Int} {b:Nat}
def B2v{ac:Nat}(s:SlI .i64 h A xs)(hc:xs.length<=ac)(hK:∀ b h' o',Sep h' h o'->TapeS h o' b (xs.take 400)->(∀ k,k≠b->o' k=none)->K (.pointer (some ⟨b,0,none⟩)) h'):aL prog B3w #[.slice A xs.length ac] h K:=by
 refine C2o _ _ _ ?_
 unfold C76
 have e:(if (400:Int)<((xs.length:Nat):Int) then (400:Int) else ((xs.length:Nat):Int))=(((xs.take 400).length:Nat):Int):=by
  rw [aW];split<;>omega
 have d:(xs.take 400).length<=xs.length:=by rw [aW];omega
 rw [e]
 refine ⟨⟨by omega,by omega⟩,C1x ?_⟩
 intro b f
 refine ⟨_,rfl,hK b _ _ (Y9 f) ⟨K5 A ac 0 1,ac-0,0,_,C0 _ _ _,by omega,by rw [aW];omega,?_⟩ fun k a=>B9 _ _ a⟩
 have:=s.cut (c:=ac) (l:=0) (m:=(xs.take 400).length) (by omega) d hc
 rw [List.drop_zero,Nat.sub_zero,aW] at this
 have g:xs.take (min 400 xs.length)=xs.take 400:=by
  rw [<- List.take_take,List.take_of_length_le (aH _)]
 rw [g] at this
 exact this
def Cg{n:Nat}(s:Sep h g o)(t:TapeS g o b xs)(hn:0<n/\n<=1000000)(hK:∀ (r:Nat) h' o',r<n->Sep h' g o'->TapeS g o' b xs->(∀ k,k≠b->o' k=o k)->K (I (r:Int)) h'):aL prog Ip #[.pointer (some ⟨b,0,none⟩),I (n:Int)] h K:=by
 have D:=t
 obtain ⟨A,c,k,e,p,Q,H,sl⟩:=t
 refine B8k _ _ ?_
 unfold C4l
 have a:(h.without b).put b (.cells #[.slice A xs.length c,I (k:Int)] e)=h:=J5 (s.own b _ p)
 have c0:h.cell? (aJ ⟨b,0,none⟩ 0)=some (.slice A xs.length c):=by rw [<- a,E6,E5];rfl
 have c1:h.cell? (aJ ⟨b,0,none⟩ 1)=some (I (k:Int)):=by rw [<- a,E6,E5];rfl
 refine ⟨_,rfl,_,c1,_,rfl,_,_,_,c0,B7 (fun G=>?_) (fun G=>?_)⟩
 ·exact hK 0 _ o hn.1 s D fun _ _=>rfl
 ·have u:k<xs.length:=by omega
  refine ⟨_,rfl,_,_,_,c0,_,rfl,_,c1,?_⟩
  have J:=sl.mono s.le
  refine J.load rfl (by omega) (by omega) ?_
  rw [aF]
  refine ⟨_,rfl,_,c1,_,rfl,?_⟩
  have B:B6 ((k:Int)+1)=((k+1:Nat):Int):=by rw [B8 (by omega) (by omega)];omega
  rw [B]
  have z:∀ {K2:Unit->aC->Prop},(∀ h' o',Sep h' g o'->TapeS g o' b xs->(∀ k,k≠b->o' k=o k)->K2 () h')->wpH prog (bM F3 (.pointer (some (aJ ⟨b,0,none⟩ 1))) (I ((k+1:Nat):Int))) K2 h:=by
   intro K2 f
   have x:=A2t (P:=prog) (t:=F3) (k:=.i64) (n:=((k+1:Nat):Int)) (i:=1) (g:=h.without b) (b:=b) (c:=#[.slice A xs.length c,I (k:Int)]) (e:=e) (K:=K2) B26 (by show (1:Nat)<2;decide) (by
    rw [show (h.without b).put b (.cells ((#[.slice A xs.length c,I (k:Int)]:Array aN).setIfInBounds (1:Int).toNat (.int .i64 ((k+1:Nat):Int))) e)=h.put b (.cells #[.slice A xs.length c,I ((k+1:Nat):Int)] e) by
     have l:∀ y,(h.without b).put b y=h.put b y:=fun y=>by
      conv=>rhs;rw [<- a]
      rw [Ds]
     rw [l];rfl]
    exact f _ _ (s.upd p _) ⟨A,c,k+1,e,C0 _ _ _,by omega,H,sl⟩ fun j L=>B9 _ _ L)
   rw [a] at x
   exact x
  refine z ?_
  intro h' o' O C F
  generalize xs.getD k 0=v
  have m:¬ ((n:Int)=0):=by omega
  refine B7 (fun e=>absurd e m) (fun _=>B7 (fun e=>absurd e m) (fun _=>?_))
  have E: -(n:Int)<Int.tmod v n/\Int.tmod v n<n:=by
   have R:=bD v.natAbs hn.1
   have d:=A00 v.natAbs n
   by_cases S:v<0
   ·rw [show -((v.natAbs:Nat):Int)=v by omega] at d;have:=d.2.2.1;omega
   ·rw [show ((v.natAbs:Nat):Int)=v by omega] at d;have:=d.1;omega
  generalize Int.tmod v n=w at *
  rw [B8 (by omega) (by omega),Int.tmod_eq_emod_of_nonneg (by omega)]
  have q:=Int.emod_nonneg (w+n) m
  have N:=Int.emod_lt_of_pos (w+n) (show (0:Int)<n by omega)
  obtain ⟨r,M⟩:=Int.eq_ofNat_of_zero_le q
  rw [M] at N ⊢
  exact hK r _ o' (by omega) O C F
end
section
variable {h g o:aC} {wA B:Option aR} {wc be m d:Nat} {hd:List HV} {xs ys:List QV}
def Sep.free(s:Sep h g o){b:Nat}(hb:h b=none):g b=none:=by
 cases hx:g b with
 | none=>rfl
 | some y=>rw [s.le _ _ hx] at hb;cases hb
def Ee{α:Type}[E:Enc α]{e:aS}{A:Option aR}{c:Nat}{zs:List α}(s:Sep h g o)(w:aT o e A c zs)(hb:h be=none):A≠some ⟨be,0,none⟩:=by
 rcases w.2 with ⟨_,d⟩|⟨b,f,i,a,_⟩
 ·rw [d];simp
 ·rw [i]
  intro e
  simp only [bF,bN,and_true] at e
  subst e
  rw [s.own _ _ a] at hb;cases hb
def B06{u:QV}{v:aN}(hv:v.cells=(enc u).toArray){K:VP}(x:∀ b,h b=none->K (.slice (some ⟨b,0,none⟩) 1 1) (h.put b (.cells ([u].flatMap enc).toArray D0))):wpH prog (Instr.buildSlice U7 1 #[(0,v)]) K h:=by
 refine Ny Ng (vs:=[v]) (fun w d=>by rw [List.mem_singleton.1 d,hv];rfl) rfl (by simp) rfl ?_
 intro b c
 have a:[v].flatMap (fun v=>v.cells.toList)=[u].flatMap enc:=by simp [hv]
 rw [a]
 exact x b c
def Qc(s:Sep h g o)(hb:o be=some (.cells #[] D0))(ow:aT o J6 wA wc hd)(hne:wA≠some ⟨be,0,none⟩)(sx:SlF h B xs)(hx:xs≠[])(hm:m=xs.length)(hl:xs.length<=10000){K:VP}
 (x:∀ A2 c2 h2 g2 o2,g.le g2->Sep h2 g2 o2->aT o2 D0 A2 c2 xs->aT o2 J6 wA wc hd->(∀ b,wA=some ⟨b,0,none⟩->A2≠wA)->K (.slice A2 m c2) h2):wpH prog (bJ #[U7,U7] U7 #[.slice (some ⟨be,0,none⟩) 0 0,.slice B m d]) K h:=by
 have r:aT o D0 (some ⟨be,0,none⟩) 0 ([]:List QV):=⟨aH _,.inr ⟨be,[],rfl,hb,by simp,rfl⟩⟩
 refine OwnSl.app (ty:=U7) Ng s r (n:=0) rfl hm hx sx (by simp;omega) (by simp;omega) ?_
 intro A2 c2 h2 g2 o2 l t a u
 rw [List.nil_append] at a
 have j:∀ b y,wA=some ⟨b,0,none⟩->o b=some y->o2 b=some y/\A2≠some ⟨b,0,none⟩:=fun b y e i=>u b y i (fun k=>hne (by rw [e];exact k.symm))
 have:=x A2 c2 h2 g2 o2 l t a (ow.keep fun b y e i=>(j b y e i).1) (fun b e=>by
  rcases ow.2 with ⟨_,p⟩|⟨w,q,c,f,_⟩
  ·rw [p] at e;cases e
  ·rw [c] at e
   simp only [bF,bN,and_true] at e
   subst e
   rw [c]
   exact (j _ _ c f).2)
 simpa using this
def Qb{A2:Option aR}{c2 n1 wn:Nat}(s:Sep h g o)(ow2:aT o D0 A2 c2 xs)(ow:aT o J6 wA wc hd)(ha:∀ b,wA=some ⟨b,0,none⟩->A2≠wA)(sy:SlF h B ys)(hy:ys≠[])(hn1:n1=xs.length)(hm:m=ys.length)(hwn:wn=hd.length)(hl:xs.length<=10000)(hl2:ys.length<=10000)(hl3:hd.length<=10000){K:Option aR->Nat->Nat->aC->Prop}
 (x:∀ A3 c3 A9 c9 h9 g9 o9,g.le g9->Sep h9 g9 o9->xs.length+ys.length<=c3->SlF g9 A3 (xs++ys)->aT o9 J6 A9 c9 (hd++[(⟨A3,xs.length+ys.length,c3⟩:HV)])->K A9 (hd.length+1) c9 h9):
 wpH prog (bJ #[U7,U7] U7 #[.slice A2 n1 c2,.slice B m d]) (fun v3 hp4=>∃ (a:Option aR) (b c:Nat),v3= .slice a b c/\wpH prog (Instr.buildSlice Kv 1 #[(0,.slice a b c)]) (fun v4 hp5=>∃ (a2:Option aR) (b2 c2:Nat),v4= .slice a2 b2 c2/\Heap.le hp4 hp5/\wpH prog (bJ #[Kv,Kv] Kv #[.slice wA wn wc,.slice a2 b2 c2]) (fun v5 hp6=>∃ (a3:Option aR) (b3 c3:Nat),v5= .slice a3 b3 c3/\K a3 b3 c3 hp6) hp5) hp4) h:=by
 subst hwn
 refine OwnSl.app (ty:=U7) Ng s ow2 hn1 hm hy sy (by omega) (by omega) ?_
 intro A3 c3 Q V k G A i H
 have C:∀ b y,wA=some ⟨b,0,none⟩->o b=some y->k b=some y/\A3≠some ⟨b,0,none⟩:=fun b y e hy=>H b y hy (fun J=>ha b e (by rw [e];exact J))
 have r:aT k J6 wA wc hd:=ow.keep fun b y e hy=>(C b y e hy).1
 have l:∀ b,wA=some ⟨b,0,none⟩->A3≠wA:=fun b e=>by
  rcases ow.2 with ⟨_,O⟩|⟨T,R,u,w,_⟩
  ·rw [O] at e;cases e
  ·rw [u] at e
   simp only [bF,bN,and_true] at e
   subst e
   rw [u]
   exact (C _ _ u w).2
 obtain ⟨n,M,F⟩:=A.give (B33 k wA)
 have sl:SlF n A3 (xs++ys):=by
  obtain ⟨b3,rfl,E,j,q⟩:=i.rowB (by simp [hy])
  have t:Uw k wA b3=none:=A6b k (fun e=>l b3 e e.symm)
  have p:n b3=some (.cells ((xs++ys).flatMap enc++j).toArray E):=by
   rw [<- F.rest b3 t]
   exact A.own _ _ q
  exact RowB.slF (o:=n) ⟨E,j,p⟩ (B4 _)
 have f:=i.1
 rw [aE] at f
 rw [hm]
 refine ⟨_,_,_,rfl,?_⟩
 refine OwnSl.push (ty:=Kv) C5h F r.only (y:=(⟨A3,xs.length+ys.length,c3⟩:HV)) (K1:=fun hp5=>Heap.le Q hp5) rfl (by decide) (by omega) (by omega) (fun S N=>N) ?_
 intro A9 c9 h9 g9 o9 D L z _
 exact x A3 c3 A9 c9 h9 g9 o9 (B0 G (B0 M D)) L f (sl.mono D) z
end
section
variable {h g o:aC} {K:VP} {xs:List Int} {b:Nat}
def C58(b:Nat)(o o':aC):Prop:=∀ k,k≠b->o' k=o k
def Sep.beside{h g o g2 p:aC}(s:Sep h g o)(t:Sep g g2 p):∀ k x,o k=some x->p k=none:=fun k x e=>by
 cases hp:p k with
 | none=>rfl
 | some y=>have a:=t.own k y hp;rw [s.dis k x e] at a;cases a
def Sep.giveB{ys:List QV}{bb n:Nat}{f:Nat->Rat}(s:Sep h g o)(rb:RowB o bb ys)(hy:ys.length=n)(rr:Row NQr g ys n f):∃ g2,g.le g2/\Sep h g2 (o.without bb)/\aI NQr g2 (some ⟨bb,0,none⟩) n f:=by
 have a:(o.without bb).le o:=fun k x e=>by
  by_cases c:k=bb
  ·subst c
   have:Heap.without o k k=none:=S1 _ _
   rw [this] at e;cases e
  ·unfold Heap.without at e;rw [iN c] at e;exact e
 obtain ⟨g2,b,d⟩:=s.give a
 obtain ⟨e,ex,j⟩:=rb
 have i:g2 bb=some (.cells (ys.flatMap enc++ex).toArray e):=by
  rw [<- d.rest bb (S1 _ _)]
  exact s.own _ _ j
 refine ⟨g2,b,d,ys,?_,hy,rr.mono I9 b⟩
 exact RowB.slF (o:=g2) ⟨e,ex,i⟩ (B4 _)
def C3s{x y:Int}(hx:0<x)(hy:0<y):0<Rat.divInt x y:=by
 rw [Rat.divInt_eq_div,Rat.div_def]
 exact Rat.mul_pos (Rat.intCast_pos.2 hx) (Rat.inv_pos.2 (Rat.intCast_pos.2 hy))
def Ut(s:Sep h g o)(t:TapeS g o b xs)(hK:∀ w q h' g' o',g.le g'->Sep h' g' o'->TapeS g' o' b xs->C58 b o o'->NQ g' w q->Sz 8 q->K w.v h'):aL prog A40 #[.pointer (some ⟨b,0,none⟩)] h K:=by
 refine C2n _ ?_
 unfold C75
 refine Cg (n:=19) s t (by omega) ?_
 intro a R O E y H i
 refine ⟨_,rfl,?_⟩
 rw [show B6 ((a:Int)-9)=(a:Int)-9 from B8 (by omega) (by omega)]
 refine y.call (T5 (by omega) ?_)
 intro sg A n c g2 x C Q L
 refine ⟨_,_,_,_,rfl,Cg (n:=4) L (H.keep x fun _ e=>e) (by omega) ?_⟩
 intro d Z o3 B z D j
 refine ⟨_,rfl,?_⟩
 rw [show B6 (1+(d:Int))=1+(d:Int) from B8 (by omega) (by omega)]
 refine z.call (T5 (by omega) ?_)
 intro G A2 V c2 W f J X F
 have u:ZB 8 ((a:Int)-9):=by unfold ZB;omega
 have p:ZB 8 (1+(d:Int)):=by unfold ZB;omega
 refine ⟨_,_,_,_,rfl,F.call (Ij (m:=8) (C.mono f) J (by omega) u p (by omega) ?_)⟩
 intro w T r N S M
 exact ⟨_,_,_,_,_,_,_,_,rfl,hK w _ _ _ _ (B0 x (B0 f r)) M (D.keep (B0 f r) fun _ e=>e) (fun k l=>(j k l).trans (i k l)) N (Jm (by omega) u p)⟩
def Xe(s:Sep h g o)(t:TapeS g o b xs)(hK:∀ w q h' g' o',g.le g'->Sep h' g' o'->TapeS g' o' b xs->C58 b o o'->NQ g' w q->Sz 8 q->0<q->K w.v h'):aL prog Lp #[.pointer (some ⟨b,0,none⟩)] h K:=by
 refine A4x _ ?_
 unfold A4y
 refine Cg (n:=9) s t (by omega) ?_
 intro a R O E y H i
 refine ⟨_,rfl,?_⟩
 rw [show B6 (1+(a:Int))=1+(a:Int) from B8 (by omega) (by omega)]
 refine y.call (T5 (by omega) ?_)
 intro sg A n c g2 x C Q L
 refine ⟨_,_,_,_,rfl,Cg (n:=4) L (H.keep x fun _ e=>e) (by omega) ?_⟩
 intro d Z o3 B z D j
 refine ⟨_,rfl,?_⟩
 rw [show B6 (1+(d:Int))=1+(d:Int) from B8 (by omega) (by omega)]
 refine z.call (T5 (by omega) ?_)
 intro G A2 V c2 W f J X F
 have u:ZB 8 (1+(a:Int)):=by unfold ZB;omega
 have p:ZB 8 (1+(d:Int)):=by unfold ZB;omega
 refine ⟨_,_,_,_,rfl,F.call (Ij (m:=8) (C.mono f) J (by omega) u p (by omega) ?_)⟩
 intro w T r N S M
 exact ⟨_,_,_,_,_,_,_,_,rfl,hK w _ _ _ _ (B0 x (B0 f r)) M (D.keep (B0 f r) fun _ e=>e) (fun k l=>(j k l).trans (i k l)) N (Jm (by omega) u p) (C3s (by omega) (by omega))⟩
def Us{n:Nat}(s:Sep h g o)(t:TapeS g o b xs)(hn1:1<=n)(hn:n<=1000)(hK:∀ bb c ys f h' g' o',g.le g'->Sep h' g' o'->TapeS g' o' b xs->RowB o' bb ys->ys.length=n->Row NQr g' ys n f->(∀ i,i<n->Sz 8 (f i))->bb≠b->n<=c->(∀ k x,k≠b->o k=some x->o' k=some x/\k≠bb)->K (.slice (some ⟨bb,0,none⟩) n c) h'):aL prog Qr #[.pointer (some ⟨b,0,none⟩),I (n:Int)] h K:=by
 refine B8j _ _ ?_
 unfold C4k
 refine ⟨fun L N=>∃ (k:Nat) (g' o':aC) (A:Option aR) (c:Nat) (ys:List QV) (f:Nat->Rat),k<=n/\L=[.slice A k c,I (k:Int)]/\g.le g'/\Sep N g' o'/\TapeS g' o' b xs/\aT o' D0 A c ys/\ys.length=k/\Row NQr g' ys k f/\(∀ i,i<k->Sz 8 (f i))/\A≠some ⟨b,0,none⟩/\∀ j x,j≠b->o j=some x->o' j=some x/\A≠some ⟨j,0,none⟩,fun L _=>n-(iAt L 1).toNat,
  ⟨0,g,o,none,0,[],fun _=>0,by omega,rfl,B4 _,s,t,OwnSl.nil,rfl,Row.nil,fun i hi=>by omega,by simp,fun j x _ e=>⟨e,by simp⟩⟩,?_⟩
 rintro lA l lc z N ⟨k,g1,o1,A,c,ys,f,hk,eL,l1,T,t1,O,a,X,Z,m,d⟩
 obtain ⟨⟨rfl,rfl,rfl⟩,rfl⟩:=sI2 eL
 refine B7 (fun ac=>?_) (fun aa=>?_)
 ·refine Ut T t1 ?_
  intro w q h2 g2 S W s2 t2 p iw sq
  have M:aT S D0 lA lc ys:=O.keep fun j x hA hx=>by
   rw [p j (fun e=>m (by rw [hA,e]))];exact hx
  refine ⟨_,_,_,_,_,_,_,_,rfl,?_⟩
  refine O6 (ty:=U7) Ng s2 M a.symm (y:=w) rfl (by decide) (by omega) (by omega) ?_
  intro A3 c3 h3 g3 o3 B s3 G r
  rw [a,wiS l (by omega)]
  obtain ⟨A0,c0,k0,e0,R,E,D,Q⟩:=t2
  have u:=r b _ R m
  refine ⟨⟨l+1,g3,o3,A3,c3,_,fun i=>if i=l then q else f i,by omega,rfl,B0 l1 (B0 W B),s3,⟨A0,c0,k0,e0,u.1,E,D,Q.mono B⟩,G,by rw [aE,a];rfl,?_,fun i hi=>?_,u.2,fun j x C e=>?_⟩,?_⟩
  ·have rA:Row NQr g3 ys ys.length (fun i=>if i=l then q else f i):=by
    rw [a]
    exact (X.mono I9 (B0 W B)).congr fun i hi=>(iN (by omega)).symm
   have V:=rA.push (w:=w) (by rw [a,iP rfl];exact I9 _ _ _ _ B iw)
   rw [aE,a] at V
   exact V
  ·show Sz 8 (if i=l then q else f i)
   split
   ·exact sq
   ·exact Z i (by omega)
  ·obtain ⟨J,F⟩:=d j x C e
   have H:S j=some x:=by rw [p j C];exact J
   exact r j x H F
  ·show n-((l+1:Nat):Int).toNat<n-(l:Int).toNat
   omega
 ·obtain rfl:l=n:=by omega
  obtain ⟨bb,rfl,rb⟩:=O.rowB (by rintro rfl;simp at a;omega)
  refine hK bb lc ys f N g1 o1 l1 T t1 rb a X Z (fun e=>m (by rw [e])) (by have:=O.1;omega) (fun j x C e=>?_)
  obtain ⟨J,F⟩:=d j x C e
  exact ⟨J,fun H=>F (by rw [H])⟩
def Yj{n:Nat}(s:Sep h g o)(t:TapeS g o b xs)(hn1:1<=n)(hn:n<=1000)(hK:∀ bb c f h' g' o',g.le g'->Sep h' g' o'->TapeS g' o' b xs->aI NQr g' (some ⟨bb,0,none⟩) n f->(∀ i,i<n->Sz 8 (f i))->n<=c->(∀ k x,k≠b->o k=some x->o' k=some x)->K (.slice (some ⟨bb,0,none⟩) n c) h'):aL prog Qr #[.pointer (some ⟨b,0,none⟩),I (n:Int)] h K:=by
 refine Us s t hn1 hn ?_
 intro bb c G f q H F B p C y d z A j u a
 obtain ⟨E,l,D,rv⟩:=p.giveB y d z
 refine hK bb c f q E _ (B0 B l) D (C.keep l fun x e=>?_) rv A u fun k x m e=>?_
 ·unfold Heap.without
  rw [iN j.symm];exact e
 ·obtain ⟨w,r⟩:=a k x m e
  unfold Heap.without
  rw [iN r];exact w
def C2g(g o:aC)(b bo:Nat)(rb:Nat->Nat)(n w:Nat)(xs:List Int)(hp:aC):Prop:=∃ (g' o':aC) (R:Nat->Nat->Rat),g.le g'/\Mt hp g' o' bo rb n w R/\TapeS g' o' b xs/\(∀ i j,i<n->j<w->Sz 8 (R i j))/\∀ k x,k≠b->o k=some x->o' k=some x
def A9y{n w:Nat}(s:Sep h g o)(t:TapeS g o b xs)(hn:n<=1000)(hw:w<=1000)(hK:∀ bo rb R h' g' o',g.le g'->Mt h' g' o' bo rb n w R->TapeS g' o' b xs->(∀ i j,i<n->j<w->Sz 8 (R i j))->b≠bo->(∀ i,i<n->b≠rb i)->(∀ k x,k≠b->o k=some x->o' k=some x/\k≠bo/\∀ i,i<n->k≠rb i)->K (.slice (some ⟨bo,0,none⟩) n n) h'):aL prog A6n #[.pointer (some ⟨b,0,none⟩),I (n:Int),I (w:Int)] h K:=by
 refine B8h _ _ _ ?_
 unfold C4i
 refine s.call (Lj (by omega) (by omega) ?_)
 intro h1 g1 o1 bo rb l1 t1 h2 s2
 have D:=s2.beside t1.sep
 have sj:=s2.join t1.sep
 have jr:∀ k x,o1 k=some x->(o.join o1) k=some x:=fun k x e=>by unfold Heap.join;rw [e]
 have jl:∀ k x,o k=some x->(o.join o1) k=some x:=fun k x e=>by
  unfold Heap.join;rw [D k x e];exact e
 obtain ⟨⟨y0,ac⟩,hy⟩:=t1.own
 have S:∀ k x,o k=some x->k≠bo:=fun k x e e2=>by rw [e2] at e;rw [D _ x e] at ac;cases ac
 have E:∀ k x,o k=some x->∀ i,i<n->k≠rb i:=fun k x e i hi e2=>by
  obtain ⟨y1,ad⟩:=hy i hi
  rw [e2] at e;rw [D _ x e] at ad;cases ad
 have hb:∃ x,o b=some x:=by obtain ⟨A,c,k,e,hb,_⟩:=t;exact ⟨_,hb⟩
 obtain ⟨xb,Q⟩:=hb
 have b1:=S b xb Q
 have b2:=E b xb Q
 refine ⟨_,_,_,rfl,fun L N=>∃ i:Nat,i<=n/\L=[I (i:Int)]/\C2g g o b bo rb n w xs N,fun L _=>n-(iAt L 0).toNat,
  ⟨0,by omega,rfl,g1,o.join o1,_,l1,t1.keep sj (B4 _) fun k x e _=>jr k x e,t.keep l1 fun x e=>jl b x e,fun _ _ _ _=>Sz.zero (by omega),fun k x _ e=>jl k x e⟩,?_⟩
 rintro z N ⟨i,hi,eL,ri⟩
 obtain rfl:=sI1 eL
 refine B7 (fun ao=>?_) (fun ap=>?_)
 ·have f:i<n:=by omega
  have ai:=ri
  obtain ⟨g3,o3,R,l3,t3,F,y,B⟩:=ai
  obtain ⟨cc,aa,hh⟩:=t3.head f
  refine ⟨_,rfl,by omega,by omega,_,_,_,t3.sep.cell hh,fun L N=>∃ j:Nat,j<=w/\L=[I (j:Int)]/\C2g g o b bo rb n w xs N,fun L _=>w-(iAt L 0).toNat,⟨0,by omega,rfl,ri⟩,?_⟩
  clear hh aa B y F t3 l3 ri
  rintro z2 an ⟨j,hj,ag,g4,o4,R4,l4,M,C,ae,T⟩
  obtain rfl:=sI1 ag
  refine B7 (fun ak=>?_) (fun al=>?_)
  ·have O:j<w:=by omega
   obtain ⟨cc,aa,hh⟩:=M.head f
   have kp:∀ {h5 p u:aC},g4.le p->Sep h5 p u->C58 b o4 u->Mt h5 p u bo rb n w R4:=fun r G d=>M.keep G r fun k x e H=>by
    have ah:k≠b:=by
     rcases H with rfl|⟨i',aj,rfl⟩
     ·exact b1.symm
     ·exact (b2 i' aj).symm
    rw [d k ah];exact e
   have V:∀ {q:Rat} {W p u J:aC},g4.le p->TapeS p u b xs->C58 b o4 u->Sz 8 q->Mt W p J bo rb n w (B6l R4 i j q)->(∀ k,k≠rb i->J k=u k)->C2g g o b bo rb n w xs W:=by
    intro q W p u J r m d X Z l
    refine ⟨p,J,_,B0 l4 r,Z,m.keep (B4 _) fun x e=>by rw [l b (b2 i f)];exact e,fun a c ha hc=>?_,fun k x H e=>?_⟩
    ·unfold B6l
     split
     ·exact X
     ·exact ae a c ha hc
    ·rw [l k (E k x e i f),d k H]
     exact T k x H e
   have ew:B6 ((j:Int)+1)=((j+1:Nat):Int):=by rw [B8]<;>omega
   refine ⟨_,rfl,by omega,by omega,⟨_,_,_,M.sep.cell hh,Ut M.sep C ?_⟩,Ut M.sep C ?_⟩
   ·intro v q h5 p u r G m d iv X
    refine ⟨_,_,_,_,_,_,_,_,rfl,_,rfl,by omega,by omega,?_⟩
    refine (kp r G d).store f O iv ?_
    intro W J Z l
    rw [ew]
    exact ⟨⟨j+1,by omega,rfl,V r m d X Z l⟩,by simp only [Bk];omega⟩
   ·intro v q h5 p u r G m d iv X
    obtain ⟨c5,am,af⟩:=(kp r G d).head f
    refine ⟨_,_,_,_,_,_,_,_,rfl,_,_,_,G.cell af,_,rfl,by omega,by omega,?_⟩
    refine (kp r G d).store f O iv ?_
    intro W J Z l
    rw [ew]
    exact ⟨⟨j+1,by omega,rfl,V r m d X Z l⟩,by simp only [Bk];omega⟩
  ·rw [wiS i (by omega)]
   exact ⟨⟨i+1,by omega,rfl,g4,o4,R4,l4,M,C,ae,T⟩,by simp only [Bk];omega⟩
 ·obtain ⟨g3,o3,R,l3,t3,F,y,B⟩:=ri
  exact hK bo rb R N g3 o3 l3 t3 F y b1 b2 fun k x H e=>⟨B k x H e,S k x e,E k x e⟩
end
end Go.Proofs.YtmbfcbbkbefgfaaGreatDoor
namespace Go.Proofs.YtmbfcbbkbefgfaaGreatDoor
set_option maxRecDepth 20000
def A8j(R:Nat->Nat->Rat)(w k:Nat):rv (Qm R w k)=R (k/w) (k%w):=D9 _
def B3m(R:Nat->Nat->Rat){w i j:Nat}(hj:j<w):mtx (rvs (Qm R w)) w i j=R i j:=by
 obtain ⟨b,a⟩:=dm1 (i:=i) hj
 show rv (Qm R w (i*w+j))=_
 rw [A8j,b,a]
def B3n{R:Nat->Nat->Rat}{n w m k:Nat}(hs:∀ i j,i<n->j<w->Sz m (R i j))(hm:m<=1000000)(hk:k<n*w):(Qm R w k).length<=100000000:=by
 have a:k/w<n:=aZ (by rw [aX];exact hk)
 have b:k%w<w:=bD k (Nat.pos_of_ne_zero (by rintro rfl;simp at hk))
 have:=Bn (hs _ _ a b)
 show (I8 (R (k/w) (k%w))).length<=_
 omega
def B7l{R:Nat->Nat->Rat}{n w m k:Nat}(hs:∀ i j,i<n->j<w->Sz m (R i j))(hk:k<n*w):Sz m (rv (Qm R w k)):=by
 have a:k/w<n:=aZ (by rw [aX];exact hk)
 have b:k%w<w:=bD k (Nat.pos_of_ne_zero (by rintro rfl;simp at hk))
 rw [A8j]
 exact hs _ _ a b
def B01{h:aC}{K:VP}{A:Option aR}{n w m cap:Nat}{M:Nat->Nat->Rat}(rs:bB h A n w M)(hn:n<=10000)(hw1:1<=w)(hw:w<=10000)(hn1:1<=n)(hs:∀ i j,i<n->j<w->Sz m (M i j))(hm:m<=400000000)
 (hK:∀ A' c' h',h.le h'->n*w<=c'->aI SSr h' A' (n*w) (Qm M w)->K (Yo n w A' (n*w) c') h'):aL prog A6o #[.slice A n cap] h K:=by
 refine B8i _ _ _ ?_
 unfold C4j
 exact B0c rs hn hw1 hw hn1 hs hm fun A' c' h' l a r=>⟨_,_,_,_,_,rfl,hK A' c' h' l a r⟩
section
variable {h:aC} {A:Option aR} {xs:List Int}
end
def Gd(P Q:Nat->Nat->Rat)(w i k j:Nat):Nat->Nat->Rat:=fun a b=>if a<i then sm w (fun t=>P a t*Q t b) else if a=i then (if b<j then sm (k+1) (fun t=>P a t*Q t b) else sm k (fun t=>P a t*Q t b)) else 0
def A67(P Q:Nat->Nat->Rat)(w a b:Nat):Gd P Q w 0 0 0 a b=0:=by
 unfold Gd
 rw [iN (aO a),iN (aO b)]
 split<;>rfl
def A9z(P Q:Nat->Nat->Rat)(w i k j a b:Nat):B6l (Gd P Q w i k j) i j (sm k (fun t=>P i t*Q t j)+P i k*Q k j) a b=Gd P Q w i k (j+1) a b:=by
 unfold B6l Gd
 by_cases e:a=i/\b=j
 ·obtain ⟨rfl,rfl⟩:=e
  rw [iP ⟨rfl,rfl⟩,iN (bC a),iP rfl,iP (Nat.lt_succ_self b)]
  rfl
 ·rw [iN e]
  by_cases c:a<i
  ·rw [iP c,iP c]
  ·rw [iN c,iN c]
   by_cases d:a=i
   ·rw [iP d,iP d]
    by_cases f:b<j
    ·rw [iP f,iP (by omega)]
    ·rw [iN f,iN (by omega)]
   ·rw [iN d,iN d]
def B00(P Q:Nat->Nat->Rat){w i k j c:Nat}(h:j=c\/P i k=0){a b:Nat}(hb:b<c):Gd P Q w i k j a b=Gd P Q w i (k+1) 0 a b:=by
 unfold Gd
 by_cases d:a<i
 ·rw [iP d,iP d]
 ·rw [iN d,iN d]
  by_cases e:a=i
  ·subst e
   rw [iP rfl,iP rfl,iN (aO b)]
   by_cases f:b<j
   ·rw [iP f]
   ·rw [iN f]
    rcases h with h|h
    ·omega
    ·show _=sm k (fun t=>P a t*Q t b)+P a k*Q k b
     rw [h,Rat.zero_mul,Rat.add_zero]
  ·rw [iN e,iN e]
def B2s(P Q:Nat->Nat->Rat)(w i a b:Nat):Gd P Q w i w 0 a b=Gd P Q w (i+1) 0 0 a b:=by
 unfold Gd
 by_cases c:a<i
 ·rw [iP c,iP (by omega)]
 ·rw [iN c]
  by_cases d:a=i
  ·rw [iP d,iN (aO b),iP (by omega)]
  ·rw [iN d,iN (by omega)]
   split
   ·rw [iN (aO b)];rfl
   ·rfl
section
variable {h:aC} {K:VP} {A B:Option aR} {n n2 cap cap2 m w cols:Nat} {r c r2 c2:Int} {la lb:Nat->List UInt8} {P Q:Nat->Nat->Rat}
def A3u(ra:bB h A n w P)(rb:bB h B w cols Q)(hn1:1<=n)(hn:n<=10000)(hw1:1<=w)(hw:w<=10000)(hc1:1<=cols)(hc:cols<=10000)(hs:∀ i j,i<n->j<w->Sz m (P i j))(hs2:∀ i j,i<w->j<cols->Sz m (Q i j))(hm:1+w*(2*m+1)+2*m<=400000000)
 (hK:∀ h' g' o' bo rb,h.le g'->Mt h' g' o' bo rb n cols (fun a b=>sm w (fun t=>P a t*Q t b))->K (.slice (some ⟨bo,0,none⟩) n n) h'):aL prog Tu #[.slice A n cap,.slice B w cap2] h K:=by
 refine B65 _ _ _ _ _ _ ?_
 unfold C0f
 obtain ⟨aB,sB,eB,u,ai,D,_⟩:=rb.at (i:=0) (by omega)
 refine ⟨aB,eB,by omega,by omega,_,_,_,D,?_⟩
 rw [u]
 refine Lj hn hc ?_
 intro h1 g1 o1 bo e l1 t1
 refine ⟨_,_,_,rfl,fun L s=>∃ (i:Nat) (g o:aC),i<=n/\L=[I (i:Int)]/\h.le g/\Mt s g o bo e n cols (Gd P Q w i 0 0),fun L _=>n-(iAt L 0).toNat,⟨0,g1,o1,by omega,rfl,l1,t1.congr fun a b _ _=>(A67 P Q w a b).symm⟩,?_⟩
 rintro z s ⟨i,g,o,hi,eL,W,t⟩
 obtain rfl:=sI1 eL
 refine B7 (fun ah=>?_) (fun ak=>?_)
 ·have d:i<n:=by omega
  obtain ⟨X,s1,E,f1,f2,hc1,G⟩:=ra.at d
  refine ⟨fun L s=>∃ (k:Nat) (g o:aC),k<=w/\L=[I (k:Int)]/\h.le g/\Mt s g o bo e n cols (Gd P Q w i k 0),fun L _=>w-(iAt L 0).toNat,⟨0,g,o,by omega,rfl,W,t⟩,?_⟩
  rintro z af ⟨k,g2,o2,hk,M,y,t2⟩
  obtain rfl:=sI1 M
  refine B7 (fun ad=>?_) (fun ae=>?_)
  ·have l:k<w:=by omega
   obtain ⟨a2,s2,T,f3,f4,J,C⟩:=rb.at l
   refine ⟨fun L s=>∃ (j:Nat) (g o:aC),j<=cols/\L=[I (j:Int)]/\h.le g/\Mt s g o bo e n cols (Gd P Q w i k j),fun L _=>cols-(iAt L 0).toNat,⟨0,g2,o2,by omega,rfl,y,t2⟩,?_⟩
   rintro z O ⟨j,g3,o3,hj,N,q,c⟩
   obtain rfl:=sI1 N
   have r:=B0 q c.sep.le
   have next:(j=cols\/P i k=0)->((∃ (k':Nat) (g o:aC),k'<=w/\[I (B6 ((k:Int)+1))]=[I (k':Int)]/\h.le g/\Mt O g o bo e n cols (Gd P Q w i k' 0))/\w-(iAt [I (B6 ((k:Int)+1))] 0).toNat<w-(iAt [I (k:Int)] 0).toNat):=by
    intro hx
    rw [wiS k (by omega)]
    exact ⟨⟨k+1,g3,o3,by omega,rfl,q,c.congr fun a b _ hb=>B00 P Q hx hb⟩,by simp only [Bk];omega⟩
   refine ⟨aB,eB,by omega,by omega,_,_,_,B5 r D,?_⟩
   rw [u]
   refine B7 (fun aa=>?_) (fun ac=>next (.inl (by omega)))
   have p:j<cols:=by omega
   obtain ⟨a5,w5,e5,n5,c0,c1,F,c3⟩:=(G.mono I9 q).qat l
   obtain ⟨a6,w6,e6,n6,d0,d1,d2,d3⟩:=(C.mono I9 q).qat p
   obtain ⟨cc,aj,Z⟩:=c.head d
   obtain ⟨x,ix,x0,x1,x2,x3⟩:=c.elem d p
   refine ⟨X,E,by omega,by omega,_,_,_,B5 r hc1,a5,e5,by omega,by omega,_,_,_,_,_,_,_,_,B5 c.sep.le c0,B5 c.sep.le c1,B5 c.sep.le F,B5 c.sep.le c3,?_⟩
   refine En (NQ.mono c.sep.le n5) ⟨_,rfl,J4 (fun ag=>?_) (fun he=>next (.inr (by rw [bL] at he;exact Rat.num_eq_zero.1 he)))⟩
   refine ⟨_,rfl,by omega,by omega,_,_,_,c.sep.cell Z,_,rfl,by omega,by omega,_,_,_,c.sep.cell Z,_,rfl,by omega,by omega,_,_,_,_,_,_,_,_,c.sep.cell x0,c.sep.cell x1,c.sep.cell x2,c.sep.cell x3,X,E,by omega,by omega,_,_,_,B5 r hc1,a5,e5,by omega,by omega,_,_,_,_,_,_,_,_,B5 c.sep.le c0,B5 c.sep.le c1,B5 c.sep.le F,B5 c.sep.le c3,a2,T,by omega,by omega,_,_,_,B5 r J,a6,e6,by omega,by omega,_,_,_,_,_,_,_,_,B5 c.sep.le d0,B5 c.sep.le d1,B5 c.sep.le d2,B5 c.sep.le d3,?_⟩
   refine c.sep.call (No (a:=w5) (b:=w6) n5 n6 (hs i k d l) (hs2 k j l p) (by omega) ?_)
   intro w7 g7 H i7 h7 V
   refine ⟨_,_,_,_,_,_,_,_,rfl,c.sep.le_le V H,?_⟩
   have ev:Gd P Q w i k j i j=sm k (fun t=>P i t*Q t j):=by
    unfold Gd
    rw [iN (bC i),iP rfl,iN (bC j)]
   rw [ev] at ix
   have al:k*(2*m+1)<=w*(2*m+1):=aK _ hk
   refine V.call (Nq (a:=x) (b:=w7) (m:=1+k*(2*m+1)+2*m) (NQ.mono H ix) i7 ((Sq (f:=fun t=>P i t) (f2:=fun t=>Q t j) (fun t R=>hs i t d R) (fun t R=>hs2 t j R p) k hk).mono (by omega)) (((hs i k d l).mul (hs2 k j l p)).mono (by omega)) (by omega) ?_)
   intro w8 g8 S i8 h8 s8
   have t8:Mt h8 g8 o3 bo e n cols (Gd P Q w i k j):=c.next s8 (B0 H S)
   refine ⟨_,_,_,_,_,_,_,_,rfl,V.le_le s8 S,_,rfl,by omega,by omega,?_⟩
   refine t8.store d p i8 ?_
   intro h9 o9 t9 _
   rw [wiS j (by omega)]
   exact ⟨⟨j+1,g8,o9,by omega,rfl,B0 q (B0 H S),t9.congr fun a b _ _=>A9z P Q w i k j a b⟩,by simp only [Bk];omega⟩
  ·have:k=w:=by omega
   subst this
   rw [wiS i (by omega)]
   exact ⟨⟨i+1,g2,o2,by omega,rfl,y,t2.congr fun a b _ _=>B2s P Q k i a b⟩,by simp only [Bk];omega⟩
 ·have:i=n:=by omega
  subst this
  exact hK s g o bo e W (t.congr fun a b ha _=>by unfold Gd;rw [iP ha])
def A6i(ra:bB h A n w P)(rb:bB h B w cols Q)(hn1:1<=n)(hn:n<=10000)(hw1:1<=w)(hw:w<=10000)(hc1:1<=cols)(hc:cols<=10000)(hs:∀ i j,i<n->j<w->Sz m (P i j))(hs2:∀ i j,i<w->j<cols->Sz m (Q i j))(hm:1+w*(2*m+1)+2*m<=400000000)
 (hK:∀ bo h',h.le h'->bB h' (some ⟨bo,0,none⟩) n cols (fun a b=>sm w (fun t=>P a t*Q t b))->K (.slice (some ⟨bo,0,none⟩) n n) h'):aL prog Tu #[.slice A n cap,.slice B w cap2] h K:=
 A3u ra rb hn1 hn hw1 hw hc1 hc hs hs2 hm fun h' c _ bo _ l t=>hK bo h' (B0 l t.sep.le) t.rowsV
end
section
variable {h:aC} {K:VP} {A B:Option aR} {n n2 cap cap2 m w:Nat} {r c:Int} {la lx:Nat->List UInt8} {E b:Nat->Rat}
def Ve{nq:Nat}(rs:bB h A n w (mtx E w))(rb:aI NQr h B n b)(hn1:1<=n)(hn:n<=1000)(hw1:1<=w)(hw:w<=1000)(hm1:1<=m)(hs:∀ i j,i<n->j<w->Sz m (mtx E w i j))(hs2:∀ i,i<n->Sz m (b i))(hnq:∀ j,j<w->(ecE (mtx (H0 E b w) (w+1)) n j).cs.length<nq)(hm:7^nq*m<=100000000)
 (hK1:Ha E b n w->∀ b' h',h.le h'->aI NQr h' (some ⟨b',0,none⟩) w (A2x E b n w)->K (.tuple #[.slice (some ⟨b',0,none⟩) w w,.bool true]) h')
 (hK0:¬ Ha E b n w->∀ h',h.le h'->K (.tuple #[.slice none 0 0,.bool false]) h'):aL prog Ls #[.slice A n cap,.slice B n cap2] h K:=by
 refine A57 _ _ _ _ _ _ ?_
 unfold A58
 obtain ⟨a0,bh,a3,a7,bf,a4,_⟩:=rs.at (i:=0) (by omega)
 refine ⟨a0,a3,by omega,by omega,_,_,_,a4,?_⟩
 rw [a7]
 have wM:∀ k,k<n->∀ j,j<w+1->mtx (H0 E b w) (w+1) k j=if j<w then mtx E w k j else b k:=by
  intro k _ j hj
  by_cases e:j<w
  ·rw [iP e,Hw E b e]
  ·rw [iN e,show j=w by omega,Pv]
 refine ⟨fun L hp=>∃ (k:Nat) (g o:aC) (V:List HV) (A':Option aR) (c':Nat),k<=n/\L=[.slice A' k c',I (k:Int)]/\h.le g/\Sep hp g o/\aT o J6 A' c' V/\V.length=k/\Row (RWr (w+1)) g V k (mtx (H0 E b w) (w+1)),fun L _=>n-(iAt L 1).toNat,
  ⟨0,h,Bh,[],none,0,by omega,rfl,B4 _,Sep.refl h,OwnSl.nil,rfl,Row.nil⟩,?_⟩
 rintro wA d wc z hp ⟨k,g,o,V,A',c',hk,eL,lg,s,ow,F,rr⟩
 obtain ⟨⟨rfl,rfl,rfl⟩,rfl⟩:=sI2 eL
 refine B7 (fun al=>?_) (fun ao=>?_)
 ·have aa:d<n:=by omega
  obtain ⟨a1,s1,ae,f1,f2,ad,xs,sx,T,qx⟩:=rs.at aa
  obtain ⟨a2,u,bc,iu,d0,d1,d2,d3⟩:=rb.qat aa
  have J:xs≠[]:=by rintro rfl;simp at T;omega
  have au:g.le hp:=s.le
  have done:∀ {A3:Option aR} {W:Nat} {A9:Option aR} {c9:Nat} {h9 X o9:aC},g.le X->Sep h9 X o9->xs.length+[u].length<=W->SlF X A3 (xs++[u])->aT o9 J6 A9 c9 (V++[(⟨A3,xs.length+[u].length,W⟩:HV)])->
   ((∃ (k:Nat) (g o:aC) (hd':List HV) (A':Option aR) (c':Nat),k<=n/\[Value.slice A9 (V.length+1) c9,I (B6 ((d:Int)+1))]=[.slice A' k c',I (k:Int)]/\h.le g/\Sep h9 g o/\aT o J6 A' c' hd'/\hd'.length=k/\Row (RWr (w+1)) g hd' k (mtx (H0 E b w) (w+1)))/\n-(iAt [Value.slice A9 (V.length+1) c9,I (B6 ((d:Int)+1))] 1).toNat<n-(iAt [Value.slice wA d wc,I (d:Int)] 1).toNat):=by
   intro A3 W A9 c9 h9 X o9 Q Z f sl x
   rw [F,wiS d (by omega)]
   refine ⟨⟨d+1,X,o9,_,A9,c9,by omega,rfl,B0 lg Q,Z,x,by rw [aE,F];rfl,?_⟩,?_⟩
   ·have rA:Row (RWr (w+1)) X V V.length (mtx (H0 E b w) (w+1)):=by rw [F];exact rr.mono (C3p (w+1)) Q
    have rB:=rA.push (w:=(⟨A3,xs.length+[u].length,W⟩:HV)) (by
     rw [F]
     refine ⟨by rw [T];rfl,by rw [T] at f;exact f,xs++[u],sl,by rw [aE,T];rfl,?_⟩
     have q1:Row NQr X xs xs.length (mtx (H0 E b w) (w+1) d):=by
      rw [T]
      exact (qx.mono I9 (B0 lg Q)).congr fun j hj=>by rw [wM d aa j (by omega),iP hj]
     have q2:=q1.push (w:=u) (by
      rw [T,wM d aa w (by omega),iN (bC w)]
      exact I9 _ _ _ _ (B0 lg Q) iu)
     rw [aE,T] at q2
     exact q2)
    rw [aE,F] at rB
    exact rB
   ·show n-((d+1:Nat):Int).toNat<n-(d:Int).toNat
    omega
  have S:h.le hp:=B0 lg au
  have D:xs.length<=10000:=by omega
  have ac:V.length<=10000:=by omega
  have hu:∀ {q:aC} {b1:Nat} {e:aS},q b1=none->SlF (q.put b1 (.cells ([u].flatMap enc).toArray e)) (some ⟨b1,0,none⟩) [u]:=fun hb=>Ly _ _ _ [u]
  have cells:∀ {q:aC},hp.le q->q.cell? (aJ (aJ a2 (d*4)) 0)=some (.bool u.s)/\q.cell? (aJ (aJ a2 (d*4)) 1)=some (.slice u.A u.n u.c)/\q.cell? (aJ (aJ a2 (d*4)) 2)=some (.bool u.s2)/\q.cell? (aJ (aJ a2 (d*4)) 3)=some (.slice u.A2 u.n2 u.c2):=fun l=>⟨B5 (B0 S l) d0,B5 (B0 S l) d1,B5 (B0 S l) d2,B5 (B0 S l) d3⟩
  refine ⟨a1,ae,by omega,by omega,_,_,_,B5 S ad,a2,bc,by omega,by omega,?_,?_⟩
  ·obtain ⟨p0,p1,p2,p3⟩:=cells (B4 hp)
   refine ⟨_,_,_,_,_,_,_,_,p0,p1,p2,p3,?_,?_⟩
   ·refine Qj Ng ?_
    intro be C
    have r:=Ee s ow C
    have N:aT (o.put be (.cells #[] D0)) J6 wA wc V:=ow.keep fun b y e hy=>by rw [B9 _ _ (fun e2=>r (by rw [e,e2]))];exact hy
    have p:=s.new C (.cells #[] D0)
    refine ⟨_,_,_,rfl,Heap.le_put _ C,?_,?_⟩
    ·refine Qc p (C0 _ _ _) N r (sx.mono (B0 lg p.le)) J (by omega) D ?_
     intro A2 c2 h2 g2 o2 O M G H ha
     refine ⟨_,_,_,rfl,B06 (u:=u) rfl ?_⟩
     intro b1 a
     exact ⟨_,_,_,rfl,Heap.le_put _ a,Qb (M.vis a _) G H ha (hu a) (by simp) (by omega) rfl F.symm D (by simp) ac fun A3 W A9 c9 h9 X o9 Q Z f sl x=>done (B0 O (B0 (Heap.le_put _ (M.free a)) Q)) Z f sl x⟩
    ·refine B06 (u:=u) rfl ?_
     intro b1 a
     have s3:=p.vis a (.cells ([u].flatMap enc).toArray D0)
     have l3:=Heap.le_put (h:=g) (.cells ([u].flatMap enc).toArray D0) (p.free a)
     refine ⟨_,_,_,rfl,Heap.le_put _ a,?_⟩
     refine Qc s3 (C0 _ _ _) N r (sx.mono (B0 lg (B0 l3 s3.le))) J (by omega) D ?_
     intro A2 c2 h2 g2 o2 O M G H ha
     refine ⟨_,_,_,rfl,?_⟩
     exact Qb M G H ha ((Ly D0 g b1 [u]).mono (B0 O M.le)) (by simp) (by omega) rfl F.symm D (by simp) ac fun A3 W A9 c9 h9 X o9 Q Z f sl x=>done (B0 l3 (B0 O Q)) Z f sl x
   ·refine B06 (u:=u) rfl ?_
    intro b1 a
    have p:=s.vis a (.cells ([u].flatMap enc).toArray D0)
    have l1:=Heap.le_put (h:=g) (.cells ([u].flatMap enc).toArray D0) (s.free a)
    refine ⟨_,_,_,rfl,Heap.le_put _ a,Qj Ng ?_⟩
    intro be C
    have r:=Ee p ow C
    have N:aT (o.put be (.cells #[] D0)) J6 wA wc V:=ow.keep fun b y e hy=>by rw [B9 _ _ (fun e2=>r (by rw [e,e2]))];exact hy
    have s3:=p.new C (.cells #[] D0)
    refine ⟨_,_,_,rfl,Heap.le_put _ C,?_⟩
    refine Qc s3 (C0 _ _ _) N r (sx.mono (B0 lg (B0 l1 s3.le))) J (by omega) D ?_
    intro A2 c2 h2 g2 o2 O M G H ha
    refine ⟨_,_,_,rfl,?_⟩
    exact Qb M G H ha ((Ly D0 g b1 [u]).mono (B0 O M.le)) (by simp) (by omega) rfl F.symm D (by simp) ac fun A3 W A9 c9 h9 X o9 Q Z f sl x=>done (B0 l1 (B0 O Q)) Z f sl x
  ·refine Qj Ng ?_
   intro be C
   have r:=Ee s ow C
   have N:aT (o.put be (.cells #[] D0)) J6 wA wc V:=ow.keep fun b y e hy=>by rw [B9 _ _ (fun e2=>r (by rw [e,e2]))];exact hy
   have p:=s.new C (.cells #[] D0)
   refine ⟨_,_,_,rfl,Heap.le_put _ C,?_,?_⟩
   ·obtain ⟨p0,p1,p2,p3⟩:=cells (Heap.le_put (.cells #[] D0) C)
    refine ⟨_,_,_,_,_,_,_,_,p0,p1,p2,p3,?_,?_⟩
    ·refine Qc p (C0 _ _ _) N r (sx.mono (B0 lg p.le)) J (by omega) D ?_
     intro A2 c2 h2 g2 o2 O M G H ha
     refine ⟨_,_,_,rfl,B06 (u:=u) rfl ?_⟩
     intro b1 a
     exact ⟨_,_,_,rfl,Heap.le_put _ a,Qb (M.vis a _) G H ha (hu a) (by simp) (by omega) rfl F.symm D (by simp) ac fun A3 W A9 c9 h9 X o9 Q Z f sl x=>done (B0 O (B0 (Heap.le_put _ (M.free a)) Q)) Z f sl x⟩
    ·refine B06 (u:=u) rfl ?_
     intro b1 a
     have s3:=p.vis a (.cells ([u].flatMap enc).toArray D0)
     have l3:=Heap.le_put (h:=g) (.cells ([u].flatMap enc).toArray D0) (p.free a)
     refine ⟨_,_,_,rfl,Heap.le_put _ a,?_⟩
     refine Qc s3 (C0 _ _ _) N r (sx.mono (B0 lg (B0 l3 s3.le))) J (by omega) D ?_
     intro A2 c2 h2 g2 o2 O M G H ha
     refine ⟨_,_,_,rfl,?_⟩
     exact Qb M G H ha ((Ly D0 g b1 [u]).mono (B0 O M.le)) (by simp) (by omega) rfl F.symm D (by simp) ac fun A3 W A9 c9 h9 X o9 Q Z f sl x=>done (B0 l3 (B0 O Q)) Z f sl x
   ·refine Qc p (C0 _ _ _) N r (sx.mono (B0 lg p.le)) J (by omega) D ?_
    intro A2 c2 h2 g2 o2 O M G H ha
    have lq:h.le h2:=B0 lg (B0 O M.le)
    refine ⟨_,_,_,rfl,_,_,_,_,_,_,_,_,B5 lq d0,B5 lq d1,B5 lq d2,B5 lq d3,B06 (u:=u) rfl ?_⟩
    intro b1 a
    exact ⟨_,_,_,rfl,Heap.le_put _ a,Qb (M.vis a _) G H ha (hu a) (by simp) (by omega) rfl F.symm D (by simp) ac fun A3 W A9 c9 h9 X o9 Q Z f sl x=>done (B0 O (B0 (Heap.le_put _ (M.free a)) Q)) Z f sl x⟩
 have aa:d=n:=by omega
 subst aa
 have az:bB hp wA d (w+1) (mtx (H0 E b w) (w+1)):=RowsV.of ⟨V,ow.slF s.ole,F,rr.mono (C3p (w+1)) s.le⟩
 have ax:∀ i j,i<d->j<w+1->Sz m (mtx (H0 E b w) (w+1) i j):=fun i j hi hj=>by
  rw [wM i hi j hj]
  split
  ·rename_i e;exact hs i j hi e
  ·exact hs2 i hi
 have S:h.le hp:=B0 lg s.le
 refine Xh (m:=m) az hn1 (by omega) (by omega) (by omega) (by omega) hm1 ax hnq hm ?_
 intro h2 g2 o2 bo bg c2 A2 av wd O t ar ap iq
 refine ⟨_,_,_,_,_,_,_,_,_,_,_,_,_,_,rfl,?_⟩
 have ba:Asc (ecE (mtx (H0 E b w) (w+1)) d w).cs w:=A85 d ⟨_,[],1⟩ rfl w
 have an:(ecE (mtx (H0 E b w) (w+1)) d w).cs.length<=w/\(ecE (mtx (H0 E b w) (w+1)) d w).cs.length<=d:=Lv _ d w
 have am:Ha E b d w ↔ ∀ i,i<d->(ecE (mtx (H0 E b w) (w+1)) d w).cs.length<=i->(ecE (mtx (H0 E b w) (w+1)) d w).R i w=0:=Iff.rfl
 have eX:A2x E b d w=B1d (fun m=>(ecE (mtx (H0 E b w) (w+1)) d w).R m w) (ecE (mtx (H0 E b w) (w+1)) d w).cs (ecE (mtx (H0 E b w) (w+1)) d w).cs.length:=(A0d _ _).symm
 have ai:=t.rowsV
 have sp:=ar.slF t.sep.ole
 have lh:=B0 S (B0 O t.sep.le)
 clear t ar ap iq
 rw [eX] at hK1
 clear eX
 generalize (ecE (mtx (H0 E b w) (w+1)) d w).cs=cs at *
 generalize (ecE (mtx (H0 E b w) (w+1)) d w).R=R at *
 refine ⟨fun L q=>∃ i:Nat,cs.length<=i/\i<=d/\L=[I (i:Int)]/\q=h2/\∀ j,j<i->cs.length<=j->R j w=0,fun L _=>d-(iAt L 0).toNat,⟨cs.length,aH _,an.2,rfl,rfl,fun j h1 h2=>by omega⟩,?_⟩
 rintro z q ⟨i,a6,bi,eL,rfl,hz⟩
 obtain rfl:=sI1 eL
 refine B7 (fun al=>?_) (fun ao=>?_)
 ·have ag:i<d:=by omega
  obtain ⟨a1,s1,ae,f1,f2,ad,af⟩:=ai.at ag
  obtain ⟨a5,w5,e5,n5,c0,c1,ah,W⟩:=af.qat (i:=w) (by omega)
  refine ⟨a1,ae,by omega,by omega,_,_,_,ad,a5,e5,by omega,by omega,_,_,_,_,_,_,_,_,c0,c1,ah,W,?_⟩
  refine En n5 ⟨_,rfl,J4 (fun r=>hK0 (fun hx=>r (by rw [am.1 hx i ag a6];rfl)) _ lh) (fun he=>?_)⟩
  have a9:R i w=0:=by rw [bL] at he;exact Rat.num_eq_zero.1 he
  rw [wiS i (by omega)]
  refine ⟨⟨i+1,by omega,by omega,rfl,rfl,fun j h1 h2=>?_⟩,by simp only [Bk];omega⟩
  by_cases e:j=i
  ·rw [e];exact a9
  ·exact hz j (by omega) h2
 have ag:i=d:=by omega
 subst ag
 have a8:=hK1 (am.2 fun j h1 h2=>hz j h1 h2)
 refine L8 Ng (zx:=Ao) rfl (by omega) (by omega) (by omega) (by omega) ?_
 intro b2 ay
 simp only [aF]
 refine ⟨_,_,_,rfl,?_⟩
 have s5:=(Sep.refl q).new ay (.cells ((aP w Ao).flatMap enc).toArray D0)
 have r0:Row NQr q (aP w Ao) w (B1d (fun m=>R m w) cs 0):=fun i hi=>⟨Ao,by rw [List.getElem?_replicate,iP hi],NQ.zero⟩
 refine ⟨fun L q'=>∃ (i:Nat) (o':aC) (ys:List QV),i<=cs.length/\L=[I (i:Int)]/\Sep q' q o'/\RowX o' b2 ys/\ys.length=w/\Row NQr q ys w (B1d (fun m=>R m w) cs i),fun L _=>cs.length-(iAt L 0).toNat,⟨0,_,_,by omega,rfl,s5,RowX.mk,aY,r0⟩,?_⟩
 rintro z q6 ⟨k,o6,ys,hk,eL,s6,ak,hy,aq⟩
 obtain rfl:=sI1 eL
 refine B7 (fun al=>?_) (fun ao=>?_)
 ·have aj:k<cs.length:=by omega
  obtain ⟨u,eu,aw⟩:=B99 (sp.mono s6.le) aj
  have bd:=B3h ba aj
  obtain ⟨a1,s1,ae,f1,f2,ad,af⟩:=ai.at (i:=k) (by omega)
  obtain ⟨a5,w5,e5,n5,c0,c1,ah,W⟩:=af.qat (i:=w) (by omega)
  refine ⟨u,eu,by omega,by omega,_,aw,a1,ae,by omega,by omega,_,_,_,B5 s6.le ad,a5,e5,by omega,by omega,_,_,_,_,_,_,_,_,B5 s6.le c0,B5 s6.le c1,B5 s6.le ah,B5 s6.le W,_,rfl,by omega,by omega,?_⟩
  refine S0 Cq (y:=w5) rfl s6 ak (i:=cs.getD k 0) (by omega) ?_
  intro h7 o7 x7 bj s7 bb
  rw [wiS k (by omega)]
  exact ⟨⟨k+1,o7,_,by omega,rfl,s7,bb,by rw [aD];exact hy,aq.upd (by omega) n5⟩,by simp only [Bk];omega⟩
 ·have:k=cs.length:=by omega
  subst this
  exact a8 b2 q6 (B0 lh s6.le) ⟨ys,ak.rowB.slF s6.ole,hy,aq.mono I9 s6.le⟩
end
def B9l(M:Nat->Nat->Rat)(w:Nat->Rat)(i k:Nat):Nat->Nat->Rat:=fun a b=>if a<i\/(a=i/\b<k) then prC M w a b else M b a
section
variable {h:aC} {K:VP} {A B X W:Option aR} {rows cols ac bc xc wc s sx se nq:Nat} {M:Nat->Nat->Rat} {w b x:Nat->Rat}
def A0p(rs:bB h A rows cols M)(rb:aI NQr h B rows b)(rx:aI NQr h X cols x)(rw':aI NQr h W cols w)(r1:1<=rows)(r2:rows<=64)(c1:1<=cols)(c2:cols<=64)
 (hs1:1<=s) (hssx:s<=sx) (hM:∀ i j,i<rows->j<cols->Sz s (M i j)) (hw:∀ t,t<cols->Sz s (w t)) (hb:∀ i,i<rows->Sz sx (b i)) (hx:∀ t,t<cols->Sz sx (x t))
 (q0:cols<=nq\/rows<=nq) (q1:2*s<=se) (q2:1+cols*(2*(2*s)+1)<=se) (q3:∀ i,i<rows->Sz se (prR cols M b x i)) (q5:7^(nq+1)*se<=40000000) (q6:1+cols*(2*sx+1)+2*sx<=40000000) (q7:1+rows*(2*(7^nq*se)+1)+2*(7^nq*se)+sx<=40000000)
 (hK1:Ha (prE cols rows M w) (prR cols M b x) rows rows->∀ b' h',h.le h'->aI NQr h' (some ⟨b',0,none⟩) cols (prZ rows M w x (A2x (prE cols rows M w) (prR cols M b x) rows rows))->K (.tuple #[.slice (some ⟨b',0,none⟩) cols cols,.bool true]) h')
 (hK0:¬ Ha (prE cols rows M w) (prR cols M b x) rows rows->∀ h',h.le h'->K (.tuple #[.slice none 0 0,.bool false]) h'):
 aL prog Qw #[.slice A rows ac,.slice B rows bc,.slice X cols xc,.slice W cols wc] h K:=by
 refine A7p _ _ _ _ _ _ _ _ _ _ _ _ ?_
 unfold A9g
 refine A6h rs r1 (by omega) (by omega) ?_
 intro h1 g1 o1 bo ak l1 t1
 refine ⟨_,_,_,rfl,fun L H=>∃ (i:Nat) (g o:aC),i<=cols/\L=[I (i:Int)]/\h.le g/\Mt H g o bo ak cols rows (B9l M w i 0),fun L _=>cols-(iAt L 0).toNat,⟨0,g1,o1,by omega,rfl,l1,t1.congr fun a b _ _=>by unfold B9l;rw [iN (by omega)]⟩,?_⟩
 rintro z H ⟨i,g,o,hi,eL,u,t⟩
 obtain rfl:=sI1 eL
 refine B7 (fun aj=>?_) (fun aq=>?_)
 ·have q:i<cols:=by omega
  obtain ⟨cc,am,hh⟩:=t.head q
  refine ⟨_,rfl,by omega,by omega,_,_,_,t.sep.cell hh,fun L H=>∃ (k:Nat) (g o:aC),k<=rows/\L=[I (k:Int)]/\h.le g/\Mt H g o bo ak cols rows (B9l M w i k),fun L _=>rows-(iAt L 0).toNat,⟨0,g,o,by omega,rfl,u,t⟩,?_⟩
  clear hh am t u
  rintro z bl ⟨k,g2,o2,hk,az,T,p⟩
  obtain rfl:=sI1 az
  refine B7 (fun bi=>?_) (fun bj=>?_)
  ·have d:k<rows:=by omega
   obtain ⟨cc,am,hh⟩:=p.head q
   obtain ⟨y,iy,y0,y1,y2,y3⟩:=p.elem q d
   obtain ⟨a5,w5,e5,Z,d0,d1,d2,d3⟩:=(rw'.mono I9 T).qat q
   have ey:B9l M w i k i k=M k i:=by unfold B9l;rw [iN (by omega)]
   rw [ey] at iy
   refine ⟨_,rfl,by omega,by omega,_,_,_,p.sep.cell hh,_,rfl,by omega,by omega,_,_,_,p.sep.cell hh,_,rfl,by omega,by omega,_,_,_,_,_,_,_,_,p.sep.cell y0,p.sep.cell y1,p.sep.cell y2,p.sep.cell y3,a5,e5,by omega,by omega,_,_,_,_,_,_,_,_,B5 p.sep.le d0,B5 p.sep.le d1,B5 p.sep.le d2,B5 p.sep.le d3,?_⟩
   refine p.sep.call (A3a (a:=y) (b:=w5) (m:=s) iy Z (hM k i d q) (hw i q) (by omega) ?_)
   intro v g3 l3 iv h3 s3
   refine ⟨_,_,_,_,_,_,_,_,rfl,p.sep.le_le s3 l3,_,rfl,by omega,by omega,?_⟩
   refine (p.next s3 l3).store q d iv ?_
   intro h6 o6 t6 _
   rw [wiS k (by omega)]
   refine ⟨⟨k+1,g3,o6,by omega,rfl,B0 T l3,t6.congr fun a b _ _=>?_⟩,by simp only [Bk];omega⟩
   unfold B6l B9l
   by_cases e:a=i/\b=k
   ·rw [iP e,iP (by omega),e.1,e.2];rfl
   ·rw [iN e]
    by_cases e3:a<i\/(a=i/\b<k)
    ·rw [iP e3,iP (by omega)]
    ·rw [iN e3,iN (by omega)]
  ·obtain rfl:k=rows:=by omega
   rw [wiS i (by omega)]
   refine ⟨⟨i+1,g2,o2,by omega,rfl,T,p.congr fun a b _ hb=>?_⟩,by simp only [Bk];omega⟩
   unfold B9l
   by_cases e3:a<i\/(a=i/\b<k)
   ·rw [iP e3,iP (by omega)]
   ·rw [iN e3,iN (by omega)]
 obtain rfl:i=cols:=by omega
 have O:=B0 u t.sep.le
 have rt:bB H (some ⟨bo,0,none⟩) i rows (prC M w):=(t.congr fun a b ha _=>by unfold B9l;rw [iP (.inl ha)]).rowsV
 clear t u t1
 refine L8 Ng (zx:=Ao) rfl (by omega) (by omega) (by omega) (by omega) ?_
 intro b2 a1
 simp only [aF]
 have aa:=(Sep.refl H).new a1 (.cells ((aP rows Ao).flatMap enc).toArray D0)
 refine ⟨_,_,_,rfl,aa.call (Vh (m:=sx) (RowsV.mono O rs) (rx.mono I9 O) (by omega) (by omega) (fun i j hi C=>(hM i j hi C).mono hssx) hx (by omega) ?_)⟩
 intro b3 g3 F h3 ag
 have l3:=F.le
 have a0:=B0 O l3
 have ai:=F.vis I9
 refine ⟨_,_,_,rfl,fun L bh=>∃ k:Nat,k<=rows/\L=[I (k:Int)]/\OwnK NQr g3 bh b2 rows k (prR i M b x),fun L _=>rows-(iAt L 0).toNat,⟨0,by omega,rfl,g3,_,_,B4 _,ag,RowX.mk,aY,Row.nil⟩,?_⟩
 rintro z al ⟨k,hk,eL,g,o,N,u,c,l,r,Q⟩
 obtain rfl:=sI1 eL
 have bf:∀ k,k<rows->Sz (1+i*(2*sx+1)) (sm i (fun j=>M k j*x j)):=fun k hk=>Sq (m:=sx) (w:=i) (f:=fun j=>M k j) (f2:=x) (fun j C=>(hM k j hk C).mono hssx) hx i (aH _)
 refine B7 (fun aj=>?_) (fun aq=>?_)
 ·have d:k<rows:=by omega
  obtain ⟨a5,w5,e5,Z,c0,bd,a9,c3⟩:=(rb.mono I9 (B0 a0 u)).qat d
  obtain ⟨a6,w6,e6,n6,d0,d1,d2,d3⟩:=(ai.mono I9 u).qat d
  refine ⟨a5,e5,by omega,by omega,_,_,_,_,_,_,_,_,B5 c.le c0,B5 c.le bd,B5 c.le a9,B5 c.le c3,a6,e6,by omega,by omega,_,_,_,_,_,_,_,_,B5 c.le d0,B5 c.le d1,B5 c.le d2,B5 c.le d3,?_⟩
  refine c.call (A32 (a:=w5) (b:=w6) (m:=1+i*(2*sx+1)+2*sx) Z n6 ((hb k d).mono (by omega)) ((bf k d).mono (by omega)) (by omega) ?_)
  intro v g8 l8 iv h8 D
  refine ⟨_,_,_,_,_,_,_,_,rfl,c.le_le D l8,_,rfl,by omega,by omega,?_⟩
  refine OwnK.store I9 Cq (y:=v) u l8 D l r Q d rfl iv ?_
  intro h9 ow
  rw [wiS k (by omega)]
  exact ⟨⟨k+1,by omega,rfl,ow⟩,by simp only [Bk];omega⟩
 obtain rfl:k=rows:=by omega
 have G:aI NQr al (some ⟨b2,0,none⟩) k (prR i M b x):=⟨N,l.rowB.slF c.ole,r,Q.mono I9 c.le⟩
 have V:H.le al:=B0 l3 (B0 u c.le)
 have ao:=B0 O V
 clear Q r l c u ai F ag aa
 have bn:se<=40000000:=by
  have:=aM se (show 0<7^(nq+1) from bI (by decide))
  omega
 refine A6i (m:=2*s) (RowsV.mono ao rs) (RowsV.mono V rt) r1 (by omega) c1 (by omega) r1 (by omega) (fun i j hi C=>(hM i j hi C).mono (by omega)) (fun t j R C=>Ur hs1 hM hw t j R C) (by
  have:i*(2*(2*s)+1)<=40000000:=by omega
  omega) ?_
 intro a8 h4 l4 r4
 have hE:∀ k',k'<k*k->Sz se (prE i k M w k'):=fun k' hk=>(B2t hs1 hM hw k' hk).mono q2
 have ax:bB h4 (some ⟨a8,0,none⟩) k k (mtx (prE i k M w) k):=RowsV.congr r4 fun a b _ hb=>(A68 M w hb).symm
 refine ⟨_,_,_,rfl,?_⟩
 have an:=B0 ao l4
 have aw:=B0 V l4
 refine Ve (nq:=nq+1) (m:=se) ax (G.mono I9 l4) r1 (by omega) r1 (by omega) (by omega) (Yn hE) q3 (fun j C=>?_) (by omega) (fun a7 b5 h5 l5 r5=>?_) (fun be h5 l5=>⟨_,_,_,_,rfl,Pq (hK0 be h5 (B0 an l5))⟩)
 ·obtain ⟨p1,p2⟩:=A3b (m:=i) M w (prR i M b x) (Nat.le_of_lt C)
  change (elE (H0 (prE i k M w) (prR i M b x) k) k (k+1) j).cs.length<nq+1
  rcases q0 with q0|q0<;>omega
 refine ⟨_,_,_,_,rfl,Br.nt ?_⟩
 have hg:=hK1 a7
 clear hK1 hK0
 have hX:=Nj (b:=prR i M b x) hE q3 (by omega) (nq:=nq) (by
  obtain ⟨p1,p2⟩:=A3b (m:=i) M w (prR i M b x) (aH k)
  rcases q0 with q0|q0
  ·exact bG p1 q0
  ·exact bG p2 q0)
 generalize A2x (prE i k M w) (prR i M b x) k k=y at *
 have bm:se<=7^nq*se:=aM se (bI (by decide))
 generalize 7^nq*se=Y at *
 have a2:=B0 an l5
 refine Vh (m:=Y) (RowsV.mono (B0 aw l5) rt) r5 (by omega) (by omega) (fun t j R C=>(Ur hs1 hM hw t j R C).mono (by omega)) (fun j _=>hX j) (by omega) ?_
 intro b6 h6 au
 obtain ⟨g6,o6,ay,l6,ah,af,ae,ap⟩:=au
 have ba:∀ t,t<i->Sz (1+k*(2*Y+1)) (sm k (fun j=>prC M w t j*y j)):=fun t R=>Sq (m:=Y) (w:=k) (f:=fun j=>prC M w t j) (f2:=y) (fun j C=>(Ur hs1 hM hw t j R C).mono (by omega)) (fun j _=>hX j) k (aH _)
 refine ⟨_,_,_,rfl,fun L H=>∃ (n:Nat) (g o:aC) (N:List QV),n<=i/\L=[I (n:Int)]/\h5.le g/\Sep H g o/\RowX o b6 N/\N.length=i/\Row NQr g N i (fun t=>if t<n then prZ k M w x y t else sm k (fun j=>prC M w t j*y j)),fun L _=>i-(iAt L 0).toNat,⟨0,g6,o6,ay,by omega,rfl,l6,ah,af,ae,ap.congr fun t _=>by rw [iN (by omega)]⟩,?_⟩
 clear ap ae af ah l6
 rintro z S ⟨n,g,o,N,hn,eL,u,c,l,r,Q⟩
 obtain rfl:=sI1 eL
 have ad:=B0 a2 u
 refine B7 (fun aj=>?_) (fun aq=>?_)
 ·have J:n<i:=by omega
  have rz:aI NQr S (some ⟨b6,0,none⟩) i _:=⟨N,l.rowB.slF c.ole,r,Q.mono I9 c.le⟩
  obtain ⟨w5,av,Z⟩:=Q n J
  have bg:=l.rowB.slF c.ole
  obtain ⟨a5,e5,E⟩:=SlF.at (by decide) bg (i:=n) (by omega)
  have a3:N[n]'(by omega)=w5:=by rw [aV (by omega)] at av;exact aG av
  rw [a3] at E
  change NQr g w5 (if n<n then _ else _) at Z
  rw [iN (by omega)] at Z
  obtain ⟨a6,w6,e6,n6,d0,d1,d2,d3⟩:=(rx.mono I9 ad).qat J
  refine ⟨a5,e5,by omega,by omega,_,_,_,_,_,_,_,_,E 0 _ rfl,E 1 _ rfl,E 2 _ rfl,E 3 _ rfl,a6,e6,by omega,by omega,_,_,_,_,_,_,_,_,B5 c.le d0,B5 c.le d1,B5 c.le d2,B5 c.le d3,?_⟩
  refine c.call (Nq (a:=w5) (b:=w6) (m:=1+k*(2*Y+1)+sx) Z n6 ((ba n J).mono (by omega)) ((hx n J).mono (by omega)) (by omega) ?_)
  intro v g8 l8 iv h8 D
  refine ⟨_,_,_,_,_,_,_,_,rfl,c.le_le D l8,_,rfl,by omega,by omega,?_⟩
  refine S0 Cq (y:=v) rfl D l (i:=n) (by omega) ?_
  intro h9 o9 x9 bk bb a4
  rw [wiS n (by omega)]
  refine ⟨⟨n+1,g8,o9,_,by omega,rfl,B0 u l8,bb,a4,by rw [aD];exact r,((Q.mono I9 l8).upd (by omega) iv).congr fun t R=>?_⟩,by simp only [Bk];omega⟩
  by_cases ek:t=n
  ·rw [iP ek,iP (by omega),ek];exact Rat.add_comm _ _
  ·rw [iN ek]
   by_cases ar:t<n
   ·rw [iP ar,iP (by omega)]
   ·rw [iN ar,iN (by omega)]
 obtain rfl:n=i:=by omega
 exact hg b6 S (B0 ad c.le) ⟨N,l.rowB.slF c.ole,r,(Q.mono I9 c.le).congr fun t R=>iP R⟩
end
def A7e(cs cs':List aN):Prop:=∀ (k:Nat) (n:Int),cs[k]? = some (.int .u32 n)->cs'[k]? = some (.int .u32 n)
def SlI.putU{h:aC}{A:Option aR}{xs:List Int}{b:Nat}{cs cs':List aN}{e:aS}(hb:h b=some (.cells cs.toArray e))(hk:A7e cs cs')(s:SlI .u32 h A xs):SlI .u32 (h.put b (.cells cs'.toArray e)) A xs:=by
 rcases s with s|⟨a,j,d⟩
 ·exact .inl s
 ·right
  refine ⟨a,j,fun i v g=>?_⟩
  have c:=d i v g
  obtain ⟨x,rfl⟩:∃ x,v= .int .u32 x:=by
   rw [List.getElem?_map] at g
   cases hy:xs[i]? with
   | none=>rw [hy] at g;cases g
   | some y=>rw [hy] at g;exact ⟨y,(aG g).symm⟩
  by_cases f:a.block=b
  ·unfold Heap.cell? at c ⊢
   rw [Ja] at c ⊢
   rw [f,hb] at c
   rw [f,C0]
   simp only at c ⊢
   split at c
   ·cases c
   ·rename_i k
    rw [iN k]
    rw [List.getElem?_toArray] at c ⊢
    exact hk _ _ c
  ·unfold Heap.cell? at c ⊢
   rw [Ja] at c ⊢
   rw [B9 _ _ f];exact c
def NI.putU{h:aC}{b:Nat}{cs cs':List aN}{e:aS}(hb:h b=some (.cells cs.toArray e))(hk:A7e cs cs'){s:Bool}{A:Option aR}{n c:Nat}{z:Int}(i:NI h s A n c z):NI (h.put b (.cells cs'.toArray e)) s A n c z:=by
 obtain ⟨⟨j,k,g,a⟩,d,f⟩:=i
 exact ⟨⟨j,k,SlI.putU hb hk g,a⟩,d,f⟩
def NQ.putU{h:aC}{b:Nat}{cs cs':List aN}{e:aS}(hb:h b=some (.cells cs.toArray e))(hk:A7e cs cs'){w:QV}{q:Rat}(i:NQ h w q):NQ (h.put b (.cells cs'.toArray e)) w q:=⟨i.num.putU hb hk,i.den.putU hb hk⟩
section
variable {α:Type} [E:Enc α]
def SlF.putB{h:aC}{bb b:Nat}{xs:List α}(s:SlF h (some ⟨bb,0,none⟩) xs)(hne:bb≠b)(x:Obj):SlF (h.put b x) (some ⟨bb,0,none⟩) xs:=by
 rcases s with s|⟨a,f,c⟩
 ·exact .inl s
 ·obtain rfl:=aG f
  refine .inr ⟨_,rfl,fun i v e=>?_⟩
  have d:=c i v e
  unfold Heap.cell? at d ⊢
  rw [Ja] at d ⊢
  rw [B9 _ _ hne];exact d
def C36{xs ys:List α}{ex:List aN}(hno:∀ (x:α) (v:aN),v∈enc x->∀ n:Int,v ≠ .int .u32 n)(hl:xs.length=ys.length):A7e (xs.flatMap enc++ex) (ys.flatMap enc++ex):=by
 intro k n a
 have e:(xs.flatMap enc).length=(ys.flatMap enc).length:=by rw [H9,H9,hl]
 by_cases h:k<(xs.flatMap enc).length
 ·rw [List.getElem?_append_left h] at a
  have b:=List.mem_of_getElem? a
  obtain ⟨x,_,c⟩:=List.mem_flatMap.1 b
  exact absurd rfl (hno x _ c n)
 ·rw [List.getElem?_append_right (by omega)] at a ⊢
  rw [<- e];exact a
def A2u{P:Program}{t:aS}(one:P.cellsOf t=E.default.size/\(P.info? t).isSome=true){v:aN}{y:α}(hv:v.cells=(enc y).toArray){h:aC}{b:Nat}{xs:List α}{e:aS}{ex:List aN}(hb:h b=some (.cells (xs.flatMap enc++ex).toArray e)){i:Nat}(hi:i<xs.length){off:Nat}(hoff:off=i*E.default.size){K:Unit->aC->Prop}
 (x:K () (h.put b (.cells ((xs.set i y).flatMap enc++ex).toArray e))):wpH P (bM t (.pointer (some ⟨b,off,none⟩)) v) K h:=by
 subst hoff
 obtain ⟨l,c⟩:=Option.isSome_iff_exists.1 one.2
 have k:l.size=E.default.size:=by simpa [Program.cellsOf,c] using one.1
 have g:=E.default.len y
 have f:(i+1)*E.default.size<=xs.length*E.default.size:=aK _ hi
 rw [Nat.add_mul,Nat.one_mul] at f
 have a:(h.without b).put b (.cells (xs.flatMap enc++ex).toArray e)=h:=J5 hb
 unfold bM
 simp only [C5,Instr.sureAddr,F8,storeVar,L0 c,k,hv,List.size_toArray,g,ne_eq,not_true_eq_false,if_false]
 rw [<- a]
 refine J0 (enc y) (i*E.default.size) 0 _ (by rw [aE,H9,g];omega) (E.default.one y) ?_
 have d:L6 (xs.flatMap enc++ex) (i*E.default.size+0) (enc y)=(xs.set i y).flatMap enc++ex:=by
  rw [Nat.add_zero,<- Tm xs hi]
  unfold L6
  rw [List.take_append_of_le_length (by rw [H9];omega),List.drop_append_of_le_length (by rw [H9,g];omega),bH,bH,bH]
 rw [d]
 have j:(h.without b).put b (.cells ((xs.set i y).flatMap enc++ex).toArray e)=h.put b (.cells ((xs.set i y).flatMap enc++ex).toArray e):=by
  rw [<- a,Ds,a]
 rw [j]
 exact x
end
def C5p(x:HV)(v:aN)(h:v∈enc x)(n:Int):v ≠ .int .u32 n:=by
 have a:v∈([.slice x.A x.n x.c]:List aN):=h
 rw [List.mem_singleton.1 a];intro e;cases e
def C5j(x:QV)(v:aN)(h:v∈enc x)(n:Int):v ≠ .int .u32 n:=by
 have a:v∈([.bool x.s,.slice x.A x.n x.c,.bool x.s2,.slice x.A2 x.n2 x.c2]:List aN):=h
 rintro rfl
 simp at a
def RowV.putU{h:aC}{b bb:Nat}{cs cs':List aN}{e:aS}(hb:h b=some (.cells cs.toArray e))(hk:A7e cs cs')(hne:bb≠b){n:Nat}{f:Nat->Rat}(r:aI NQr h (some ⟨bb,0,none⟩) n f):aI NQr (h.put b (.cells cs'.toArray e)) (some ⟨bb,0,none⟩) n f:=by
 obtain ⟨g,s,c,q⟩:=r
 refine ⟨g,s.putB hne _,c,fun i a=>?_⟩
 obtain ⟨w,j,d⟩:=q i a
 exact ⟨w,j,NQ.putU hb hk d⟩
def RowV.blk{h:aC}{bb n:Nat}{f:Nat->Rat}(r:aI NQr h (some ⟨bb,0,none⟩) n f)(hn:1<=n):∃ x,h bb=some x:=by
 obtain ⟨a,w,e,_,c0,_⟩:=r.qat (i:=0) (by omega)
 obtain rfl:=aG e
 unfold Heap.cell? at c0
 rw [Ja,Ja] at c0
 cases hx:h bb with
 | none=>rw [hx] at c0;cases c0
 | some x=>exact ⟨x,rfl⟩
def Sn{h h':aC}(l:h.le h'){b:Nat}(hb:h b=none)(x:Obj):h.le (h'.put b x):=fun k y e=>by
 have a:k≠b:=by rintro rfl;rw [hb] at e;cases e
 rw [B9 _ _ a];exact l k y e
structure Scn (hp:aC) (bo:Nat) (rb:Nat->Nat) (n m:Nat) (R:Nat->Nat->Rat) (bx:Nat) (fx:Nat->Rat) (bw:Nat) (fw:Nat->Rat) (bq:Nat) (fq:Nat->Rat):Prop where
 hd:∃ (hd:List HV) (e:aS) (ex:List aN),hp bo=some (.cells (hd.flatMap enc++ex).toArray e)/\hd.length=n/\∀ i,i<n->∃ c,hd[i]? = some ⟨some ⟨rb i,0,none⟩,m,c⟩/\m<=c
 row:∀ i,i<n->aI NQr hp (some ⟨rb i,0,none⟩) m (R i)
 x:aI NQr hp (some ⟨bx,0,none⟩) m fx
 w:aI NQr hp (some ⟨bw,0,none⟩) m fw
 q:∃ (ys:List QV) (e:aS) (ex:List aN),hp bq=some (.cells (ys.flatMap enc++ex).toArray e)/\ys.length=n/\Row NQr hp ys n fq
 no:(∀ i,i<n->rb i≠bo/\rb i≠bq)/\bx≠bo/\bx≠bq/\bw≠bo/\bw≠bq/\bq≠bo
section
variable {h hp:aC} {bo n m bx bw bq:Nat} {rb:Nat->Nat} {R:Nat->Nat->Rat} {fx fw fq:Nat->Rat}
def Scn.rowsV(s:Scn hp bo rb n m R bx fx bw fw bq fq):bB hp (some ⟨bo,0,none⟩) n m R:=by
 obtain ⟨j,e,ex,k,b,f⟩:=s.hd
 refine ⟨j,RowB.slF (o:=hp) ⟨e,ex,k⟩ (B4 _),b,fun i a=>?_⟩
 obtain ⟨c,g,d⟩:=f i a
 exact ⟨_,g,rfl,d,s.row i a⟩
def Scn.qV(s:Scn hp bo rb n m R bx fx bw fw bq fq):aI NQr hp (some ⟨bq,0,none⟩) n fq:=by
 obtain ⟨a,e,ex,c,d,b⟩:=s.q
 exact ⟨a,RowB.slF (o:=hp) ⟨e,ex,c⟩ (B4 _),d,b⟩
end
section
variable {h:aC} {A:Option aR} {xs:List Int}
def law_projects{ac:Nat}{twice free:Bool}(gl:Gl h)(s:SlI .i64 h A xs)(hc:xs.length<=ac):aL prog Di #[.slice A xs.length ac,.bool twice,.bool free] h (C7d h):=by
 refine Me _ _ _ _ _ ?_
 unfold Hl
 refine B2v s hc ?_
 intro b h1 o1 s1 t1 _
 generalize xs.take 400=ys at t1
 refine ⟨_,rfl,Cg (n:=3) s1 t1 (by omega) ?_⟩
 intro n0 h2 o2 di s2 t2 _
 refine ⟨_,rfl,Cg (n:=4) s2 t2 (by omega) ?_⟩
 intro m0 h3 o3 cv s3 t3 _
 have en:B6 (1+(n0:Int))=((1+n0:Nat):Int):=by rw [B8]<;>omega
 have em:B6 (1+(m0:Int))=((1+m0:Nat):Int):=by rw [B8]<;>omega
 refine ⟨_,rfl,?_⟩
 rw [en,em]
 obtain ⟨n,hn⟩:∃ n,n=1+n0:=⟨_,rfl⟩
 obtain ⟨m,hm⟩:∃ m,m=1+m0:=⟨_,rfl⟩
 rw [<- hn,<- hm]
 refine A9y s3 t3 (by omega) (by omega) ?_
 intro E B R h4 g4 o4 l4 m4 t4 V b1 b2 _
 refine ⟨_,_,_,rfl,Yj m4.sep t4 (by omega) (by omega) ?_⟩
 intro bx cx fx h5 g5 o5 l5 s5 t5 rx hx d7 k5
 have Z:∀ k,(k=E\/∃ i,i<n/\k=B i)->k≠b:=by
  rintro k (rfl|⟨i',bh,rfl⟩)
  ·exact b1.symm
  ·exact (b2 i' bh).symm
 have m5:=m4.keep s5 l5 fun k x e hk=>k5 k x (Z k hk) e
 refine ⟨_,_,_,rfl,L8 Ng (zx:=Ao) rfl (by omega) (by omega) (by omega) (by omega) ?_⟩
 intro bw bd
 simp only [aF]
 have fr:∀ k x,o5 k=some x->k≠bw:=by
  rintro k x e rfl
  rw [s5.own k x e] at bd;cases bd
 have s6:=s5.new bd (.cells ((aP m Ao).flatMap enc).toArray D0)
 have m6:=m5.keep s6 (B4 _) fun k x e _=>by rw [B9 _ _ (fr k x e)];exact e
 have t6:=t5.keep (o':=o5.put bw (.cells ((aP m Ao).flatMap enc).toArray D0)) (B4 _) fun x e=>by rw [B9 _ _ (fr b x e)];exact e
 obtain ⟨⟨y0,ce⟩,cm⟩:=m5.own
 have ay:b≠bw:=by obtain ⟨A0,c0,k0,e0,db,_⟩:=t5;exact fr b _ db
 have bg:∀ k,(k=E\/∃ i,i<n/\k=B i)->k≠bw:=by
  rintro k (rfl|⟨i',bh,rfl⟩)
  ·exact fr _ _ ce
  ·obtain ⟨y1,dj⟩:=cm i' bh;exact fr _ _ dj
 refine ⟨_,_,_,rfl,fun L G=>∃ (k:Nat) (g o:aC) (ws:List QV) (f:Nat->Rat),k<=m/\L=[I (k:Int)]/\g5.le g/\Mt G g o E B n m R/\TapeS g o b ys/\RowX o bw ws/\ws.length=m/\Row NQr g ws k f/\∀ i,i<k->Sz 8 (f i)/\0<f i,fun L _=>m-(iAt L 0).toNat,
  ⟨0,g5,_,_,fun _=>0,by omega,rfl,B4 _,m6,t6,RowX.mk,aY,Row.nil,fun i a=>by omega⟩,?_⟩
 clear m6 t6 s6
 rintro z ec ⟨k,g6,o6,ws,T,hk,eL,l6,m6,t6,bf,bt,rr,hw⟩
 obtain rfl:=sI1 eL
 refine B7 (fun d8=>?_) (fun ea=>?_)
 ·refine Xe m6.sep t6 ?_
  intro w q h7 g7 o7 l7 s7 t7 cg iw sq pq
  have dm:RowX o7 bw ws:=bf.keep fun x e=>by rw [cg bw ay.symm];exact e
  refine ⟨_,_,_,_,_,_,_,_,rfl,_,rfl,by omega,by omega,?_⟩
  refine S0 Cq (y:=w) rfl s7 dm (i:=k) (by omega) ?_
  intro h8 o8 x8 cf C af
  rw [wiS k (by omega)]
  refine ⟨⟨k+1,g7,o8,_,fun i=>if i=k then q else T i,by omega,rfl,B0 l6 l7,m6.keep C l7 fun j x e Q=>?_,t7.keep (B4 _) fun x e=>?_,af,by rw [aD];exact bt,Row.set ((rr.mono I9 l7).congr fun i a=>(iN (by omega)).symm) (by omega) (by rw [iP rfl];exact iw),fun i a=>?_⟩,by simp only [Bk];omega⟩
  ·rw [cf,B9 _ _ (bg j Q),cg j (Z j Q)];exact e
  ·rw [cf,B9 _ _ ay];exact e
  ·show Sz 8 (if i=k then q else T i)/\0<(if i=k then q else T i)
   by_cases e:i=k
   ·rw [iP e];exact ⟨sq,pq⟩
   ·rw [iN e];exact hw i (by omega)
 obtain rfl:k=m:=by omega
 obtain ⟨g7,l7,s7,bl⟩:=m6.sep.giveB bf.rowB bt rr
 have m7:=m6.keep s7 l7 fun j x e Q=>by unfold Heap.without;rw [iN (bg j Q)];exact e
 have t7:=t6.keep (o':=o6.without bw) l7 fun x e=>by unfold Heap.without;rw [iN ay];exact e
 refine Us m7.sep t7 (by omega) (by omega) ?_
 intro bb cb yb fb h8 g8 o8 l8 C t8 ba ci cn co b8 d2 k8
 have m8:=m7.keep C l8 fun j x e Q=>(k8 j x (Z j Q) e).1
 obtain ⟨⟨y7,b9⟩,a0⟩:=m7.own
 have bv:bb≠E:=(k8 E _ (Z E (.inl rfl)) b9).2.symm
 have ca:∀ i,i<n->B i≠bb:=fun i a=>by obtain ⟨y,hy⟩:=a0 i a;exact (k8 (B i) _ (Z _ (.inr ⟨i,a,rfl⟩)) hy).2
 have af:=rx.mono I9 (B0 l6 (B0 l7 l8))
 have au:=bl.mono I9 l8
 have aa:h.le g8:=B0 l4 (B0 l5 (B0 l6 (B0 l7 l8)))
 obtain ⟨n1,n3⟩:1<=n/\n<=3:=by omega
 obtain ⟨m1,m3⟩:1<=k/\k<=4:=by omega
 have c4:B6 ((n:Int)-1)=((n-1:Nat):Int):=by rw [B8]<;>omega
 clear hn hm en em di cv t7 s7 m7 bl m6 t6 bf rr m5 m4 t4 t5 s5 k5 fr ay bg cm ce b9 a0 rx
 have og:∀ {g o hq:aC},Sep hq g o->∀ {k2 j:Nat} {x y:Obj},o k2=some x->g j=some y->j≠k2:=fun sp k2 j x y X D e=>by rw [e,sp.dis _ _ X] at D;cases D
 obtain ⟨xx,ao⟩:=af.blk m1
 obtain ⟨xw,aj⟩:=au.blk m1
 obtain ⟨⟨yo,ae⟩,bz⟩:=m8.own
 have cw:∃ x,o8 bb=some x:=by obtain ⟨e,ex,hb⟩:=ba;exact ⟨_,hb⟩
 obtain ⟨d4,S⟩:=cw
 have ck:∀ {hq:aC},o8.le hq->∃ (F:List HV) (e:aS) (ex:List aN),hq E=some (.cells (F.flatMap enc++ex).toArray e)/\F.length=n/\∀ i,i<n->∃ c,F[i]? = some ⟨some ⟨B i,0,none⟩,k,c⟩/\k<=c:=fun lq=>by
  obtain ⟨F,⟨e,ex,hb⟩,X,D⟩:=m8.hd
  exact ⟨F,e,ex,lq _ _ hb,X,D⟩
 have a3:∀ {hq:aC},h8.le hq->∀ i,i<n->aI NQr hq (some ⟨B i,0,none⟩) k (R i):=fun lq i a=>by
  obtain ⟨zs,r,e,q⟩:=m8.row i a
  exact ⟨zs,r.slF (B0 C.ole lq),e,q.mono I9 (B0 C.le lq)⟩
 refine ⟨_,_,_,rfl,fun L G=>∃ (bq cq:Nat) (fq:Nat->Rat),L=[.slice (some ⟨bq,0,none⟩) n cq]/\h.le G/\h E=none/\h bq=none/\Scn G E B n k R bx fx bw T bq fq/\∀ i,i<n->Sz 69 (fq i),?_,?_⟩
 ·have an:h E=none:=by
   cases e:h E with
   | none=>rfl
   | some y=>exact absurd rfl (og C ae (aa _ _ e))
  refine Br.of (fun _=>?_) (fun _=>?_)
  ·refine Yj C t8 (by omega) (by omega) ?_
   intro bu cu fu h9 g9 o9 l9 s9 t9 ru hu dy k9
   have m9:=m8.keep s9 l9 fun j x e Q=>k9 j x (Z j Q) e
   refine ⟨_,_,_,rfl,Vh (m:=8) m9.rowsV (ru.mono I9 s9.le) (by omega) (by omega) V hu (by omega) ?_⟩
   intro bk dg bj
   obtain ⟨d9,dx,cc,cd,az,⟨dq,a7⟩,b5,b0⟩:=bj
   have ak:h9.le dg:=B0 cd az.le
   have am:∀ {j:Nat} {y:Obj},h9 j=some y->j≠bk:=fun e=>og az a7 (cd _ _ e)
   have av:=B0 s9.le ak
   refine ⟨_,_,_,rfl,bk,n,_,rfl,B0 aa (B0 l9 av),an,?_,⟨?_,?_,(af.mono I9 l9).mono I9 av,(au.mono I9 l9).mono I9 av,⟨cc,dq,[],?_,b5,b0.mono I9 az.le⟩,⟨fun i a=>⟨m8.nb i a,?_⟩,og C ae ao,?_,og C ae aj,?_,?_⟩⟩,fun i a=>?_⟩
   ·cases e:h bk with
    | none=>rfl
    | some y=>exact absurd rfl (am (s9.le _ _ (l9 _ _ (aa _ _ e))))
   ·obtain ⟨F,⟨e,ex,hb⟩,X,D⟩:=m9.hd
    exact ⟨F,e,ex,ak _ _ (s9.own _ _ hb),X,D⟩
   ·intro i a
    obtain ⟨zs,r,e,q⟩:=m9.row i a
    exact ⟨zs,r.slF (B0 s9.ole ak),e,q.mono I9 av⟩
   ·rw [List.append_nil];exact az.own _ _ a7
   ·obtain ⟨y,hy⟩:=m9.own.2 i a
    exact am (s9.own _ _ hy)
   ·exact am (s9.le _ _ (l9 _ _ ao))
   ·exact am (s9.le _ _ (l9 _ _ aj))
   ·obtain ⟨y,hy⟩:=m9.own.1
    exact (am (s9.own _ _ hy)).symm
   ·exact (Sq (m:=8) (w:=k) (f:=fun j=>R i j) (f2:=fu) (fun j Q=>V i j a Q) hu k (aH _)).mono (by omega)
  ·obtain ⟨e,ex,hb⟩:=ba
   refine ⟨bb,cb,fb,rfl,B0 aa C.le,an,?_,⟨ck C.ole,a3 (B4 _),af.mono I9 C.le,au.mono I9 C.le,⟨yb,e,ex,C.own _ _ hb,ci,cn.mono I9 C.le⟩,⟨fun i a=>⟨m8.nb i a,ca i a⟩,og C ae ao,og C S ao,og C ae aj,og C S aj,bv⟩⟩,fun i a=>(co i a).mono (by omega)⟩
   cases e:h bb with
   | none=>rfl
   | some y=>exact absurd rfl (og C S (aa _ _ e))
 clear m8 C t8 ba ck a3 og bz af au k8 ci cn co ca bv ae S ao aj l8 aa
 rintro bA d bc p ⟨bq,cq,fq,eL,lh,an,br,O,ah⟩
 simp only [List.cons.injEq,Value.slice.injEq,and_true] at eL
 obtain ⟨rfl,rfl,rfl⟩:=eL
 refine ⟨fun L G=>∃ (R':Nat->Nat->Rat) (fq':Nat->Rat),L=[]/\h.le G/\bB G (some ⟨E,0,none⟩) d k R'/\aI NQr G (some ⟨bq,0,none⟩) d fq'/\aI NQr G (some ⟨bx,0,none⟩) k fx/\aI NQr G (some ⟨bw,0,none⟩) k T/\(∀ i j,i<d->j<k->Sz 8 (R' i j))/\∀ i,i<d->Sz 69 (fq' i),?_,?_⟩
 ·refine Br.of (fun _=>B7 (fun d5=>?_) (fun _=>⟨R,fq,rfl,lh,O.rowsV,O.qV,O.x,O.w,V,ah⟩)) (fun _=>⟨R,fq,rfl,lh,O.rowsV,O.qV,O.x,O.w,V,ah⟩)
  have dw:1<d:=by omega
  obtain ⟨F,e,ex,hb,hl,hh⟩:=O.hd
  obtain ⟨c0,cl,dc⟩:=hh 0 n1
  obtain ⟨zs,D,H,b3,da,cr⟩:=O.q
  obtain ⟨w0,bp,c6⟩:=cr 0 n1
  obtain ⟨ax,c8,c7,c3,dk,b6⟩:=O.no
  have eh:F[0]'(by omega)=⟨some ⟨B 0,0,none⟩,k,c0⟩:=by rw [aV (by omega)] at cl;exact aG cl
  have ez:zs[0]'(by omega)=w0:=by rw [aV (by omega)] at bp;exact aG bp
  have ch:p.cell? (aJ ⟨E,0,none⟩ (((0:Int)).toNat*1))=some (.slice (some ⟨B 0,0,none⟩) k c0):=RowB.cell (o:=p) (xs:=F) ⟨e,ex,hb⟩ (i:=0) (by omega) (j:=0) (by rw [eh];rfl)
  have cz:∀ j v,(enc w0)[j]? = some v->p.cell? (aJ (aJ ⟨bq,0,none⟩ (((0:Int)).toNat*4)) j)=some v:=fun j v hv=>by
   have h0:p.cell? ⟨bq,0*4+j,none⟩=some v:=RowB.cell (o:=p) (xs:=zs) ⟨D,H,b3⟩ (i:=0) (by omega) (j:=j) (v:=v) (by rw [ez];exact hv)
   rw [Nat.zero_mul] at h0
   rw [E6,E6]
   exact h0
  refine ⟨_,rfl,by omega,by omega,_,_,_,ch,_,rfl,by omega,by omega,_,_,_,_,_,_,_,_,cz 0 _ rfl,cz 1 _ rfl,cz 2 _ rfl,cz 3 _ rfl,?_⟩
  rw [c4]
  refine ⟨_,rfl,by omega,by omega,?_⟩
  rw [E6,aF]
  refine A2u A03 (y:=(⟨some ⟨B 0,0,none⟩,k,c0⟩:HV)) rfl hb (i:=d-1) (by omega) (by show 0+(d-1)*1=(d-1)*1;omega) ?_
  refine ⟨_,rfl,by omega,by omega,?_⟩
  rw [E6]
  have W:(p.put E (.cells ((F.set (d-1) (⟨some ⟨B 0,0,none⟩,k,c0⟩:HV)).flatMap enc++ex).toArray e)) bq=some (.cells (zs.flatMap enc++H).toArray D):=by rw [B9 _ _ b6];exact b3
  refine A2u Cq (y:=w0) rfl W (i:=d-1) (by omega) (by show 0+(d-1)*4=(d-1)*4;omega) ?_
  have u1:A7e (F.flatMap enc++ex) ((F.set (d-1) (⟨some ⟨B 0,0,none⟩,k,c0⟩:HV)).flatMap enc++ex):=C36 C5p (by rw [aD])
  have u2:A7e (zs.flatMap enc++H) ((zs.set (d-1) w0).flatMap enc++H):=C36 C5j (by rw [aD])
  have tr:∀ {bb N:Nat} {f:Nat->Rat},bb≠E->bb≠bq->aI NQr p (some ⟨bb,0,none⟩) N f->aI NQr ((p.put E (.cells ((F.set (d-1) (⟨some ⟨B 0,0,none⟩,k,c0⟩:HV)).flatMap enc++ex).toArray e)).put bq (.cells ((zs.set (d-1) w0).flatMap enc++H).toArray D)) (some ⟨bb,0,none⟩) N f:=fun dl de r=>(r.putU hb u1 dl).putU W u2 de
  have cy:(p.put E (.cells ((F.set (d-1) (⟨some ⟨B 0,0,none⟩,k,c0⟩:HV)).flatMap enc++ex).toArray e)).put bq (.cells ((zs.set (d-1) w0).flatMap enc++H).toArray D) E=some (.cells ((F.set (d-1) (⟨some ⟨B 0,0,none⟩,k,c0⟩:HV)).flatMap enc++ex).toArray e):=by rw [B9 _ _ b6.symm,C0]
  refine ⟨fun i=>if i=d-1 then R 0 else R i,fun i=>if i=d-1 then fq 0 else fq i,rfl,Sn (Sn lh an _) br _,⟨_,RowB.slF ⟨e,ex,cy⟩ (B4 _),by rw [aD];exact hl,fun i a=>?_⟩,⟨_,RowB.slF ⟨D,H,C0 _ _ _⟩ (B4 _),by rw [aD];exact da,?_⟩,tr c8 c7 O.x,tr c3 dk O.w,fun i j a Q=>?_,fun i a=>?_⟩
  ·by_cases ei:i=d-1
   ·refine ⟨⟨some ⟨B 0,0,none⟩,k,c0⟩,by rw [ei,List.getElem?_set_self (by omega)],rfl,dc,?_⟩
    show aI NQr _ _ k (if i=d-1 then R 0 else R i)
    rw [iP ei]
    exact tr (ax 0 n1).1 (ax 0 n1).2 (O.row 0 n1)
   ·obtain ⟨c1,h4,h5⟩:=hh i a
    refine ⟨⟨some ⟨B i,0,none⟩,k,c1⟩,by rw [List.getElem?_set_ne (fun x=>ei x.symm)];exact h4,rfl,h5,?_⟩
    show aI NQr _ _ k (if i=d-1 then R 0 else R i)
    rw [iN ei]
    exact tr (ax i a).1 (ax i a).2 (O.row i a)
  ·have dh:Row NQr ((p.put E (.cells ((F.set (d-1) (⟨some ⟨B 0,0,none⟩,k,c0⟩:HV)).flatMap enc++ex).toArray e)).put bq (.cells ((zs.set (d-1) w0).flatMap enc++H).toArray D)) zs d fq:=fun i a=>by
    obtain ⟨w,X,hw⟩:=cr i a
    exact ⟨w,X,NQ.putU W u2 (NQ.putU hb u1 hw)⟩
   exact dh.upd (by omega) (NQ.putU W u2 (NQ.putU hb u1 c6))
  ·show Sz 8 ((if i=d-1 then R 0 else R i) j)
   split
   ·exact V 0 j n1 Q
   ·exact V i j a Q
  ·show Sz 69 (if i=d-1 then fq 0 else fq i)
   split
   ·exact ah 0 n1
   ·exact ah i a
 clear O ah V an br lh
 rintro dv ⟨R,fb,_,lh,rs,B,rx,cj,V,ar⟩
 have d1:d*k<=3*4:=bK n3 m3
 refine B01 (m:=8) rs (by omega) m1 (by omega) n1 V (by omega) ?_
 intro A11 ef d6 cs ds c5
 refine ⟨_,_,_,_,_,rfl,Ej (m:=69) (B.mono I9 cs) (by omega) ar (by omega) ?_⟩
 intro d0 eg al
 have bm:=al.le
 have a4:=B0 cs bm
 refine ⟨_,_,_,rfl,Ej (m:=8) (rx.mono I9 a4) (by omega) hx (by omega) ?_⟩
 intro dz ed ai
 have bi:=ai.le
 have a5:=B0 a4 bi
 refine ⟨_,_,_,rfl,Ej (m:=8) (cj.mono I9 a5) (by omega) (fun i a=>(hw i a).1) (by omega) ?_⟩
 intro ee c9 ap
 have aw:=ap.le
 have a1:=B0 a5 aw
 have b7:=B0 lh a1
 have mk:MOk (d:Int) (k:Int) (d*k) (Qm R k) d k:=⟨rfl,rfl,n1,by omega,m1,by omega,rfl,fun i _=>⟨_,rfl⟩⟩
 have dn:PChk (d:Int) (k:Int) (d*k) (Qm R k) d (fun i=>I8 (fb i)) k (fun i=>I8 (fx i)) k (fun i=>I8 (T i)) 0:=.inr (.inr (.inr ⟨⟨⟨_,_,mk⟩,fun i _=>⟨_,rfl⟩,fun i _=>⟨_,rfl⟩,fun i _=>⟨_,rfl⟩⟩,⟨rfl,rfl,rfl⟩,fun i a=>by rw [D9];exact (hw i a).2,rfl⟩))
 obtain ⟨M,hM⟩:∃ M,M=mtx (rvs (Qm R k)) k:=⟨_,rfl⟩
 have be:∀ i j,j<k->M i j=R i j:=fun i j Q=>by rw [hM];exact B3m R Q
 have eC:∀ t j,t<k->prC M T t j=prC R T t j:=fun t j J=>by unfold prC;rw [be j t J]
 have eE:prE k d M T=prE k d R T:=funext fun l=>D6 fun t J=>by rw [be _ t J,eC t _ J]
 have eR:prR k M fb fx=prR k R fb fx:=funext fun i=>congrArg (fun z=>fb i-z) (D6 fun t J=>by rw [be _ t J])
 have q3:∀ i,i<d->Sz 700 (prR k R fb fx i):=fun i a=>(C3j (s:=8) (k:=69) (by omega) V ar (fun t J=>(hx t J).mono (by omega)) i a).mono (by omega)
 have df:=B7a (s:=8) (sx:=69) (se:=700) (nq:=3) (b:=fb) (by omega) V (fun t J=>(hw t J).1) (fun t J=>(hx t J).mono (by omega)) (.inr n3) (by omega) (by omega) q3
 refine ⟨_,_,_,rfl,FCall.mono (A1d (K:=fun v G=>∃ zA zn zc e0,v= .tuple #[.slice zA zn zc,I e0]/\c9.le G/\((¬ Ha (prE k d R T) (prR k R fb fx) d d/\e0=8/\zn=0)\/(Ha (prE k d R T) (prR k R fb fx) d d/\e0=0/\zn=k/\aI SSr G zA k (fun i=>I8 (prZ d R T fx (A2x (prE k d R T) (prR k R fb fx) d d) i))))) (s:=8) (sx:=69) (gl.mono b7) (c5.mono L7 (B0 bm (B0 bi aw))) ((al.vis L7).mono L7 (B0 bi aw)) ((ai.vis L7).mono L7 aw) (ap.vis L7) (by omega) (by omega) (by omega) (by omega) (fun i a=>B3n V (by omega) a) (fun i a=>by have:=Bn (ar i a);omega) (fun i a=>by have:=Bn (hx i a);omega) (fun i a=>by have:=Bn (hw i a).1;omega) (by omega) (by omega) (by omega) (fun i a=>B7l V a) (fun i a=>by rw [D9];exact (hw i a).1) (fun i a=>by rw [D9];exact ar i a) (fun i a=>by rw [D9];exact (hx i a).mono (by omega)) (fun a6 a8 ct X D e3=>?_) (fun e h' l x b8=>absurd (x.eq dn) b8) (fun a6 a8 ct x X D e3 ag h' l=>?_) (fun a6 a8 ct x X D e3 ad A14 d3 h' l rz=>?_)) ?_⟩
 ·subst X D
  rw [T1,T1,<- hM,eR]
  refine ⟨700,3,.inr n3,by omega,by omega,q3,?_,by omega,by omega,by omega⟩
  unfold bnd
  omega
 ·subst X D
  rw [T1,T1,T1,<- hM,eE,eR] at ag
  exact ⟨_,_,_,_,rfl,l,.inl ⟨ag,rfl,rfl⟩⟩
 ·subst X D
  rw [T1,T1,T1,<- hM,eE,eR] at ad
  rw [T1,T1,T1,<- hM,eE,eR] at rz
  refine ⟨_,_,_,_,rfl,l,.inr ⟨ad,rfl,rfl,rz.congr fun i a=>congrArg I8 ?_⟩⟩
  unfold prZ
  exact congrArg (fun z=>fx i+z) (D6 fun j _=>by rw [eC i j a])
 rintro eb du ⟨zA,zn,zc,e0,rfl,dr,hz⟩
 have u:=B0 a1 dr
 have a9:=B0 lh u
 have kn:∀ {hq:aC} {K2:Bool->aC->Prop},h.le hq->K2 true hq->aL prog Oq #[] hq (fun r G=>∃ t,r= .bool t/\K2 t G):=fun l k=>B09 (gl.mono l) ⟨_,rfl,k⟩
 refine ⟨_,_,_,_,rfl,A0p (s:=8) (sx:=69) (se:=700) (nq:=3) (RowsV.mono u rs) (B.mono I9 u) (rx.mono I9 u) (cj.mono I9 u) n1 (by omega) m1 (by omega) (by omega) (by omega) V (fun t J=>(hw t J).1) ar (fun t J=>(hx t J).mono (by omega)) (.inr n3) (by omega) (by omega) q3 (by omega) (by omega) (by omega) (fun ad b' h' l rz=>⟨_,_,_,_,rfl,Br.nt ?_⟩) (fun ag h' l=>⟨_,_,_,_,rfl,Pq ?_⟩)⟩
 ·have aq:=B0 a9 l
  refine kn aq (K2:=fun t G=>Br t _ _) (Br.of (fun _=>?_) (fun e=>by cases e))
  rcases hz with ⟨ag,_⟩|⟨_,rfl,rfl,r0⟩
  ·exact absurd ad ag
  refine E4 (fun _=>?_) (fun e=>absurd rfl e)
  refine Ej rz (by omega) df (by omega) ?_
  intro b4 h4 a2
  have l4:=a2.le
  refine ⟨_,_,_,rfl,B2h (r0.mono L7 (B0 l l4)) (a2.vis L7) (by omega) (fun _ _=>⟨_,rfl,rfl,B0 aq l4⟩) (fun hx=>absurd ⟨rfl,fun i _=>rfl⟩ hx)⟩
 ·have aq:=B0 a9 l
  refine kn aq (K2:=fun t G=>Br t _ _) (Br.of (fun _=>?_) (fun e=>by cases e))
  rcases hz with ⟨_,rfl,rfl⟩|⟨ad,_⟩
  ·exact E4 (fun _=>⟨rfl,aq⟩) (fun e=>absurd rfl e)
  ·exact absurd ad ag
end
