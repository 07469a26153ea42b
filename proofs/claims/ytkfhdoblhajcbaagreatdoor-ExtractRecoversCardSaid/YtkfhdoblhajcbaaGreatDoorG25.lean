/- A part. -/
import Derived.Test.YtkfhdoblhajcbaaGreatDoorG24
open Go.Proofs.Tryz
set_option linter.all false
open _root_.Go.Addr renaming add->aH
open Bool renaming and_eq_true->cD
open _root_.Go.Builtin renaming append_->bO,copy_->dH
open Classical renaming byContradiction->dF
open _root_.Go.Instr renaming storeAt->aV,buildSlice->bG
open Int renaming toNat_natCast->aC,natCast_mul->bK,tdiv_eq_ediv_of_nonneg->bV,tdiv->dE
open List renaming replicate->aE,getElem?_cons_zero->aF,getElem?_cons_succ->aI,range->aJ,length_replicate->aQ,range_succ->aZ,getElem?_eq_getElem->bH,sum_append->bI,map_append->bJ,not_mem_nil->bN,mem_cons->bX,getElem?_replicate->bZ,getD->cC,map_congr_left->cJ,length_flatMap->cK,take_succ_eq_append_getElem->cN,append_assoc->cO,take_length->cT,all_eq_true->cU,length_set->cW,length_map->cX,mem_range->dB,getD_eq_getElem?_getD->dC
open List.cons renaming injEq->aR
open Nat renaming le_refl->aD,mul_le_mul->aL,mul_le_mul_right->aM,zero_mul->aX,div_lt_of_lt_mul->aY,zero_add->bD,le_trans->bF,mul_comm->bU,one_mul->bW,pow_le_pow_right->cH,add_mul->cI,mod_lt->cL,lt_trichotomy->cM,mod_eq_of_lt->cQ,div_eq_of_lt->cR,mul_one->cV,add_mul_mod_self_right->cZ,add_zero->dM,add_comm->dN
open Rat renaming mul_zero->bC,mul_inv_cancel->bL,mul_nonneg->cF,div_def->cG,divInt->cY,mul_assoc->dG,zero_mul->dI,zero_add->dJ,mul_comm->dK,add_zero->dL
open _root_.Go.Value renaming string->aO
open _root_.Go.Value.int renaming injEq->aT
open _root_.Go.Value.slice renaming injEq->aS
open _root_.Go renaming Addr->aK,Value->aP,TypeId->aW,Program->bM
open _root_.Go.Proofs.YtkfhdoblhajcbaaGreatDoor renaming Heap->aG,FCall->aN,RowV->aU,SliceT->bY
namespace Go.Proofs.YtkfhdoblhajcbaaGreatDoor
set_option maxRecDepth 20000
open Go
def SolvO(r c:Int)(n:Nat)(la:Nat->List UInt8)(n2:Nat)(lx:Nat->List UInt8)(o:VOut):Prop:=
 (¬ (Mx r c n la/\∀ i,i<n2->IsNum (lx i))/\o=noV 1)\/(Mx r c n la/\(∀ i,i<n2->IsNum (lx i))/\(n2:Int)≠r/\o=noV 4)\/(∃ rows cols,MOk r c n la rows cols/\(∀ i,i<n2->IsNum (lx i))/\(n2:Int)=r/\((Bv (rvs la) (rvs lx) rows cols/\o=⟨cols,fun i=>E7 (Pc (rvs la) (rvs lx) rows cols i),0⟩)\/(¬ Bv (rvs la) (rvs lx) rows cols/\o=noV 8)))
def SolvO.eq{r c:Int}{n n2:Nat}{la lx:Nat->List UInt8}{o p:VOut}(x:SolvO r c n la n2 lx o)(y:SolvO r c n la n2 lx p):o=p:=by
 rcases x with ⟨h1,rfl⟩|⟨h1,h2,h3,rfl⟩|⟨r1,c1,h1,h2,h3,h4⟩<;>rcases y with ⟨g1,rfl⟩|⟨g1,g2,g3,rfl⟩|⟨r2,c2,g1,g2,g3,g4⟩
 ·rfl
 ·grind
 ·exact absurd ⟨⟨_,_,g1⟩,g2⟩ h1
 ·grind
 ·rfl
 ·omega
 ·exact absurd ⟨⟨_,_,h1⟩,h2⟩ g1
 ·omega
 ·obtain rfl:r2=r1:=by have:=h1.er;have:=g1.er;omega
  obtain rfl:c2=c1:=by have:=h1.ec;have:=g1.ec;omega
  grind
def C16(r c:Int)(n:Nat)(la:Nat->List UInt8)(n2:Nat)(lx:Nat->List UInt8)(e:Int)(ny:Nat)(fy:Nat->List UInt8):Prop:=
 (e≠8/\ny=0)\/(e=8/\∃ rows cols,MOk r c n la rows cols/\(∀ i,i<n2->IsNum (lx i))/\(n2:Int)=r/\¬ Bv (rvs la) (rvs lx) rows cols/\ny=rows/\fy=fun i=>E7 (Pc (A19 (rvs la) (rvs lx) rows cols) (B0t cols) (cols+1) rows i))
def A3j{E b:Nat->Rat}{rows cols m nq:Nat}(hs:∀ i,i<rows*cols->Sz m (E i))(hb:∀ i,i<rows->Sz m (b i))(hm:1<=m)(hnq:(Kf E b rows cols).cs.length<=nq):∀ j,Sz (7^nq*m) (Pc E b rows cols j):=
 A73 (m:=m) (Vx nq m hm) (A8v (n:=rows) (w:=cols+1) (c:=cols) (A8c (Vg hs hb)) hm o hnq (aD _)).1
def A79{E b:Nat->Rat}{rows cols m:Nat}(hr:1<=rows)(hs:∀ i,i<rows*cols->Sz m (E i))(hb:∀ i,i<rows->Sz m (b i)):∀ i,i<(cols+1)*rows->Sz m (A19 E b rows cols i):=by
 intro i a
 unfold A19
 by_cases e:i<cols*rows
 ·rw [iP e]
  refine hs _ (Q4 (cL i o) (aY gz0))
 grind
def A7b{cols m:Nat}(hm:1<=m):∀ i,i<cols+1->Sz m (B0t cols i):=by
 intro i _
 unfold B0t
 split
 ·exact ⟨ZB.one hm,ZB.one hm⟩
 ·exact Sz.zero hm
section
variable {h:aG} {K:VP} {A B:Option aK} {n n2 cap cap2 m:Nat} {r c:Int} {la lx:Nat->List UInt8}
def Zo(gl:Gl h)(ra:aU SSr h A n la)(rx:aU SSr h B n2 lx)(hn:n<=1000000)(hn2:n2<=1000000)(hl:LL n la)(hl2:LL n2 lx)(hs:∀ i,i<n->Sz m (rv (la i)))(hs2:∀ i,i<n2->Sz m (rv (lx i)))(hm1:1<=m)
 (hb1:∀ rows cols,MOk r c n la rows cols->∃ nq nk,(∀ j,j<=cols->(elE (P8 (rvs la) (rvs lx) cols) rows (cols+1) j).cs.length<=nq)/\(∀ j,j<=rows->(elE (P8 (A19 (rvs la) (rvs lx) rows cols) (B0t cols) rows) (cols+1) (rows+1) j).cs.length<=nk)/\2*(3^nq*bnd (cols+1) m)+1<=40000000/\2*(3^nk*bnd (rows+1) m)+1<=40000000/\7^nq*m<=40000000/\7^nk*m<=40000000)
 (hK:∀ o,SolvO r c n la n2 lx o->∀ ny fy,C16 r c n la n2 lx o.e ny fy->∀ A' cap' A2 cap2' h',h.le h'->aU SSr h' A' o.n o.f->aU SSr h' A2 ny fy->K (.tuple #[.slice A' o.n cap',.slice A2 ny cap2',I o.e]) h'):aN prog 111 #[Hy r c A n cap,.slice B n2 cap2] h K:=by
 refine (fnk func111 (own:=[2])) ?_
 have F:¬ (Mx r c n la/\∀ i,i<n2->IsNum (lx i))->∀ h',h.le h'->K (.tuple #[.slice none 0 0,.slice none 0 0,I 1]) h':=fun hx h' l=>hK (noV 1) (.inl ⟨hx,rfl⟩) 0 (fun _=>[]) (.inl ⟨dc,rfl⟩) none 0 none 0 h' l RowV.nil RowV.nil
 refine U3 gl ra hn hl (fun rows cols mk b1 h1 own=>?_) (fun g h1 s=>⟨_,_,_,_,rfl,?_⟩)
 ·have s:=own.le
  refine ⟨_,_,_,_,rfl,Cb (gl.mono s) (rx.mono E8 s) hn2 hl2 (fun d b2 D a=>⟨_,_,_,_,rfl,Br.nt (Br.nt ?_)⟩) (fun g D C=>⟨_,_,_,_,rfl,Br.nt (Xp (F (fun x=>g x.2) D (B0 s C)))⟩)⟩
  have C:=a.le
  have p:=B0 s C
  refine E6 (fun e=>hK (noV 4) (.inr (.inl ⟨⟨_,_,mk⟩,d,e,rfl⟩)) 0 (fun _=>[]) (.inl ⟨dc,rfl⟩) none 0 none 0 D p RowV.nil RowV.nil) (fun e=>?_)
  have N:=fun x=>hK ⟨cols,fun i=>E7 (Pc (rvs la) (rvs lx) rows cols i),0⟩ (.inr (.inr ⟨rows,cols,mk,d,e,.inl ⟨x,rfl⟩⟩)) 0 (fun _=>[]) (.inl ⟨show (0:Int)≠8 from dc,rfl⟩)
  have ah:=fun w=>hK (noV 8) (.inr (.inr ⟨rows,cols,mk,d,e,.inr ⟨w,rfl⟩⟩)) rows (fun i=>E7 (Pc (A19 (rvs la) (rvs lx) rows cols) (B0t cols) (cols+1) rows i)) (.inr ⟨rfl,rows,cols,mk,d,e,w,rfl,rfl⟩)
  obtain ⟨nq,nk,u1,u2,k1,k2,k3,k4⟩:=hb1 rows cols mk
  obtain rfl:n2=rows:=by have:=mk.er;omega
  obtain ⟨rfl,rfl,_,_,_,_,rfl,_⟩:=id mk
  have hX:=A3j hs hs2 hm1 (u1 cols (aD _))
  refine Ku (nq:=nq) (E:=rvs la) (b:=rvs lx) (m:=m) (gl.mono p) ((own.vis G1).mono G1 C) (aD _) (a.vis G1) (aD _) oo oo oo oo hs hs2 u1 k1 (fun M b3 h3 H S=>⟨_,_,_,_,rfl,?_⟩) (fun g h3 H=>⟨_,_,_,_,rfl,?_⟩)
  ·refine U2 (m:=7^nq*m) (gl.mono (B0 p H)) S oo (fun i _=>hX i) k3 ?_
   intro b4 h4 t
   exact ⟨_,_,_,rfl,N M _ _ none 0 h4 (B0 p (B0 H t.le)) (t.vis E8) RowV.nil⟩
  ·refine Kt ((own.vis G1).mono G1 (B0 C H)) oo oo ?_
   intro A4 c4 h4 g4 o4 xs l4 s4 ac u ai
   refine ⟨_,_,_,rfl,?_⟩
   have W:=B0 p (B0 H l4)
   obtain ⟨ys,sy,ag,qy⟩:=(a.vis G1).mono G1 (B0 H l4)
   refine OwnSl.app (ty:=232) Xq s4 ac u.symm ag.symm gz0 (sy.mono s4.le) oo oo ?_
   intro A5 c5 h5 g5 o5 l5 Q L _
   refine ⟨_,_,_,rfl,?_⟩
   have e2:n2*cols+n2=(cols+1)*n2:=gz0
   have G:(xs++ys).length=(cols+1)*n2:=gz0
   have r5:aU RQr h5 A5 ((cols+1)*n2) (A19 (rvs la) (rvs lx) n2 cols):=by
    refine ⟨xs++ys,L.slF Q.ole,G,?_⟩
    rw [<- e2]
    refine Row.app u (((ai.mono G1 l5).mono G1 Q.le).congr fun k hk=>?_) (((qy.mono G1 l5).mono G1 Q.le).congr fun k hk=>?_)
    ·unfold A19
     grind
    ·unfold A19
     rw [bU cols n2,iN oo,Nat.add_sub_cancel_left]
   have af:(cols+1)*n2<=c5:=by have:=L.1;omega
   have aj:=B0 W (B0 l5 Q.le)
   rw [u,e2]
   have ew:C3 ((cols:Int)+1)=((cols+1:Nat):Int):=B9 oo oo
   rw [ew]
   refine J2 Xq (zx:=S8) rfl oo oo oo oo ?_
   intro b6 ad
   have s6:=(Sep.refl h5).new ad (.cells ((aE (cols+1) S8).flatMap enc).toArray 244)
   refine ⟨_,_,_,rfl,s6.call (In ⟨oo,oo⟩ ?_)⟩
   intro w7 g7 V i7 h7 s7
   refine ⟨_,_,_,_,_,_,_,_,rfl,s6.le_le s7 V,_,rfl,oo,oo,?_⟩
   refine S5 Eg (y:=w7) rfl s7 RowX.mk (i:=cols) gz0 ?_
   intro h8 o8 x8 al R ae
   have z:=B0 aj (B0 V R.le)
   have T:=B0 V R.le
   have r0:Row RQr g7 (aE (cols+1) S8) (cols+1) (fun _=>0):=fun i hi=>⟨S8,gz0,RQ.zero⟩
   have r8:aU RQr h8 (some ⟨b6,0,none⟩) (cols+1) (B0t cols):=⟨_,ae.rowB.slF R.ole,gz0,((r0.upd gz0 i7).mono G1 R.le)⟩
   have X:=A3j (A79 oo hs hs2) (A7b (cols:=cols) hm1) hm1 (u2 n2 (aD _))
   refine Ku (nq:=nk) (E:=A19 (rvs la) (rvs lx) n2 cols) (b:=B0t cols) (rows:=cols+1) (cols:=n2) (m:=m) (gl.mono z) (r5.mono G1 T) af r8 (aD _) oo oo oo oo (A79 oo hs hs2) (A7b hm1) u2 k2 (fun M b9 h9 l9 S=>⟨_,_,_,_,rfl,?_⟩) (fun O _ _=>absurd (B6j g) O)
   refine U2 (m:=7^nk*m) (gl.mono (B0 z l9)) S oo (fun i _=>X i) k4 ?_
   intro ak aa q
   exact ⟨_,_,_,rfl,ah g none 0 _ _ aa (B0 z (B0 l9 q.le)) RowV.nil (q.vis E8)⟩
 ·refine Cb (gl.mono s) (rx.mono E8 s) hn2 hl2 (fun d b2 D a=>⟨_,_,_,_,rfl,Xp (F (fun x=>g x.1) D (B0 s a.le))⟩) (fun _ D C=>⟨_,_,_,_,rfl,Xp (F (fun x=>g x.1) D (B0 s C))⟩)
def A2h(gl:Gl h)(ra:aU SSr h A n la)(rx:aU SSr h B n2 lx)(hn:n<=1000000)(hn2:n2<=1000000)(hl:LL n la)(hl2:LL n2 lx)(hs:∀ i,i<n->Sz m (rv (la i)))(hs2:∀ i,i<n2->Sz m (rv (lx i)))(hm1:1<=m)
 (hb1:∀ rows cols,MOk r c n la rows cols->2*(3^cols*bnd (cols+1) m)+1<=40000000/\2*(3^rows*bnd (rows+1) m)+1<=40000000/\7^cols*m<=40000000/\7^rows*m<=40000000)
 (hK:∀ o,SolvO r c n la n2 lx o->∀ ny fy,C16 r c n la n2 lx o.e ny fy->∀ A' cap' A2 cap2' h',h.le h'->aU SSr h' A' o.n o.f->aU SSr h' A2 ny fy->K (.tuple #[.slice A' o.n cap',.slice A2 ny cap2',I o.e]) h'):aN prog 111 #[Hy r c A n cap,.slice B n2 cap2] h K:=Zo gl ra rx hn hn2 hl hl2 hs hs2 hm1 (fun rows cols mk=>⟨cols,rows,fun j a=>bF (V6 _ rows j).1 a,fun j a=>bF (V6 _ (cols+1) j).1 a,hb1 rows cols mk⟩) hK
end
end Go.Proofs.YtkfhdoblhajcbaaGreatDoor
namespace Go.Proofs.YtkfhdoblhajcbaaGreatDoor
set_option maxRecDepth 20000
def ldA(A:Nat->Nat->Rat):Nat->Nat->Nat->Rat
 | 0=>A
 | k+1=>fun i j=>if ldA A k k k=0 then ldA A k i j else ldA A k i j-ldA A k i k*(ldA A k k j/ldA A k k k)
def Qb(A:Nat->Nat->Rat)(n k:Nat):Prop:=0<=ldA A k k k/\(ldA A k k k=0->∀ i,k<i->i<n->ldA A k i k=0)
def ldL(A:Nat->Nat->Rat)(i k:Nat):Rat:=if i=k then 1 else if i<k then 0 else if ldA A k k k=0 then 0 else ldA A k i k/ldA A k k k
def ldD(A:Nat->Nat->Rat)(k:Nat):Rat:=ldA A k k k
def A11(n:Nat)(A:Nat->Nat->Rat):Prop:=∀ i j,i<n->j<n->A i j=A j i
def B1d{A:Nat->Nat->Rat}{n:Nat}(hs:A11 n A):∀ k,k<=n->A11 n (ldA A k):=by
 intro k
 induction k with
 | zero=>exact fun _=>hs
 | succ k ih=>
  intro c i j b a
  have h:=ih o
  show (if ldA A k k k=0 then ldA A k i j else _)=(if ldA A k k k=0 then ldA A k j i else _)
  split
  ·exact h i j b a
  ·rw [h i j b a,h i k b o,h k j o a]
   grind
def A44{A:Nat->Nat->Rat}{n:Nat}(hs:A11 n A):∀ k,k<=n->(∀ m,m<k->Qb A n m)->∀ i j,i<n->j<n->i<k\/j<k->ldA A k i j=0:=by
 intro k
 induction k with
 | zero=>omega
 | succ k ih=>
  intro g a i j q l h
  have d:=B1d hs k o
  obtain ⟨_,p⟩:=a k o
  have row:ldA A k k k=0->∀ b,b<n->ldA A k k b=0:=fun e b f=>by
   rcases cM b k with c|c|c
   ·grind
   ·grind
   ·rw [d k b o f];grind
  show (if ldA A k k k=0 then ldA A k i j else _)=0
  grind
structure LdR (n k:Nat) (A:Nat->Nat->Rat) (s:ES):Prop where
 len:s.cs.length<=k
 low:∀ i j,k<=i->i<n->j<n->s.R i j=ldA A k i j
 zero:∀ i j,s.cs.length<=i->i<k->j<n->s.R i j=0
def LdR.row{n k:Nat}{A:Nat->Nat->Rat}{s:ES}(h:LdR n k A s)(hk:k<n)(hne:ldA A k k k≠0):Iu n k s=k:=by
 have c:=h.len
 refine Uo _ c o (fun j a b=>?_) fun _=>?_
 ·rw [h.zero j k a b hk];decide
 ·rw [h.low k k (aD _) hk hk];grind
def LdR.none{n k:Nat}{A:Nat->Nat->Rat}{s:ES}(h:LdR n k A s)(hk:k<n)(he:ldA A k k k=0)(hok:Qb A n k):Iu n k s=n:=by
 have d:=h.len
 refine Uo _ o o (fun j a b=>?_) fun c=>by omega
 by_cases c:j<k
 ·rw [h.zero j k a c hk];decide
 ·rw [h.low j k o b hk]
  by_cases e:j=k
  ·grind
  ·rw [hok.2 he j o b];decide
def LdR.step{n k:Nat}{A:Nat->Nat->Rat}{s:ES}(hs:A11 n A)(hk:k<n)(hok:∀ m,m<=k->Qb A n m)(h:LdR n k A s):LdR n (k+1) A (Cp n k s):=by
 have y:=h.len
 have z:=A44 hs k o fun m p=>hok m o
 have t:=A44 hs (k+1) o fun m p=>hok m o
 unfold Cp
 rw [iP (show s.cs.length<n from o)]
 by_cases e:ldA A k k k=0
 ·rw [h.none hk e (hok k (aD _)),iN (Nat.lt_irrefl n)]
  refine ⟨gz0,fun i j f a d=>?_,fun i j f g d=>?_⟩
  ·show s.R i j=(if ldA A k k k=0 then ldA A k i j else _)
   rw [iP e];exact h.low i j o a d
  ·show s.R i j=0
   by_cases c:i=k
   ·rw [c,h.low k j (aD _) hk d]
    have:=t k j hk d (.inl o)
    rw [show ldA A (k+1) k j=(if ldA A k k k=0 then ldA A k k j else ldA A k k j-ldA A k k k*(ldA A k k j/ldA A k k k)) from rfl,iP e] at this
    exact this
   ·exact h.zero i j f o d
 ·rw [h.row hk e,iP hk]
  have w:(s.cs++[k]).length=s.cs.length+1:=by simp
  have q:=Jo s.cs.length k
  refine ⟨gz0,fun i j f a d=>?_,fun i j f g d=>?_⟩
  ·show elimE (fun i=>s.R (xch s.cs.length k i)) s.cs.length k i j=(if ldA A k k k=0 then ldA A k i j else _)
   have u:xch s.cs.length k i=i:=by unfold xch;grind
   unfold elimE
   simp only [q,u]
   rw [h.low i k o a hk,h.low i j o a d,h.low k j (aD _) hk d,h.low k k (aD _) hk hk]
   grind
  ·show elimE (fun i=>s.R (xch s.cs.length k i)) s.cs.length k i j=0
   have r:(s.cs++[k]).length<=i:=f
   have B:∀ b,b<n->s.R (xch s.cs.length k i) b=0:=fun b l=>by
    unfold xch
    rw [iN o]
    split
    ·exact h.zero _ b (aD _) o l
    ·exact h.zero i b o o l
   unfold elimE
   grind
def LdR.run{n:Nat}{A:Nat->Nat->Rat}(hs:A11 n A):∀ k,k<=n->(∀ m,m<k->Qb A n m)->LdR n k A (Ps n ⟨A,[],1⟩ k):=by
 intro k
 induction k with
 | zero=>exact fun _ _=>⟨aD _,fun _ _ _ _ _=>rfl,fun i j _ h _=>o⟩
 | succ k ih=>exact fun c a=>LdR.step hs o (fun m b=>a m o) (ih o fun m b=>a m o)
def qf(n:Nat)(A:Nat->Nat->Rat)(x:Nat->Rat):Rat:=sm n fun i=>x i*sm n fun j=>A i j*x j
def B4y{A:Nat->Nat->Rat}{i k:Nat}(h:i<k):ldL A i k=0:=by unfold ldL;grind
def B4x(A:Nat->Nat->Rat)(k:Nat):ldL A k k=1:=by unfold ldL;grind
end Go.Proofs.YtkfhdoblhajcbaaGreatDoor
namespace Go.Proofs.YtkfhdoblhajcbaaGreatDoor
set_option maxRecDepth 20000
def Yp{n:Nat}{f:Nat->Rat}(h:∀ i,i<n->0<=f i):0<=sm n f:=by
 induction n with
 | zero=>exact Rat.le_refl
 | succ n ih=>
  show 0<=sm n f+f n
  have a:=ih fun i b=>h i o
  have c:=h n o
  grind
def Cq{n:Nat}{f:Nat->Rat}(h:∀ i,i<n->0<=f i)(hz:sm n f<=0):∀ i,i<n->f i=0:=by
 induction n with
 | zero=>intro i a;omega
 | succ n ih=>
  have e:sm (n+1) f=sm n f+f n:=rfl
  rw [e] at hz
  have b:=Yp fun i (a:i<n)=>h i o
  have d:=h n o
  intro i a
  by_cases c:i=n
  ·rw [c];grind
  ·exact ih (fun i a=>h i o) gz0 i o
def ev(n:Nat)(f x:Nat->Rat):Rat:=sm n fun j=>f j*x j
structure Diag (n:Nat) (A:Nat->Nat->Rat) (d:Nat->Rat) (F:Nat->Nat->Rat):Prop where
 val:∀ x,qf n A x=sm n fun m=>d m*(ev n (F m) x*ev n (F m) x)
 inj:∀ x,(∀ m,m<n->ev n (F m) x=0)->∀ j,j<n->x j=0
structure PD (n k:Nat) (A0:Nat->Nat->Rat) (d:Nat->Rat) (F A:Nat->Nat->Rat):Prop where
 val:∀ x,qf n A0 x=sm k (fun m=>d m*(ev n (F m) x*ev n (F m) x))+qf n A (fun i=>ev n (F i) x)
 inj:∀ x,(∀ m,m<n->ev n (F m) x=0)->∀ j,j<n->x j=0
 zero:∀ i j,i<n->j<n->i<k\/j<k->A i j=0
 symm:A11 n A
end Go.Proofs.YtkfhdoblhajcbaaGreatDoor
namespace Go.Proofs.YtkfhdoblhajcbaaGreatDoor
set_option maxRecDepth 20000
structure TE (n k:Nat) (R:Nat->Nat->Rat) (M:Nat->Nat->Int) (S:Nat->Rat) (last:Int):Prop where
 elim:∃ B R',(∀ i j,i<n->j<n->Wh (B i j))/\Elim n n B R' (fun m=>m) k/\(last:Rat)=dp B (fun m=>m) k/\∀ i j,k<=i->i<n->j<n->R' i j=S i*R i j
 ne:last≠0
 val:∀ i j,k<=i->i<n->j<n->(M i j:Rat)=last*(S i*R i j)
 scale:∀ i,k<=i->i<n->0<S i
end Go.Proofs.YtkfhdoblhajcbaaGreatDoor
namespace Go.Proofs.YtkfhdoblhajcbaaGreatDoor
set_option maxRecDepth 20000
def B2i(k:Nat)(f:Nat->Rat):∀ l,sm (k+l) f=sm k f+sm l fun j=>f (k+j):=by
 intro l
 induction l with
 | zero=>show sm k f=sm k f+0;rw [dL]
 | succ l ih=>
  show sm (k+l) f+f (k+l)=sm k f+(sm l (fun j=>f (k+j))+f (k+l))
  rw [ih,Rat.add_assoc]
end Go.Proofs.YtkfhdoblhajcbaaGreatDoor
namespace Go.Proofs.YtkfhdoblhajcbaaGreatDoor
set_option maxRecDepth 20000
end Go.Proofs.YtkfhdoblhajcbaaGreatDoor
namespace Go.Proofs.YtkfhdoblhajcbaaGreatDoor
set_option maxRecDepth 20000
section
variable {m n s k Y:Nat} {M:Nat->Nat->Rat} {w b x y:Nat->Rat}
end
end Go.Proofs.YtkfhdoblhajcbaaGreatDoor
namespace Go.Proofs.YtkfhdoblhajcbaaGreatDoor
set_option maxRecDepth 20000
def O1{cs:List Nat}{m:Nat}(h:m<cs.length):cs.getD m 0∈cs:=by
 rw [dC,bH h]
 exact List.getElem_mem h
def A85{R:Nat->Nat->Rat}{cs:List Nat}{c:Nat}(hc:c∉cs):∀ k,k<=cs.length->∀ j,A2d R cs c k j=(if j=c then 1 else 0)+A7n (fun m=> - R m c) cs k j:=by
 intro k
 induction k with
 | zero=>intro _ j;show (if j=c then (1:Rat) else 0)=_+0;rw [dL]
 | succ k ih=>
  intro f j
  have b:=ih o j
  have a:cs.getD k 0≠c:=fun e=>hc (e▸O1 o)
  show (if j=cs.getD k 0 then-R k c else A2d R cs c k j)=(if j=c then 1 else 0)+(if j=cs.getD k 0 then-R k c else A7n (fun m=> - R m c) cs k j)
  by_cases e:j=cs.getD k 0
  ·rw [iP e,iP e,iN (fun d=>a (by rw [<- e,d])),dJ]
  ·rw [iN e,iN e,b]
def Wn{M:Nat->Nat->Rat}{n w l:Nat}(hl:l<(Jh (ecE M n w).cs w).length){i:Nat}(hi:i<n):sm w (fun t=>M i t*B4z (ecE M n w).R (ecE M n w).cs w l t)=0:=by
 have h:=EqA.run (n:=n) (w:=w) M w (aD w)
 have d:Asc (ecE M n w).cs w:=Ek n ⟨M,[],1⟩ rfl w
 obtain ⟨f,q⟩:=Lj (ecE M n w).cs w _ (O1 hl)
 unfold B4z
 generalize (Jh (ecE M n w).cs w).getD l 0=c at *
 obtain ⟨B,E,z,_⟩:=h.elim
 have r:=h.zero
 change ZrE n w (ecE M n w) at r
 change Elim n w B (ecE M n w).R (fun m=>(ecE M n w).cs.getD m 0) (ecE M n w).cs.length at E
 generalize ecE M n w=s at *
 obtain ⟨a,b,e⟩:=z i hi
 have g:∀ j,j<w->B a j=sm s.cs.length fun m=>B a (s.cs.getD m 0)*s.R m j:=fun j p=>by
  by_cases u:a<s.cs.length
  ·exact E.top a j u p
  ·rw [E.bot a j b o p,r a j b o p,dJ]
 have y:sm w (fun t=>M i t*A2d s.R s.cs c s.cs.length t)=sm w (fun t=>B a t*(if t=c then 1 else 0)+B a t*Tu (fun _=>0) (fun m=> - s.R m c) 0 s.cs t):=C4 fun t _=>by
  rw [A85 q s.cs.length (aD _) t,Vw,<- e t]
  grind
 rw [y,Bi,U9 f fun t _ k=>by rw [iN k,bC],iP rfl,Rat.mul_one,A70 _ _ (A0t d) d.lt,g c f]
 have A:(sm s.cs.length fun m=>B a (s.cs.getD m 0) * - s.R m c)= - sm s.cs.length fun m=>B a (s.cs.getD m 0)*s.R m c:=by
  rw [<- Ke]
  exact C4 fun m _=>by grind
 rw [A]
 grind
def N5(E:Nat->Rat)(n:Nat):Nat->Rat:=fun k=>if k%(n+n)<n then E (k/(n+n)*n+k%(n+n)) else if k%(n+n)=n+k/(n+n) then 1 else 0
def Hc(E:Nat->Rat){n i j:Nat}(hj:j<n+n):N5 E n (i*(n+n)+j)=if j<n then E (i*n+j) else if j=n+i then 1 else 0:=by
 have b:(i*(n+n)+j)/(n+n)=i:=by rw [dN,Nat.add_mul_div_right _ _ o,cR hj,bD]
 have a:(i*(n+n)+j)%(n+n)=j:=by rw [dN,cZ,cQ hj]
 unfold N5
 grind
def A36{E:Nat->Rat}{n m:Nat}(hm:1<=m)(hs:∀ i,i<n*n->Sz m (E i)):∀ i,i<n*(n+n)->Sz m (N5 E n i):=by
 intro i b
 have a:i/(n+n)<n:=aY gz0
 unfold N5
 split
 ·rename_i h;exact hs _ (Q4 a h)
 ·split
  ·exact ⟨ZB.one hm,ZB.one hm⟩
  ·exact Sz.zero hm
def Mh(E:Nat->Rat)(n:Nat):Prop:=(elE (N5 E n) n (n+n) n).cs.length=n
def Rn(E:Nat->Rat)(n:Nat):Nat->Nat->Rat:=fun i j=>(elE (N5 E n) n (n+n) n).R i (n+j)
def InvO(r c:Int)(n:Nat)(la:Nat->List UInt8)(o:MOut):Prop:=
 (¬ Mx r c n la/\o=noM 1)\/(Mx r c n la/\r≠c/\o=noM 4)\/(∃ q,MOk r c n la q q/\((Mh (rvs la) q/\o=⟨r,r,q*q,O7 (Rn (rvs la) q) q,0⟩)\/(¬ Mh (rvs la) q/\o=noM 7)))
def InvO.eq{r c:Int}{n:Nat}{la:Nat->List UInt8}{o p:MOut}(x:InvO r c n la o)(y:InvO r c n la p):o=p:=by
 rcases x with ⟨h1,rfl⟩|⟨h1,h2,rfl⟩|⟨q1,h1,h4⟩<;>rcases y with ⟨g1,rfl⟩|⟨g1,g2,rfl⟩|⟨q2,g1,g4⟩
 ·rfl
 ·grind
 ·exact absurd ⟨_,_,g1⟩ h1
 ·grind
 ·rfl
 ·exact absurd (by rw [g1.er,g1.ec]) h2
 ·exact absurd ⟨_,_,h1⟩ g1
 ·exact absurd (by rw [h1.er,h1.ec]) g2
 ·obtain rfl:q2=q1:=by have:=h1.er;have:=g1.er;omega
  grind
section
variable {h:aG} {K:VP} {A:Option aK} {n cap m:Nat} {r c:Int} {la:Nat->List UInt8}
def Wi(gl:Gl h)(ra:aU SSr h A n la)(hn:n<=1000000)(hl:LL n la)(hs:∀ i,i<n->Sz m (rv (la i)))(hm1:1<=m)(hb:∀ q,MOk r c n la q q->2*(3^q*bnd (q+q) m)+1<=40000000)
 (hK:∀ o,InvO r c n la o->∀ A' cap' h',h.le h'->aU SSr h' A' o.n o.f->K (.tuple #[Hy o.r o.c A' o.n cap',I o.e]) h'):aN prog 148 #[Hy r c A n cap] h K:=by
 refine (fnk func148 [(9,[7,35],[],[.slice none 0 0,I 0]),(22,[14,80],[],[.slice none 0 0,I 0]),(25,[14,89],[],[.slice none 0 0,I 0])] (own:=[1,2,12,17]) (wr:=[152])) ?_
 refine U3 gl ra hn hl (fun rows cols mk b1 p own=>?_) (fun a7 p l1=>⟨_,_,_,_,rfl,Xp (hK (noM 1) (.inl ⟨a7,rfl⟩) none 0 p l1 RowV.nil)⟩)
 have l1:=own.le
 refine ⟨_,_,_,_,rfl,Br.nt (E6 (fun e=>hK (noM 4) (.inr (.inl ⟨⟨_,_,mk⟩,e,rfl⟩)) none 0 p l1 RowV.nil) (fun e=>?_))⟩
 obtain rfl:rows=cols:=by have:=mk.er;have:=mk.ec;omega
 have ar:=fun x=>hK ⟨r,r,rows*rows,O7 (Rn (rvs la) rows) rows,0⟩ (.inr (.inr ⟨rows,mk,.inl ⟨x,rfl⟩⟩))
 have bn:=fun x=>hK (noM 7) (.inr (.inr ⟨rows,mk,.inr ⟨x,rfl⟩⟩))
 have bz:=hb rows mk
 have:=mk.r1;have:=mk.r2
 obtain ⟨rfl,rfl,_,_,_,_,rfl,_⟩:=id mk
 clear e
 have ba:=own.vis G1
 have b2:rows*rows<=64*64:=aL oo oo
 have bw:rows*(rows+rows)<=64*128:=aL oo oo
 refine ⟨fun L hp=>∃ (k:Nat) (g o:aG) (xs:List QV) (A':Option aK) (F:Nat),k<=rows/\L=[.slice A' (k*(rows+rows)) F,I (k:Int)]/\p.le g/\Sep hp g o/\OwnSl o 244 A' F xs/\xs.length=k*(rows+rows)/\Row RQr g xs (k*(rows+rows)) (N5 (rvs la) rows),fun L _=>rows-(iAt L 1).toNat,
  ⟨0,p,Fe,[],none,0,oo,gz0,B6 _,Sep.refl p,OwnSl.nil,by simp,by rw [aX];exact Row.nil⟩,?_⟩
 rintro wA wn wc z hp ⟨k,g,o,xs,A',F,hk,eL,lg,s,ow,D,rr⟩
 obtain ⟨⟨rfl,rfl,rfl⟩,rfl⟩:=sI2 eL
 refine C0 (fun aq=>?_) (fun bk=>?_)
 ·have C:k<rows:=oo
  have h2:(k+1)*rows<=rows*rows:=aM _ C
  have W:(k+1)*rows=k*rows+rows:=gz0
  have h4:(k+1)*(rows+rows)=k*(rows+rows)+rows+rows:=gz0
  have h5:(k+1)*(rows+rows)<=rows*(rows+rows):=aM _ C
  have e0:C3 ((k:Int)+1)=((k+1:Nat):Int):=B9 oo oo
  have e1:C3 ((k:Int)*(rows:Int))=((k*rows:Nat):Int):=by rw [<- bK];exact K3 oo
  have e2:C3 (C3 ((k:Int)+1)*(rows:Int))=(((k+1)*rows:Nat):Int):=by rw [e0,<- bK];exact K3 oo
  rw [e1,e2,e0]
  refine ⟨⟨oo,oo⟩,⟨oo,oo⟩,?_⟩
  simp only [aC]
  have e5:(k+1)*rows-k*rows=rows:=oo
  rw [e5]
  have row:aU RQr p (T9 (some ⟨b1,0,none⟩) (rows*rows) (k*rows) 4) rows (fun j=>rvs la (k*rows+j)):=ba.cut (c:=rows*rows) (l:=k*rows) (k:=rows) oo (aD _)
  obtain ⟨ys,sy,a,qy⟩:=row
  refine OwnSl.app (ty:=232) Xq s ow D.symm a.symm gz0 (sy.mono (B0 lg s.le)) oo oo ?_
  intro A2 c2 b6 g2 o2 l2 s2 bf _
  have an:=B0 lg l2
  have ae:(xs++ys).length=k*(rows+rows)+rows:=gz0
  have r1:Row RQr g2 (xs++ys) (k*(rows+rows)+rows) (N5 (rvs la) rows):=by
   refine Row.app D (rr.mono G1 l2) ((qy.mono G1 an).congr fun j hj=>?_)
   rw [Hc (rvs la) oo,iP hj]
  refine ⟨_,_,_,rfl,?_⟩
  rw [D]
  refine J2 Xq (zx:=S8) rfl oo oo oo oo ?_
  intro Q ac
  simp only [aC]
  have ob:∀ q x,o2 q=some x->q≠Q:=by
   rintro q x e rfl
   rw [s2.own q x e] at ac;cases ac
  refine ⟨_,_,_,rfl,Sep.call (s2.new ac _) (In ⟨oo,oo⟩ ?_)⟩
  intro wd g4 l4 a3 b7 s4
  have one:((1:Int):Rat)=1:=rfl
  rw [one] at a3
  refine ⟨_,_,_,_,_,_,_,_,rfl,_,rfl,oo,oo,?_⟩
  refine S5 Eg (y:=wd) rfl s4 RowX.mk (i:=k) gz0 ?_
  intro b5 o5 x5 a9 s5 bo
  have a8:∀ k,k≠Q->o5 k=o2 k:=fun k hk=>by rw [a9,B7 _ _ hk,B7 _ _ hk]
  have r0:Row RQr g4 (aE rows S8) rows (fun _=>0):=fun i hi=>⟨S8,gz0,RQ.zero⟩
  have ru:Row RQr g4 ((aE rows S8).set k wd) rows (fun i=>if i=k then 1 else 0):=r0.upd gz0 a3
  obtain ⟨g8,l8,s8⟩:=s5.give (o2:=o2) (fun k x e=>gz0)
  have be:o2 Q=none:=by
   cases hx:o2 Q with
   | none=>rfl
   | some y=>grind
  have bh:RowX g8 Q ((aE rows S8).set k wd):=bo.keep fun x e=>by rw [<- s8.rest Q be];exact s5.own Q x e
  have bm:((aE rows S8).set k wd).length=rows:=gz0
  generalize (aE rows S8).set k wd=us at *
  refine OwnSl.app (ty:=232) Xq s8 bf ae.symm bm.symm gz0 ((bh.rowB.slF (B6 _)).mono s8.le) oo oo ?_
  intro A9 c9 h9 g9 o9 l9 s9 bc _
  rw [ae]
  have aw:=B0 l4 (B0 l8 l9)
  refine ⟨_,_,_,rfl,⟨k+1,g9,o9,_,A9,c9,oo,by rw [h4],B0 an aw,s9,bc,gz0,?_⟩,?_⟩
  ·rw [h4]
   refine Row.app ae (r1.mono G1 aw) ((ru.mono G1 (B0 l8 l9)).congr fun j hj=>?_)
   have ej:k*(rows+rows)+rows+j=k*(rows+rows)+(rows+j):=oo
   rw [ej,Hc (rvs la) (i:=k) (j:=rows+j) oo,iN (show ¬ rows+j<rows from oo)]
   grind
  ·show rows-((k+1:Nat):Int).toNat<rows-(k:Int).toNat
   omega
 have C:k=rows:=oo
 subst C
 have ew:C3 (2*(k:Int))=((k+k:Nat):Int):=by rw [B9]<;>omega
 rw [ew]
 have a4:=B0 l1 (B0 lg s.le)
 have rq:aU RQr hp wA (k*(k+k)) (N5 (rvs la) k):=⟨xs,ow.slF s.ole,D,rr.mono G1 s.le⟩
 have ay:=A36 hm1 hs
 refine Ip (E:=N5 (rvs la) k) (cc:=k) (m:=m) (gl.mono a4) rq (by have:=ow.1;omega) oo oo oo oo oo ay oo ?_
 intro T h2 N l2 e1 e2
 refine ⟨_,rfl,FCall.mono N ?_⟩
 rintro r3 W ⟨g3,o3,A3,br,w,l3,t3,bg,bi,az,rfl⟩
 refine ⟨_,_,_,_,_,_,_,_,rfl,?_⟩
 have X:=A0d (E:=N5 (rvs la) k) (rows:=k) (cols:=k+k) (c:=k) ay oo
 have a6:=Wz (N5 (rvs la) k) k (k+k) k (bnd (k+k) m)
 have ah:=A2q (N5 (rvs la) k) k (k+k) k
 have O:(elE (N5 (rvs la) k) k (k+k) k).cs.length=k->∀ i j,i<k->j<k->cY ((elP (N5 (rvs la) k) k (k+k) k).M i (k+j)) (elP (N5 (rvs la) k) k (k+k) k).last=Rn (rvs la) k i j:=fun al i j hi hj=>A4e (N5 (rvs la) k) oo hi oo (.inl oo)
 have al:(elE (N5 (rvs la) k) k (k+k) k).cs.length<=k/\(elE (N5 (rvs la) k) k (k+k) k).cs.length<=k:=V6 _ k k
 rw [A2r _ oo]
 have ad:h.le W:=B0 a4 (B0 l3 t3.sep.le)
 refine C0 (fun aq=>bn (fun hx=>by unfold Mh at hx;omega) none 0 W ad RowV.nil) (fun bk=>?_)
 have B:(elE (N5 (rvs la) k) k (k+k) k).cs.length=k:=oo
 have ax:=O B
 have af:=ar B
 clear O
 generalize elP (N5 (rvs la) k) k (k+k) k=st at *
 have ai:=X.M
 have V:=X.last
 clear X
 generalize 3^st.cs.length*bnd (k+k) m=bb at ai V a6
 have iw:ZIr W w st.last:=Cu _ _ _ _ t3.sep.le az
 have u:∀ g',W.le g'->∃ gT,Tab g' gT o3 T st.M st.S:=fun g' l=>by
  obtain ⟨gT,l',s'⟩:=t3.sep.after l
  exact ⟨gT,t3.next s' l'⟩
 clear t3 bg bi az N
 have a5:C3 ((k:Int)*(k:Int))=((k*k:Nat):Int):=by rw [<- bK];exact K3 oo
 rw [a5]
 refine J2 Xq (zx:=S8) rfl oo oo oo oo ?_
 intro b4 bp
 simp only [aC]
 refine ⟨_,_,_,rfl,fun L hp=>∃ (i:Nat) (g o:aG) (xs:List QV) (A':Option aK) (F:Nat),i<=k/\L=[.slice A' (i*k) F,I (i:Int)]/\W.le g/\Sep hp g o/\OwnSl o 244 A' F xs/\xs.length=i*k/\Row RQr g xs (i*k) (fun t=>Rn (rvs la) k (t/k) (t%k)),fun L _=>k-(iAt L 1).toNat,
  ⟨0,W,Fe.put b4 _,[],some ⟨b4,0,none⟩,k*k,oo,gz0,B6 _,Bc bp,Od,by simp,by rw [aX];exact Row.nil⟩,?_⟩
 rintro vA vn vc z bl ⟨i,g5,o5,am,A5,c5,hi,eL,b,s5,ao,H,a1⟩
 obtain ⟨⟨rfl,rfl,rfl⟩,rfl⟩:=sI2 eL
 refine C0 (fun aq=>?_) (fun a0=>?_)
 ·have a2:i<k:=oo
  have ap:(i+1)*k=i*k+k:=gz0
  have bv:(i+1)*k<=k*k:=aM _ a2
  obtain ⟨gT,tT⟩:=u g5 b
  refine s5.call (V3 tT (i:=i) oo ?_)
  intro h6 s6
  have b8:=B0 b s6.le
  rw [e2]
  refine ⟨_,_,_,rfl,⟨oo,oo⟩,?_⟩
  simp only [aC,Nat.add_sub_cancel]
  refine ⟨fun L hp=>∃ (j:Nat) (g o:aG) (xs:List QV) (A':Option aK) (F:Nat),j<=k/\L=[.slice A' (i*k+j) F,I (j:Int)]/\g5.le g/\Sep hp g o/\OwnSl o 244 A' F xs/\xs.length=i*k+j/\Row RQr g xs (i*k+j) (fun t=>Rn (rvs la) k (t/k) (t%k)),fun L _=>k-(iAt L 1).toNat,
   ⟨0,g5,o5,am,_,_,oo,rfl,B6 _,s6,ao,H,a1⟩,?_⟩
  rintro qA qn qc z bx ⟨j,g7,o7,ys,A7,c7,hj,eL,d,s7,av,a,aj⟩
  obtain ⟨⟨rfl,rfl,rfl⟩,rfl⟩:=sI2 eL
  refine C0 (fun bt=>?_) (fun a0=>?_)
  ·have aa:j<k:=oo
   obtain ⟨bu,ag⟩:=u g7 (B0 b d)
   obtain ⟨wv,zv,c0,c1⟩:=ag.at (i:=i) (j:=k+j) oo oo
   rw [D6,D6,e2] at c0 c1
   have bd:k<T.cE-i*(k+k):=by
    have p:=ag.cE
    rw [e1,e2] at p
    grind
   rw [Lr bd]
   have ak:∀ x,aH (aH (aH ⟨T.bE,i*(k+k)*2,none⟩ (k*2)) (j*2)) x=⟨T.bE,i*(k+k)*2+(k+j)*2+x,none⟩:=fun x=>by rw [D6,D6,D6];grind
   refine ⟨_,rfl,oo,oo,_,_,_,_,by simp only [aC];rw [ak];exact C1 s7.le c0,by simp only [aC];rw [ak];exact C1 s7.le c1,?_⟩
   refine s7.call (O2 (gl.mono (B0 ad (B0 b d))).tz (Cu _ _ _ _ ag.sep.le zv) (Cu _ _ _ _ (B0 b d) iw) (ai _ _ oo oo) V oo ?_)
   intro w9 g9 l9 i9 h9 s9
   rw [ax i j a2 aa] at i9
   refine ⟨_,_,_,_,_,_,_,_,rfl,?_⟩
   refine O5 (ty:=232) Xq s9 av a.symm (y:=w9) rfl dc oo oo ?_
   intro A8 c8 h8 g8 o8 l8 s8 bj _
   rw [a,wiS j oo]
   refine ⟨⟨j+1,g8,o8,_,A8,c8,oo,by rw [Nat.add_assoc],B0 d (B0 l9 l8),s8,bj,gz0,?_⟩,?_⟩
   ·have rB:=Row.push (R:=RQr) (g:=g8) (xs:=ys) (f:=fun t=>Rn (rvs la) k (t/k) (t%k)) (by rw [a];exact aj.mono G1 (B0 l9 l8)) (w:=w9) (by
     show RQ g8 w9 (Rn (rvs la) k (ys.length/k) (ys.length%k))
     rw [a,dN (i*k) j,cZ,cQ aa,Nat.add_mul_div_right _ _ oo,cR aa,bD]
     exact G1 _ _ _ _ l8 i9)
    grind
   ·show k-((j+1:Nat):Int).toNat<k-(j:Int).toNat
    omega
  ·have:j=k:=oo
   subst this
   rw [wiS i oo,<- ap]
   rw [<- ap] at a aj
   refine ⟨⟨i+1,g7,o7,ys,qA,qc,oo,rfl,B0 b d,s7,av,a,aj⟩,?_⟩
   show j-((i+1:Nat):Int).toNat<j-(i:Int).toNat
   omega
 ·have:i=k:=oo
  subst this
  have au:=B0 ad (B0 b s5.le)
  have bq:aU RQr bl vA (i*i) (fun t=>Rn (rvs la) i (t/i) (t%i)):=⟨am,ao.slF s5.ole,H,a1.mono G1 s5.le⟩
  refine Jb (m:=bb) (gl.mono au) bq oo (fun t ht=>?_) oo ?_
  ·have p:t/i<i:=aY ht
   have h2:=cL t (show 0<i from oo)
   rw [<- ax _ _ p h2]
   exact S1 ah (ai _ _ oo oo) V
  intro b9 h9 G
  exact ⟨_,_,_,_,_,rfl,af _ _ h9 (B0 au G.le) (G.vis E8)⟩
end
def Pr{n w:Nat}{M M':Nat->Nat->Rat}(h:∀ i j,i<n->j<w->M i j=M' i j):∀ c,c<=w->(Ps n ⟨M,[],1⟩ c).cs=(Ps n ⟨M',[],1⟩ c).cs/\∀ i j,i<n->j<w->(Ps n ⟨M,[],1⟩ c).R i j=(Ps n ⟨M',[],1⟩ c).R i j:=by
 intro c
 induction c with
 | zero=>exact fun _=>⟨rfl,h⟩
 | succ c ih=>
  intro p
  obtain ⟨e,d⟩:=ih o
  have k:Ps n ⟨M,[],1⟩ (c+1)=Cp n c (Ps n ⟨M,[],1⟩ c):=rfl
  have m:Ps n ⟨M',[],1⟩ (c+1)=Cp n c (Ps n ⟨M',[],1⟩ c):=rfl
  rw [k,m]
  generalize Ps n ⟨M,[],1⟩ c=s at *
  generalize Ps n ⟨M',[],1⟩ c=t at *
  have l:Iu n c s=Iu n c t:=by
   unfold Iu
   rw [e]
   exact A06 _ _ fun j _ _=>by rw [d j c o o]
  unfold Cp
  rw [l,e]
  by_cases a:t.cs.length<n
  ·rw [iP a,iP a]
   by_cases b:Iu n c t<n
   ·rw [iP b,iP b]
    refine ⟨rfl,fun i j g f=>?_⟩
    show elimE (fun i=>s.R (xch t.cs.length (Iu n c t) i)) t.cs.length c i j=elimE (fun i=>t.R (xch t.cs.length (Iu n c t) i)) t.cs.length c i j
    unfold elimE
    simp only [d _ c (Hz a b g) (show c<w from o),d _ c (Hz a b a) (show c<w from o),d _ j (Hz a b g) f,d _ j (Hz a b a) f]
   ·rw [iN b,iN b]
    exact ⟨rfl,d⟩
  ·rw [iN a,iN a]
   exact ⟨e,d⟩
def L9(n:Nat)(a:Rat)(f:Nat->Rat):sm n (fun i=>f i*a)=sm n f*a:=by
 rw [dK,<- J9]
 exact C4 fun i _=>dK _ _
def Wa{R:Nat->Nat->Rat}{cs:List Nat}{c:Nat}(hc:c∉cs):∀ k,k<=cs.length->A2d R cs c k c=1:=by
 intro k
 induction k with
 | zero=>intro _;show (if c=c then (1:Rat) else 0)=1;rw [iP rfl]
 | succ k ih=>
  intro a
  show (if c=cs.getD k 0 then-R k c else A2d R cs c k c)=1
  rw [iN (fun e=>hc (by rw [e];exact O1 o)),ih o]
def A5q{E:Nat->Rat}{n:Nat}(h:∀ x:Nat->Rat,(∀ i,i<n->sm n (fun t=>mtx E n i t*x t)=0)->∀ t,t<n->x t=0):Mh E n:=by
 have g:=(Pr (n:=n) (w:=n) (M:=mtx (N5 E n) (n+n)) (M':=mtx E n) (fun i j _ k=>by
  show N5 E n (i*(n+n)+j)=_
  rw [Hc E o,iP k]
  rfl) n (aD n)).1
 show (Ps n ⟨mtx (N5 E n) (n+n),[],1⟩ n).cs.length=n
 rw [g]
 have l:=(V6 (mtx E n) n n).1
 refine dF fun a=>?_
 have b:Asc (ecE (mtx E n) n n).cs n:=Ek n ⟨mtx E n,[],1⟩ rfl n
 have f:0<(Jh (ecE (mtx E n) n n).cs n).length:=by
  rw [Rr b]
  have:(ecE (mtx E n) n n).cs.length≠n:=a
  omega
 obtain ⟨d,e⟩:=Lj (ecE (mtx E n) n n).cs n _ (O1 f)
 have c:=h _ (fun i m=>Wn (M:=mtx E n) (n:=n) (w:=n) f m) _ d
 unfold B4z at c
 rw [Wa e _ (aD _)] at c
 exact absurd c dc
def B95(M:Nat->Nat->Rat)(cs:List Nat):Nat->Rat:=fun k=>M (cs.getD (k/cs.length) 0) (cs.getD (k%cs.length) 0)
def A3v(M:Nat->Nat->Rat)(cs:List Nat){a b:Nat}(hb:b<cs.length):mtx (B95 M cs) cs.length a b=M (cs.getD a 0) (cs.getD b 0):=by
 obtain ⟨d,c⟩:=dm1 (i:=a) hb
 show M (cs.getD ((a*cs.length+b)/cs.length) 0) (cs.getD ((a*cs.length+b)%cs.length) 0)=_
 rw [d,c]
def A7t(M:Nat->Nat->Rat)(n:Nat):∀ i,i<n->∀ j,j<n->M i j=sm (ecE M n n).cs.length fun m=>M i ((ecE M n n).cs.getD m 0)*(ecE M n n).R m j:=fun i p j c=>by
 have eq:=EqA.run (n:=n) (w:=n) M n (aD n)
 have d:=(V6 M n n).2
 obtain ⟨B,E,l,_⟩:=eq.elim
 have f:=eq.zero
 change ZrE n n (ecE M n n) at f
 change Elim n n B (ecE M n n).R (fun m=>(ecE M n n).cs.getD m 0) (ecE M n n).cs.length at E
 generalize ecE M n n=s at *
 obtain ⟨b,a,e⟩:=l i p
 have k:(sm s.cs.length fun m=>M i (s.cs.getD m 0)*s.R m j)=sm s.cs.length fun m=>B b (s.cs.getD m 0)*s.R m j:=C4 fun m _=>by rw [e]
 rw [k,<- e j]
 by_cases g:b<s.cs.length
 ·exact E.top b j g c
 ·rw [E.bot b j a o c,f b j a o c,dJ]
def A7u{M:Nat->Nat->Rat}{n:Nat}(hs:A11 n M):Mh (B95 M (ecE M n n).cs) (ecE M n n).cs.length:=by
 refine A5q fun x G t f=>?_
 have eq:=EqA.run (n:=n) (w:=n) M n (aD n)
 have y:=(V6 M n n).2
 have a:∀ k,k<(ecE M n n).cs.length->(ecE M n n).cs.getD k 0<n:=fun k A=>eq.lt _ (O1 A)
 have p:=A7t M n
 obtain ⟨B,E,N,_⟩:=eq.elim
 obtain ⟨T,u⟩:=eq.comb
 change Elim n n B (ecE M n n).R (fun m=>(ecE M n n).cs.getD m 0) (ecE M n n).cs.length at E
 change ∀ i j,i<n->j<n->(ecE M n n).R i j=sm n fun l=>T i l*M l j at u
 generalize ecE M n n=s at *
 have d:∀ j,j<n->sm s.cs.length (fun b=>M j (s.cs.getD b 0)*x b)=0:=fun j z=>by
  have H:∀ b,b<s.cs.length->M j (s.cs.getD b 0)=sm s.cs.length fun m=>M (s.cs.getD b 0) (s.cs.getD m 0)*s.R m j:=fun b c=>by
   rw [hs j _ z (a b c)]
   exact p _ (a b c) j z
  have D:(sm s.cs.length fun b=>M j (s.cs.getD b 0)*x b)=sm s.cs.length fun b=>sm s.cs.length fun m=>s.R m j*(M (s.cs.getD m 0) (s.cs.getD b 0)*x b):=C4 fun b c=>by
   rw [H b c,<- L9]
   exact C4 fun m q=>by rw [hs _ _ (a b c) (a m q)];grind
  rw [D,T6]
  refine N8 fun m q=>?_
  rw [J9]
  have:=G m q
  have L:(sm s.cs.length fun t=>mtx (B95 M s.cs) s.cs.length m t*x t)=sm s.cs.length fun b=>M (s.cs.getD m 0) (s.cs.getD b 0)*x b:=C4 fun b c=>by rw [A3v M s.cs c]
  rw [L] at this
  rw [this,bC]
 have r:(sm s.cs.length fun b=>s.R t (s.cs.getD b 0)*x b)=0:=by
  have C:(sm s.cs.length fun b=>s.R t (s.cs.getD b 0)*x b)=sm s.cs.length fun b=>sm n fun l=>T t l*(M l (s.cs.getD b 0)*x b):=C4 fun b c=>by
   rw [u t _ o (a b c),<- L9]
   exact C4 fun l _=>by grind
  rw [C,T6]
  refine N8 fun l F=>?_
  rw [J9,d l F,bC]
 rw [U9 f fun b c g=>by rw [E.piv t b f c,iN fun e=>g e.symm,dI],E.piv t t f f,iP rfl,Rat.one_mul] at r
 exact r
end Go.Proofs.YtkfhdoblhajcbaaGreatDoor
namespace Go.Proofs.YtkfhdoblhajcbaaGreatDoor
set_option maxRecDepth 20000
structure LUS where
 R:Nat->Nat->Rat
 L:Nat->Nat->Rat
 p:Nat->Nat
def B6h(n c:Nat)(s:LUS):Nat:=fnd (fun i=>decide (s.R i c≠0)) (n-c) c
def B9e(R:Nat->Nat->Rat)(c:Nat):Nat->Nat->Rat:=fun i j=>if i<=c\/j<c then R i j else R i j-R i c/R c c*R c j
def B9g(R L:Nat->Nat->Rat)(c:Nat):Nat->Nat->Rat:=fun i j=>if j=c then (if i=c then 1 else if c<i then R i c/R c c else 0) else L i j
def B9f(n c:Nat)(s:LUS):LUS:=
 { R:=B9e (fun i=>s.R (xch c (B6h n c s) i)) c
   L:=B9g (fun i=>s.R (xch c (B6h n c s) i)) (fun i=>s.L (xch c (B6h n c s) i)) c
   p:=fun i=>s.p (xch c (B6h n c s) i) }
def B9h(n:Nat)(M:Nat->Nat->Rat):Nat->LUS
 | 0=>⟨M,fun _ _=>0,fun i=>i⟩
 | c+1=>B9f n c (B9h n M c)
structure LuI (n c m:Nat) (M:Nat->Nat->Rat) (s:LUS):Prop where
 zero:∀ i j,i<n->c<=i->j<c->s.R i j=0
 lz:∀ i j,c<=j->s.L i j=0
 szR:∀ i j,i<n->j<n->Sz (7^c*m) (s.R i j)
 szL:∀ i j,i<n->j<n->Sz (7^c*m) (s.L i j)
 len:(Ps n ⟨M,[],1⟩ c).cs.length=c
 sync:∀ i j,i<n->c<=i->(Ps n ⟨M,[],1⟩ c).R i j=s.R i j
def inM(bo:Nat)(rb:Nat->Nat)(n x:Nat):Prop:=x=bo\/∃ i,i<n/\x=rb i
structure Lu3 (h g o:aG) (bu:Nat) (ru:Nat->Nat) (bl:Nat) (rl:Nat->Nat) (bp n:Nat) (U L:Nat->Nat->Rat) (p:Nat->Nat):Prop where
 u:Mt h g o bu ru n n U
 l:Mt h g o bl rl n n L
 p:∃ ps:List Int,RowB o bp ps/\ps.length=n/\∀ i,i<n->ps[i]? = some ((p i:Nat):Int)
 ul:∀ x,inM bu ru n x->¬ inM bl rl n x
 pu:¬ inM bu ru n bp
 pl:¬ inM bl rl n bp
section
variable {h g o:aG} {bu bl bp n:Nat} {ru rl:Nat->Nat} {U L:Nat->Nat->Rat} {p:Nat->Nat}
end
structure LOut where
 d:Int
 n:Nat
 q:Nat
 p:Nat->Nat
 l:Nat->List UInt8
 u:Nat->List UInt8
 e:Int
section
variable {h:aG} {K:VP} {A:Option aK} {n cap m:Nat} {r c:Int} {la:Nat->List UInt8}
end
def QM(g o:aG)(b n:Nat)(L:Nat->Nat->Rat):Prop:=∃ xs:List QV,RowX o b xs/\xs.length=n*n/\∀ i j,i<n->j<n->∃ w,xs[i*n+j]? = some w/\RQ g w (L i j)
def inT(T:Tb)(x:Nat):Prop:=x=T.bt\/x=T.bE\/x=T.bS
section
variable {g o:aG} {b n:Nat} {L:Nat->Nat->Rat}
end
structure LuT (h g o:aG) (T:Tb) (M:Nat->Nat->Int) (S:Nat->Rat) (bp bl bu n:Nat) (p:Nat->Nat) (L U:Nat->Nat->Rat):Prop where
 t:Tab h g o T M S
 p:∃ ps:List Int,RowB o bp ps/\ps.length=n/\∀ i,i<n->ps[i]? = some ((p i:Nat):Int)
 l:QM g o bl n L
 u:QM g o bu n U
 tp:¬ inT T bp
 tl:¬ inT T bl
 tu:¬ inT T bu
 pl:bp≠bl
 pu:bp≠bu
 lu:bl≠bu
section
variable {h g o:aG} {T:Tb} {M:Nat->Nat->Int} {S:Nat->Rat} {bp bl bu n:Nat} {p:Nat->Nat} {L U:Nat->Nat->Rat}
end
def fr1{l s r:Rat}(hl:l≠0)(hs:s≠0):l*(s*r)/l/s=r:=by
 have a:=bL _ hl
 have b:=bL _ hs
 rw [cG,cG]
 grind
def fr2{l si ri sk rk:Rat}(hl:l≠0)(hi:si≠0)(hk:sk≠0):l*(si*ri)/(l*(sk*rk))*sk/si=ri/rk:=by
 have a:=bL _ hl
 have b:=bL _ hi
 have c:=bL _ hk
 rw [cG,cG,cG,Rat.inv_mul_rev,Rat.inv_mul_rev]
 grind
structure LuF (E:Nat->Rat) (n k m:Nat):Prop where
 row:Qp n k (elP E n n k)=B6h n k (B9h n (mtx E n) k)
 val:∀ i j,i<n->k<=i->j<n->((elP E n n k).M i j:Rat)=(elP E n n k).last*((elP E n n k).S i*(B9h n (mtx E n) k).R i j)
 last:(elP E n n k).last≠0
 S:∀ i,i<n->(elP E n n k).S i≠0
 len:(elP E n n k).cs.length=k
 zM:∀ a b,a<n->b<n->ZB (3^k*bnd n m) ((elP E n n k).M a b)
 zl:ZB (3^k*bnd n m) (elP E n n k).last
 zS:∀ a,a<n->Sz (bnd n m) ((elP E n n k).S a)
section
variable {h:aG} {K:VP} {A:Option aK} {n cap m:Nat} {r c:Int} {la:Nat->List UInt8}
end
section
variable {h:aG} {K:VP} {A B:Option aK} {n n2 cap cap2 m:Nat} {r c r2 c2:Int} {la lb:Nat->List UInt8}
end
section
variable {r c r2 c2:Int} {n n2 m rows mid mid2 cols:Nat} {la lb:Nat->List UInt8} {o:MOut}
end
section
variable {h g o:aG} {wA B:Option aK} {wc be m d:Nat} {hd:List HV} {xs ys:List QV}
def Sep.free(s:Sep h g o){b:Nat}(hb:h b=none):g b=none:=by
 cases hx:g b with
 | none=>rfl
 | some y=>rw [s.le _ _ hx] at hb;cases hb
end
section
variable {h:aG} {K:VP} {A B:Option aK} {n cap m:Nat} {r c:Int} {la:Nat->List UInt8} {E:Nat->Rat}
end
def B20{cs:List Nat}{n:Nat}(h:Asc cs n)(hl:cs.length=n){m:Nat}(hm:m<n):cs.getD m 0=m:=by
 have step:∀ c,Jm cs (c+1)<=Jm cs c+1:=fun c=>by
  show (if c∈cs then Jm cs c+1 else Jm cs c)<=_
  split<;>omega
 have grow:∀ c j,Jm cs (c+j)<=Jm cs c+j:=by
  intro c j
  induction j with
  | zero=>exact aD _
  | succ j ih=>have:=step (c+j);rw [<- Nat.add_assoc];omega
 have d:=A3u h
 have eq:∀ c,c<=n->Jm cs c=c:=fun c l=>by
  have f:=Un cs c
  have i:=grow c (n-c)
  rw [show c+(n-c)=n from o,d,hl] at i
  omega
 have b:m∈cs:=by
  refine dF fun a=>?_
  have f:=B16 a
  rw [eq m o,eq (m+1) o] at f
  omega
 obtain ⟨k,e⟩:=(B4u h.asc m).1 b
 have g:=eq m o
 rw [dC,bH o]
 simp only [g] at e
 exact e
def A2l{E:Nat->Rat}{n:Nat}(h:Mh E n){i j:Nat}(hi:i<n)(hj:j<n):sm n (fun t=>mtx E n i t*Rn E n t j)=if i=j then 1 else 0:=by
 have eq:=EqA.run (n:=n) (w:=n+n) (mtx (N5 E n) (n+n)) n o
 have f:=Ek n ⟨mtx (N5 E n) (n+n),[],1⟩ rfl n
 have c:(Ps n ⟨mtx (N5 E n) (n+n),[],1⟩ n).cs.length=n:=h
 have l:∀ a b,b<n->mtx (N5 E n) (n+n) a b=mtx E n a b:=fun a b q=>by
  show N5 E n (a*(n+n)+b)=_
  rw [Hc E o,iP q]
  rfl
 have g:mtx (N5 E n) (n+n) i (n+j)=if i=j then 1 else 0:=by
  show N5 E n (i*(n+n)+(n+j))=_
  rw [Hc E o,iN (show ¬ n+j<n from o)]
  by_cases e:i=j
  ·rw [iP e,iP o]
  ·rw [iN e,iN o]
 obtain ⟨B,El,p,_⟩:=eq.elim
 obtain ⟨m,d,e⟩:=p i hi
 have top:=El.top m (n+j) (by rw [c];exact d) o
 rw [c,e,g] at top
 rw [top]
 refine C4 fun t k=>?_
 rw [B20 f c k,e,l i t k]
 rfl
def B32{E:Nat->Rat}{n m:Nat}(hm:1<=m)(hs:∀ i,i<n*n->Sz m (E i))(h:Mh E n):∀ i j,i<n->j<n->Sz (3^n*bnd (n+n) m) (Rn E n i j):=by
 intro i j b e
 have d:=A0d (E:=N5 E n) (rows:=n) (cols:=n+n) (c:=n) (A36 hm hs) o
 have a:=Wz (N5 E n) n (n+n) n (bnd (n+n) m)
 have f:(elE (N5 E n) n (n+n) n).cs.length=n:=h
 have ev:=A4e (N5 E n) (rows:=n) (cols:=n+n) (c:=n) o b (show n+j<n+n from o) (.inl o)
 show Sz _ ((elE (N5 E n) n (n+n) n).R i (n+j))
 rw [<- ev]
 exact (S1 (A2q _ _ _ _) (d.M i (n+j) b o) d.last).mono a
def rsq(q:Rat):0<=q*q:=by
 rcases Rat.le_total (a:=0) (b:=q) with h|h
 ·exact cF h h
 ·have:=cF (a:= -q) (b:= -q) gz0 gz0
  grind
def gM(s:Nat)(u:Nat->Rat)(W:Nat->Nat->Rat):Nat->Nat->Rat:=fun i j=>sm s fun l=>u l*(W l i*W l j)
def A02{s n:Nat}{u:Nat->Rat}(hu:∀ l,l<s->0<=u l){A:Nat->Nat->Rat}{k:Nat}(f:Nat->Nat->Rat)(hk:k<n)(hA:∀ i j,i<n->j<n->A i j=gM s u f i j):
 (0<=A k k/\(A k k=0->∀ i,i<n->A i k=0/\A k i=0))/\(A k k≠0->∀ i j,i<n->j<n->A i j-A i k*(A k j/A k k)=gM s u (fun l i=>f l i-A i k/A k k*f l k) i j):=by
 have c:∀ l,l<s->0<=u l*(f l k*f l k):=fun l a=>cF (hu l a) (rsq _)
 refine ⟨⟨by rw [hA k k hk hk];exact Yp c,fun h i d=>?_⟩,fun h i j d g=>?_⟩
 ·have p:=Cq c (by have:=hA k k hk hk;unfold gM at this;rw [<- this,h];exact Rat.le_refl)
  have b:∀ l,l<s->u l*f l k=0:=fun l a=>by
   have:=p l a
   grind
  exact ⟨by rw [hA i k d hk];exact N8 fun l a=>by have:=b l a;grind,by rw [hA k i hk d];exact N8 fun l a=>by have:=b l a;grind⟩
 ·have e:gM s u (fun l i=>f l i-A i k/A k k*f l k) i j=gM s u f i j+(- (A j k/A k k))*gM s u f i k+(- (A i k/A k k))*gM s u f k j+(A i k/A k k*(A j k/A k k))*gM s u f k k:=by
   unfold gM
   rw [<- J9,<- J9,<- J9,<- Bi,<- Bi,<- Bi]
   exact C4 fun l _=>by grind
  have m:A k j=A j k:=by rw [hA k j hk g,hA j k g hk];exact C4 fun l _=>by grind
  rw [e,<- hA i j d g,<- hA i k d hk,<- hA k j hk g,<- hA k k hk hk,m]
  grind
def B51{s n:Nat}{u:Nat->Rat}(hu:∀ l,l<s->0<=u l){A:Nat->Nat->Rat}(f:Nat->Nat->Rat)(hA:∀ i j,i<n->j<n->A i j=gM s u f i j):∀ k,k<n->Qb A n k:=by
 have inv:∀ k,k<=n->∃ f,∀ i j,i<n->j<n->ldA A k i j=gM s u f i j:=by
  intro k
  induction k with
  | zero=>exact fun _=>⟨f,hA⟩
  | succ k ih=>
   intro e
   obtain ⟨f,b⟩:=ih o
   have c:=A02 hu f (show k<n from o) b
   by_cases h:ldA A k k k=0
   ·exact ⟨f,fun i j a d=>by show (if ldA A k k k=0 then _ else _)=_;rw [iP h];exact b i j a d⟩
   ·exact ⟨_,fun i j a d=>by show (if ldA A k k k=0 then _ else _)=_;rw [iN h];exact c.2 h i j a d⟩
 intro k e
 obtain ⟨f,b⟩:=inv k o
 have c:=A02 hu f e b
 exact ⟨c.1.1,fun h i _ a=>(c.1.2 h i a).1⟩
def Zq{s r:Nat}(h:s<r)(A:Nat->Nat->Rat):∃ x:Nat->Rat,(∃ t,t<r/\x t≠0)/\∀ i,i<s->sm r (fun t=>A i t*x t)=0:=by
 have e:=(V6 A s r).2
 have a:Asc (ecE A s r).cs r:=Ek s ⟨A,[],1⟩ rfl r
 have d:0<(Jh (ecE A s r).cs r).length:=by rw [Rr a];omega
 obtain ⟨b,c⟩:=Lj (ecE A s r).cs r _ (O1 d)
 refine ⟨B4z (ecE A s r).R (ecE A s r).cs r 0,⟨_,b,?_⟩,fun i f=>Wn (M:=A) (n:=s) (w:=r) d f⟩
 unfold B4z
 rw [Wa c _ (aD _)]
 decide
def A8j{E:Nat->Rat}{n:Nat}(h:Mh E n)(hs:A11 n (mtx E n)){x:Nat->Rat}(hx:∀ i,i<n->sm n (fun t=>mtx E n i t*x t)=0):∀ t,t<n->x t=0:=fun t a=>by
 have e:sm n (fun i=>Rn E n i t*sm n (fun j=>mtx E n i j*x j))=0:=N8 fun i d=>by rw [hx i d,bC]
 have f:sm n (fun i=>Rn E n i t*sm n (fun j=>mtx E n i j*x j))=sm n (fun j=>x j*sm n (fun i=>mtx E n j i*Rn E n i t)):=by
  rw [C4 (g:=fun i=>sm n fun j=>x j*(mtx E n j i*Rn E n i t)) fun i d=>by rw [<- J9];exact C4 fun j b=>by rw [hs i j d b];grind]
  rw [T6]
  exact C4 fun j _=>J9 _ _ _
 rw [f,U9 a fun j b c=>by rw [A2l h b a,iN c,bC],A2l h a a,iP rfl,Rat.mul_one] at e
 exact e
section
variable {s n:Nat} {u:Nat->Rat} {W:Nat->Nat->Rat}
def A2o(s n:Nat)(u:Nat->Rat)(W:Nat->Nat->Rat):A11 n (gM s u W):=fun i j _ _=>C4 fun l _=>by rw [dK (W l i)]
def B8c(hu:∀ l,l<s->0<u l){x:Nat->Rat}(hx:∀ i,i<n->sm n (fun j=>gM s u W i j*x j)=0):∀ l,l<s->sm n (fun j=>W l j*x j)=0:=by
 have e:sm n (fun i=>x i*sm n (fun j=>gM s u W i j*x j))=0:=N8 fun i d=>by rw [hx i d,bC]
 have a:∀ i,sm n (fun j=>gM s u W i j*x j)=sm s (fun l=>u l*W l i*sm n (fun j=>W l j*x j)):=fun i=>by
  rw [C4 (g:=fun j=>sm s fun l=>u l*W l i*(W l j*x j)) fun j _=>by unfold gM;rw [<- L9];exact C4 fun l _=>gz0]
  rw [T6]
  exact C4 fun l _=>J9 _ _ _
 have f:sm n (fun i=>x i*sm n (fun j=>gM s u W i j*x j))=sm s (fun l=>u l*(sm n (fun j=>W l j*x j)*sm n (fun j=>W l j*x j))):=by
  rw [C4 (g:=fun i=>sm s fun l=>u l*sm n (fun j=>W l j*x j)*(W l i*x i)) fun i _=>by rw [a,<- J9];exact C4 fun l _=>gz0]
  rw [T6]
  exact C4 fun l _=>by rw [J9];grind
 rw [f] at e
 have c:∀ l,l<s->0<=u l*(sm n (fun j=>W l j*x j)*sm n (fun j=>W l j*x j)):=fun l b=>cF (Rat.le_of_lt (hu l b)) (rsq _)
 intro l b
 have:=Cq c (by rw [e];exact Rat.le_refl) l b
 have:=hu l b
 grind
end
structure Ptw (s n:Nat) (u:Nat->Rat) (W:Nat->Nat->Rat):Prop where
 pos:∀ l,l<s->0<u l
 ex:∃ q:Nat->Nat->Rat,∀ l k,l<s->k<s->sm n (fun i=>W l i*q k i)=if l=k then 1 else 0
section
variable {s n:Nat} {u:Nat->Rat} {W:Nat->Nat->Rat}
def Wq(u:Nat->Rat)(W:Nat->Nat->Rat)(cs:List Nat){a b:Nat}(hb:b<cs.length):mtx (B95 (gM s u W) cs) cs.length a b=gM s u (fun l t=>W l (cs.getD t 0)) a b:=A3v _ _ hb
def Ptw.rank(p:Ptw s n u W):(ecE (gM s u W) n n).cs.length=s:=by
 have inv:=A7u (A2o s n u W)
 have f:=A7t (gM s u W) n
 have D:∀ m,m<(ecE (gM s u W) n n).cs.length->(ecE (gM s u W) n n).cs.getD m 0<n:=fun m e=>(EqA.run (n:=n) (w:=n) (gM s u W) n (aD _)).lt _ (O1 e)
 rcases cM (ecE (gM s u W) n n).cs.length s with h|h|h
 ·exfalso
  obtain ⟨q,r⟩:=p.ex
  obtain ⟨z,⟨t,b,a⟩,G⟩:=Zq h (fun m k=>sm n fun j=>(ecE (gM s u W) n n).R m j*q k j)
  have ker:=B8c (x:=fun j=>sm s fun k=>q k j*z k) p.pos (n:=n) (fun i c=>by
   have B:sm n (fun j=>gM s u W i j*sm s fun k=>q k j*z k)=sm n fun j=>sm (ecE (gM s u W) n n).cs.length fun m=>gM s u W i ((ecE (gM s u W) n n).cs.getD m 0)*((ecE (gM s u W) n n).R m j*sm s fun k=>q k j*z k):=C4 fun j d=>by
    conv=>lhs;rw [f i c j d]
    rw [<- L9]
    exact C4 fun m _=>by rw [dG]
   rw [B,T6]
   refine N8 fun m e=>?_
   rw [J9]
   have E:sm n (fun j=>(ecE (gM s u W) n n).R m j*sm s fun k=>q k j*z k)=sm s fun k=>(sm n fun j=>(ecE (gM s u W) n n).R m j*q k j)*z k:=by
    rw [C4 (g:=fun j=>sm s fun k=>(ecE (gM s u W) n n).R m j*q k j*z k) fun j _=>by rw [<- J9];exact C4 fun k _=>by rw [dG]]
    rw [T6]
    exact C4 fun k _=>L9 _ _ _
   rw [E,G m e,bC]) t b
  have C:sm n (fun j=>W t j*sm s fun k=>q k j*z k)=z t:=by
   rw [C4 (g:=fun j=>sm s fun k=>W t j*q k j*z k) fun j _=>by rw [<- J9];exact C4 fun k _=>by rw [dG]]
   rw [T6,U9 b fun k y a=>?_]
   ·rw [L9,r t t b b,iP rfl,Rat.one_mul]
   ·rw [L9,r t k b y,iN (Ne.symm a),dI]
  rw [C] at ker
  exact a ker
 ·exact h
 ·exfalso
  obtain ⟨x,⟨t,b,a⟩,F⟩:=Zq h (fun l m=>W l ((ecE (gM s u W) n n).cs.getD m 0))
  refine a (A8j inv (fun i j c d=>?_) (x:=x) (fun i c=>?_) t b)
  ·rw [Wq u W _ d,Wq u W _ c];exact A2o s (ecE (gM s u W) n n).cs.length u _ i j c d
  ·rw [C4 (g:=fun t=>sm s fun l=>u l*W l ((ecE (gM s u W) n n).cs.getD i 0)*(W l ((ecE (gM s u W) n n).cs.getD t 0)*x t)) fun t b=>by
    rw [Wq u W _ b];unfold gM;rw [<- L9];exact C4 fun l _=>gz0]
   rw [T6]
   exact N8 fun l A=>by rw [J9,F l A,bC]
end
section
set_option maxRecDepth 100000
variable {h:aG} {K:VP}
end
section
set_option maxRecDepth 100000
variable {h:aG} {K:VP}
end
section
set_option maxRecDepth 100000
variable {h:aG} {K:VP}
def B68:bY prog 176 175 (.agg #[.string ({ data:=#[] }:ByteArray),N0]) 2 40:=⟨by kernel_rfl,by kernel_rfl,rfl,dc⟩
def Vm:bY prog 302 361 (.agg #[I 0,I 0,I 0,I 0,I 0,I 0,.bool false,Sl none 0 0,.bool false,Sl none 0 0]) 10 112:=⟨by kernel_rfl,by kernel_rfl,rfl,dc⟩
def A7d:prog.cellsOf 244=4/\(prog.info? 244).isSome=true:=⟨by kernel_rfl,by kernel_rfl⟩
end
def Sf:List Int->Int->Int
 | [],d=>d
 | e::r,d=>if e<0\/e>24-d then -1 else Sf r (d+e)
def A94(xs:List Int):Int:=if xs.length>6 then -1 else Sf xs 0
def S7(xs:List Int):Bool:=decide (0<=A94 xs)
def A60{xs:List Int}{k:Nat}{d:Int}(hk:k<xs.length):Sf (xs.drop k) d=if xs.getD k 0<0\/xs.getD k 0>24-d then -1 else Sf (xs.drop (k+1)) (d+xs.getD k 0):=by
 rw [List.drop_eq_getElem_cons hk,Sf]
 simp [cC,hk]
def Kw{xs:List Int}{A:Option aK}{c:Nat}{h:aG}{K:VP}(s:SlI .i64 h A xs)(hK:K (I (A94 xs)) h):aN prog 211 #[.slice A xs.length c] h K:=by
 refine (fnk func211 [(5,[3,11],[],[I 0,I 0])]) ?_
 refine C0 (fun u=>?_) (fun u=>?_)
 ·have:xs.length>6:=o
  simpa [A94,this] using hK
 ·have q:¬ xs.length>6:=o
  refine ⟨fun l p=>∃ (k:Nat) (d:Int),l=[I d,I k]/\k<=xs.length/\0<=d/\d<=24/\A94 xs=Sf (xs.drop k) d/\p=h,fun l _=>xs.length-(iAt l 1).toNat,⟨0,0,rfl,o,o,o,by simp [A94,q],rfl⟩,?_⟩
  rintro a i y ⟨k,d,r,z,w,m,e,rfl⟩
  obtain ⟨rfl,rfl⟩:a=d/\i=(k:Int):=by simpa using r
  refine C0 (fun t=>?_) (fun t=>?_)
  ·refine s.load rfl o o ?_
   have hkl:k<xs.length:=o
   rw [aC]
   have b:=A60 (d:=a) hkl
   have j:C3 (24-a)=24-a:=B9 o o
   refine C0 (fun g=>?_) (fun g=>?_)
   ·rw [e,b,iP (.inl g)] at hK;exact hK
   ·rw [j]
    refine C0 (fun f=>?_) (fun f=>?_)
    ·rw [e,b,iP (.inr f)] at hK;exact hK
    ·rw [B9 (n:=a+xs.getD k 0) o o,B9 (n:=(k:Int)+1) o o]
     refine ⟨⟨k+1,a+xs.getD k 0,by simp,o,o,o,?_,rfl⟩,by simp only [iAt,aI,aF];omega⟩
     rw [e,b,iN o]
  ·have:k=xs.length:=o
   subst this
   rw [e] at hK;simpa [Sf] using hK
def Cc{xs:List Int}{A:Option aK}{c:Nat}{h:aG}{K:VP}(s:SlI .i64 h A xs)(hK:K (.bool (S7 xs)) h):aN prog 259 #[.slice A xs.length c] h K:=by
 refine (fnk func259) ?_
 exact Kw s ⟨_,rfl,by simpa [S7] using hK⟩
def Qk{l:List Int}(h:∀ x∈l,0<=x):0<=l.sum:=by
 induction l with
 | nil=>simp
 | cons x l ih=>have:=ih (fun y a=>h y (by simp [a]));have:=h x (by simp);simp;omega
def Ka{xs:List Int}{k:Nat}(hk:k<xs.length):(xs.take (k+1)).sum=(xs.take k).sum+xs.getD k 0:=by
 rw [cN hk,bI];simp [cC,hk]
structure ExB (xs:List Int):Prop where
 len:xs.length<=6
 all:∀ x∈xs,0<=x/\x<=1048576
def B3s{l:List Int}(h:∀ x∈l,x<=1048576):l.sum<=1048576*(l.length:Int):=by
 induction l with
 | nil=>simp
 | cons x l ih=>have:=ih (fun y a=>h y (by simp [a]));have:=h x (by simp);simp only [List.sum_cons,List.length_cons];omega
def Qj{xs:List Int}(h:ExB xs)(k:Nat):0<=(xs.take k).sum/\(xs.take k).sum<=6291456:=by
 refine ⟨Qk fun x a=>(h.all x (List.mem_of_mem_take a)).1,?_⟩
 have:=B3s (l:=xs.take k) fun x a=>(h.all x (List.mem_of_mem_take a)).2
 have:=h.len
 have:(xs.take k).length<=6:=by simp;omega
 omega
def Ja(a b:List Int):Nat->Int
 | 0=>0
 | k+1=>if a.getD k 0≠b.getD k 0 then Qa (b.getD k 0) (a.getD k 0) else Ja a b k
def B5z(a b:List Int):Int:=if a.sum≠b.sum then Qa a.sum b.sum else Ja a b a.length
section
variable {h:aG} {K:VP} {a b:List Int} {A B:Option aK} {ac bc:Nat}
def Re(hl:a.length=b.length)(va:ExB a)(vb:ExB b)(sa:SlI .i64 h A a)(sb:SlI .i64 h B b)(hK:K (I (B5z a b)) h):aN prog 228 #[.slice A a.length ac,.slice B b.length bc] h K:=by
 have z:=va.len
 refine (fnk func228 [(3,[5,6,12],[],[I 0,I 0,I 0]),(11,[9],[],[I 0])]) ?_
 refine ⟨fun l f=>∃ k:Nat,l=[I (a.take k).sum,I (b.take k).sum,I k]/\k<=a.length/\f=h,fun l _=>a.length-(iAt l 2).toNat,⟨0,by simp,o,rfl⟩,?_⟩
 rintro q C i e ⟨k,j,E,rfl⟩
 obtain ⟨rfl,rfl,rfl⟩:q=(a.take k).sum/\C=(b.take k).sum/\i=(k:Int):=by simpa using j
 have F:=Qj va (k+1)
 have D:=Qj vb (k+1)
 refine C0 (fun s=>?_) (fun s=>?_)
 ·refine sa.load rfl o o ?_
  refine sb.load rfl o o ?_
  rw [aC,<- Ka o,<- Ka o,B9 o o,B9 o o,B9 o o]
  exact ⟨⟨k+1,by simp,o,rfl⟩,by simp only [iAt,aI,aF];omega⟩
 ·have p:k=a.length:=o
  subst p
  rw [cT,show b.take a.length=b by rw [hl];exact cT]
  refine E6 (fun n=>Si ⟨_,rfl,by simpa [B5z,n] using hK⟩) (fun n=>?_)
  have w:B5z a b=Ja a b a.length:=by simp [B5z,n]
  rw [w] at hK
  refine ⟨fun l f=>∃ k:Nat,l=[I ((k:Int)-1)]/\k<=a.length/\Ja a b a.length=Ja a b k/\f=e,fun l _=>(iAt l 0+1).toNat,⟨a.length,by rw [B9 o o],o,rfl,rfl⟩,?_⟩
  rintro i y ⟨k,d,r,c,rfl⟩
  obtain rfl:i=(k:Int)-1:=by simpa using d
  refine C0 (fun u=>?_) (fun u=>?_)
  ·obtain ⟨k,rfl⟩:∃ m,k=m+1:=⟨k-1,o⟩
   have t:((k+1:Nat):Int)-1=(k:Int):=o
   rw [t]
   refine sa.load rfl o o ?_
   refine sb.load rfl o o ?_
   rw [aC]
   refine E6 (fun g=>?_) (fun g=>?_)
   ·refine sb.load rfl o o ?_
    refine sa.load rfl o o ?_
    rw [aC]
    refine Si ⟨_,rfl,B6 _,?_⟩
    rw [c,Ja,iP g] at hK;exact hK
   ·rw [B9 o o]
    refine ⟨⟨k,rfl,o,?_,rfl⟩,by simp only [iAt,aF];omega⟩
    rw [c,Ja,iN (by simpa using g)]
  ·have:k=0:=o
   subst this
   rw [c] at hK;exact hK
end
section
set_option maxRecDepth 100000
variable {h:aG} {K:VP}
end
section
set_option maxRecDepth 100000
variable {h:aG} {K:VP}
end
section
set_option maxRecDepth 100000
variable {h:aG} {K:VP}
def Tq:bY prog 60 22 (N0) 1 24:=⟨by kernel_rfl,by kernel_rfl,rfl,dc⟩
def C0s:bY prog 78 86 (.agg #[.bool false,Sl none 0 0,.bool false,Sl none 0 0,Sl none 0 0]) 5 88:=⟨by kernel_rfl,by kernel_rfl,rfl,dc⟩
def B6a:bY prog 115 64 (Mv (0:Int) (0:Int) none 0 0) 3 40:=⟨by kernel_rfl,by kernel_rfl,rfl,dc⟩
def To:∀ (args:Array aP) (W:World),(callFunc 149 args).run prog W= .ok (.enter 149 args) W:=call149
end
def K9(n k:Int):Nat->Int
 | 0=>1
 | i+1=>dE (K9 n k i*(n-k+(i+1))) (i+1)
def Ji(n k:Int):Int:=if n<k then 0 else K9 n k k.toNat
def Tj:∀ n:Fin 31,∀ k:Fin 7,∀ i:Fin 7,(k:Nat)<=n->(i:Nat)<=k->0<=K9 (n:Nat) (k:Nat) i/\K9 (n:Nat) (k:Nat) i<=1000000:=by decide +kernel
def Cy{n k:Int}{i:Nat}(hn0:0<=n)(hn:n<=30)(hk0:0<=k)(hk:k<=6)(hkn:k<=n)(hi:(i:Int)<=k):0<=K9 n k i/\K9 n k i<=1000000:=by
 have:=Tj ⟨n.toNat,o⟩ ⟨k.toNat,o⟩ ⟨i,o⟩ gz0 gz0
 grind
def Gf(a b:List Int):Bool:=a.length==b.length&&S7 a&&S7 b
def We{n k:Int}{h:aG}{K:VP}(hn0: -1<=n)(hn:n<=30)(hk0:0<=k)(hk:k<=6)(hK:K (I (Ji n k)) h):aN prog 172 #[I n,I k] h K:=by
 refine (fnk func172 [(5,[5,6],[],[I 0,I 0])]) ?_
 refine C0 (fun b=>?_) (fun b=>?_)
 ·simpa [Ji,b] using hK
 ·refine ⟨fun l f=>∃ i:Nat,l=[I (K9 n k i),I (i+1)]/\(i:Int)<=k/\f=h,fun l _=>(k+1-iAt l 1).toNat,⟨0,rfl,hk0,rfl⟩,?_⟩
  rintro a i y ⟨m,z,r,rfl⟩
  obtain ⟨rfl,rfl⟩:a=K9 n k m/\i=(m:Int)+1:=gz0
  have c:=Cy (i:=m) o hn hk0 hk o r
  refine C0 (fun e=>C0 (fun A=>o) (fun _=>?_)) (fun e=>?_)
  ·have q:=Cy (i:=m+1) o hn hk0 hk o o
   have B:K9 n k m*(n-k+(m+1))<=1000000*40:=by
    have g:0<=n-k+(m+1):=o
    have j:n-k+((m:Int)+1)<=40:=o
    exact Int.mul_le_mul c.2 j g o
   have u:0<=K9 n k m*(n-k+(m+1)):=Int.mul_nonneg c.1 o
   have s:C3 (n-k)=n-k:=B9 o o
   have p:C3 (C3 (n-k)+((m:Int)+1))=n-k+(m+1):=by rw [s,B9 o o]
   have t:C3 (K9 n k m*C3 (C3 (n-k)+((m:Int)+1)))=K9 n k m*(n-k+(m+1)):=by rw [p,B9 o o]
   have w:C3 (dE (C3 (K9 n k m*C3 (C3 (n-k)+((m:Int)+1)))) ((m:Int)+1))=K9 n k (m+1):=by
    rw [t];show C3 (K9 n k (m+1))=_
    exact B9 o o
   have d:C3 ((m:Int)+1+1)=((m+1:Nat):Int)+1:=by rw [B9 o o];omega
   rw [w,d]
   exact ⟨⟨m+1,rfl,o,rfl⟩,by simp only [iAt,aI,aF];omega⟩
  ·have:m=k.toNat:=o
   subst this
   simpa [Ji,b] using hK
def A2t:∀ {xs:List Int} {d:Int},0<=Sf xs d->0<=d->d<=24->(∀ x∈xs,0<=x)/\Sf xs d=d+xs.sum/\d+xs.sum<=24:=by
 intro xs
 induction xs with
 | nil=>intro d h f e;simp [Sf];exact e
 | cons x xs ih=>
  intro d h f e
  rw [Sf] at h ⊢
  split at h
  ·omega
  ·obtain ⟨a,b,c⟩:=ih h o o
   refine ⟨fun y g=>?_,gz0,gz0⟩
   grind
def Im{xs:List Int}(h:S7 xs=true):xs.length<=6/\(∀ x∈xs,0<=x)/\A94 xs=xs.sum/\xs.sum<=24:=by
 have h:=of_decide_eq_true h
 unfold A94 at h ⊢
 split at h
 ·omega
 ·obtain ⟨a,b,c⟩:=A2t h o o
  grind
def B31{l:List Int}(h:∀ x∈l,0<=x){x:Int}(hx:x∈l):x<=l.sum:=by
 induction l with
 | nil=>cases hx
 | cons y l ih=>
  have b:=Qk (l:=l) (fun z a=>h z (by simp [a]))
  have c:=h y (by simp)
  grind
def A39{xs:List Int}(h:S7 xs=true)(k:Nat):0<=xs.getD k 0/\xs.getD k 0<=24:=by
 obtain ⟨_,a,_,d⟩:=Im h
 by_cases c:k<xs.length
 ·have b:xs.getD k 0∈xs:=gz0
  have:=B31 a b
  grind
 grind
def A97(a b:List Int):Int:=if Gf a b then B5z a b else 0
def Hk{a b:List Int}(h:Gf a b=true):a.length=b.length/\S7 a=true/\S7 b=true:=by
 simp only [Gf,cD,beq_iff_eq] at h
 grind
def opL(o:Int->Int->Int)(a b:List Int):List Int:=(aJ a.length).map fun i=>o (a.getD i 0) (b.getD i 0)
def Nn(o:Int->Int->Int)(a b:List Int):(opL o a b).length=a.length:=by simp [opL]
def B7z(o:Int->Int->Int)(a b:List Int){i:Nat}(hi:i<(opL o a b).length):(opL o a b)[i]=o (a.getD i 0) (b.getD i 0):=by simp [opL]
section
variable {h:aG} {K:VP} {a b:List Int} {A B:Option aK} {ac bc:Nat}
def Ff(sa:SlI .i64 h A a)(sb:SlI .i64 h B b)(hK:K (.bool (Gf a b)) h):aN prog 227 #[.slice A a.length ac,.slice B b.length bc] h K:=by
 refine (fnk func227) ?_
 refine D8 (fun e=>?_) (fun e=>?_)
 ·have c:a.length=b.length:=o
  refine Cc sa ⟨_,rfl,?_⟩
  refine Br.of (fun d=>Cc sb ⟨_,rfl,?_⟩) (fun d=>?_)
  ·simpa [Gf,c,d] using hK
  ·simpa [Gf,c,d] using hK
 ·have c:(a.length==b.length)=false:=gz0
  simpa [Gf,c] using hK
def A0c{a:List Int}(v:S7 a=true):ExB a:=by
 obtain ⟨d,b,_,e⟩:=Im v
 exact ⟨d,fun x c=>⟨b x c,by have:=B31 b c;omega⟩⟩
def Id(sa:SlI .i64 h A a)(sb:SlI .i64 h B b)(hK:K (I (A97 a b)) h):aN prog 175 #[.slice A a.length ac,.slice B b.length bc] h K:=by
 refine (fnk func175) ?_
 refine Ff sa sb ⟨_,rfl,Br.not (Br.of (fun c=>?_) (fun c=>?_))⟩
 ·exact Re (Hk c).1 (A0c (Hk c).2.1) (A0c (Hk c).2.2) sa sb ⟨_,rfl,by simpa [A97,c] using hK⟩
 ·simpa [A97,c] using hK
def Nq(sa:SlI .i64 h A a)(sb:SlI .i64 h B b)(hno:(Gf a b&&S7 (opL (fun x y=>x+y) a b))=false->∀ h',h.le h'->K (.tuple #[.slice none 0 0,.bool false]) h')(hyes:(Gf a b&&S7 (opL (fun x y=>x+y) a b))=true->∀ nb,h nb=none->K (.tuple #[.slice (some ⟨nb,0,none⟩) (opL (fun x y=>x+y) a b).length (opL (fun x y=>x+y) a b).length,.bool true]) (h.put nb (.cells ((opL (fun x y=>x+y) a b).map I).toArray 3))):
 aN prog 225 #[.slice A a.length ac,.slice B b.length bc,.func (.func 226) #[] #[]] h K:=by
 refine (fnk func225 [(5,[20],[],[I 0])]) ?_
 refine Ff sa sb ⟨_,rfl,Br.not (Br.of (fun e=>?_) (fun e=>hno (by simp [e]) h (B6 h)))⟩
 obtain ⟨G,m,t⟩:=Hk e
 have w:=(Im m).1
 refine Rk Pa o o o o ?_
 intro nb j
 refine ⟨_,_,_,rfl,?_⟩
 refine ⟨fun l h'=>∃ k:Nat,l=[I k]/\k<=a.length/\h'=h.put nb (.cells (Lm I (I 0) (opL (fun x y=>x+y) a b) k).toArray 3),fun l _=>a.length-(iAt l 0).toNat,⟨0,rfl,o,?_⟩,?_⟩
 ·rw [A5u,Nn];congr 2;exact Ca _ _
 rintro i F ⟨k,u,E,rfl⟩
 obtain rfl:i=(k:Int):=gz0
 have d:∀ f,h.le (h.put nb f):=fun f=>Heap.le_put f j
 refine C0 (fun s=>?_) (fun s=>?_)
 ·refine (sa.mono (d _)).load rfl o o ?_
  refine (sb.mono (d _)).load rfl o o ?_
  rw [aC]
  have H:=A39 m k
  have D:=A39 t k
  refine (fnk func226) ?_
  refine ⟨_,rfl,_,rfl,o,o,?_⟩
  rw [B9 (n:=(k:Int)+1) o o]
  refine Yo Jz (zs:=opL (fun x y=>x+y) a b) (i:=k) (by rw [Nn];omega) ?_ ⟨⟨k+1,by simp,o,rfl⟩,by simp only [iAt,aF];omega⟩
  rw [B7z]
  exact B9 o o
 ·have g:k=a.length:=o
  subst g
  have q:a.length=(opL (fun x y=>x+y) a b).length:=(Nn _ _ _).symm
  have p:SlI .i64 (h.put nb (.cells (Lm I (I 0) (opL (fun x y=>x+y) a b) a.length).toArray 3)) (some ⟨nb,0,none⟩) (opL (fun x y=>x+y) a b):=by
   rw [q,A09];exact SlI.new h nb _ _ _
  have C:aN prog 259 #[.slice (some ⟨nb,0,none⟩) a.length a.length] (h.put nb (.cells (Lm I (I 0) (opL (fun x y=>x+y) a b) a.length).toArray 3)) fun r c=>∃ t37:Bool,r= .bool t37/\Br (!t37) (K (.tuple #[.slice none 0 0,.bool false]) c) (K (.tuple #[.slice (some ⟨nb,0,none⟩) a.length a.length,.bool true]) c):=by
   rw [q,A09] at p ⊢
   refine Cc p ⟨_,rfl,Br.not (Br.of (fun z=>?_) (fun z=>?_))⟩
   ·grind
   grind
  exact C
def Rg(sa:SlI .i64 h A a)(sb:SlI .i64 h B b)(hno:(Gf a b&&S7 (opL (fun x y=>x+y) a b))=false->∀ h',h.le h'->K (.tuple #[.slice none 0 0,.bool false]) h')(hyes:(Gf a b&&S7 (opL (fun x y=>x+y) a b))=true->∀ nb,h nb=none->K (.tuple #[.slice (some ⟨nb,0,none⟩) (opL (fun x y=>x+y) a b).length (opL (fun x y=>x+y) a b).length,.bool true]) (h.put nb (.cells ((opL (fun x y=>x+y) a b).map I).toArray 3))):
 aN prog 173 #[.slice A a.length ac,.slice B b.length bc] h K:=by
 refine (fnk func173) ?_
 exact Nq sa sb (fun e h' c=>⟨_,_,_,_,rfl,hno e h' c⟩) (fun e nb d=>⟨_,_,_,_,rfl,hyes e nb d⟩)
def Uj(sa:SlI .i64 h A a)(sb:SlI .i64 h B b)(hno:(Gf a b&&S7 (opL (fun x y=>x+y) a b))=false->∀ h',h.le h'->K (.tuple #[.slice none 0 0,.bool false]) h')(hyes:(Gf a b&&S7 (opL (fun x y=>x+y) a b))=true->∀ A' h',h.le h'->SlI .i64 h' A' (opL (fun x y=>x+y) a b)->K (.tuple #[.slice A' (opL (fun x y=>x+y) a b).length (opL (fun x y=>x+y) a b).length,.bool true]) h'):
 aN prog 173 #[.slice A a.length ac,.slice B b.length bc] h K:=by
 exact Rg sa sb hno fun e d c=>hyes e _ _ (Heap.le_put _ c) (SlI.new _ _ _ _ _)
end
def Et(n d:Int):Bool:=decide (0<=n/\n<=6/\0<=d/\d<=24)
def A6e(n d:Int):Int:=if Et n d then K9 (n+d) n n.toNat else 0
def A2u{n d:Int}(h:Et n d=true):Ji (n+d) n=A6e n d:=by
 have a:=of_decide_eq_true h
 unfold Ji A6e
 grind
def A98(n d:Int):0<=A6e n d/\A6e n d<=1000000:=by
 unfold A6e
 split
 ·rename_i h
  have a:=of_decide_eq_true h
  exact Cy o o a.1 a.2.1 o o
 ·omega
def B8a(xs:List Int):Nat->Int->Int
 | 0,_=>0
 | i+1,deg=>Ji (((i+1:Nat):Int)+(deg-xs.getD (i+1) 0)-1) ((i+1:Nat):Int)+B8a xs i (deg-xs.getD (i+1) 0)
def B60(xs:List Int):Int:=Ji (xs.length+A94 xs-1) xs.length+B8a xs (xs.length-1) (A94 xs)
section
variable {h:aG} {K:VP} {a b:List Int} {A B:Option aK} {ac bc:Nat}
def Ov{n d:Int}(hK:K (.tuple #[I (A6e n d),.bool (Et n d)]) h):aN prog 121 #[I n,I d] h K:=by
 refine (fnk func121) ?_
 have no:¬ (0<=n/\n<=6/\0<=d/\d<=24)->K (.tuple #[I 0,.bool false]) h:=fun g=>by
  have:Et n d=false:=decide_eq_false g
  simpa [A6e,this] using hK
 refine C0 (fun e=>no o) (fun e=>C0 (fun b=>no o) (fun b=>C0 (fun f=>no o) (fun f=>C0 (fun c=>no o) (fun c=>?_))))
 rw [B9 o o]
 have a:Et n d=true:=decide_eq_true o
 refine We o o o o ⟨_,rfl,?_⟩
 rw [A2u a,<- a];exact hK
end
def Priv.grow{h g h2:aG}{e:aW}{s:Nat}{A:Option aK}{n c:Nat}{xs:List aP}(p:Priv h g e s A n c xs)(hl:h.le h2):∃ g2,g.le g2/\Priv h2 g2 e s A n c xs/\∀ k,h k=none->g2 k=h2 k:=by
 rcases p with ⟨q,d,⟨f,rfl⟩|⟨b,i,t,r,rfl,l⟩⟩
 ·exact ⟨h2,hl,⟨q,d,.inl ⟨f,rfl⟩⟩,fun _ _=>rfl⟩
 ·have j:=hl b _ (C2 g b _)
  refine ⟨fun k=>if k=b then none else h2 k,fun k o e=>?_,⟨q,d,.inr ⟨b,i,t,iP rfl,?_,l⟩⟩,fun k m=>?_⟩
  ·have a:k≠b:=gz0
   show (if k=b then none else h2 k)=some o
   rw [iN a]
   exact hl k o (by rw [B7 _ _ a];exact e)
  ·funext k
   by_cases a:k=b
   ·rw [a,C2,j]
   ·rw [B7 _ _ a,iN a]
  ·have a:k≠b:=by rintro rfl;rw [C2] at m;cases m
   grind
def Tm{k:IntKind}{h h':aG}{a:aK}{xs:List Int}(e:h' a.block=h a.block)(s:SlI k h (some a) xs):SlI k h' (some a) xs:=by
 rcases s with s|⟨f,c,d⟩
 ·exact .inl s
 ·cases c
  refine .inr ⟨a,rfl,fun i v b=>?_⟩
  have:=d i v b
  unfold Heap.cell? at this ⊢
  rw [Sp] at this ⊢
  grind
def Ez{k:IntKind}{h h2 g2 g3:aG}{e:aW}{A:Option aK}{n c:Nat}{xs:List Int}(p:Priv h2 g2 e 1 A n c (xs.map (Value.int k)))(hl:h.le g2)(hg:∀ k,h k=none->g3 k=h2 k):SlI k g3 A xs:=by
 have f:SlI k h2 A xs:=p.slV
 rcases p.2.2 with ⟨d,_⟩|⟨b,i,g,a,j,_⟩
 ·have l:=p.1
  have h2:=p.2.1
  have:xs=[]:=List.eq_nil_of_length_eq_zero gz0
  subst this;exact SlI.nil
 ·subst g
  refine Tm (hg b ?_) f
  cases x:h b with
  | none=>rfl
  | some o=>have:=hl b o x;grind
def Uk{P:bM}{t e ty:aW}{z:aP}{bytes:Nat}(st:bY P t e z 1 bytes){h g:aG}{A:Option aK}{n c:Nat}{xs:List aP}(p:Priv h g e 1 A n c xs){v:aP}(hv:v.cells=#[v])(hv1:Mj v=true)
 (hb:(2*(n+1)+192)*bytes<=281474976710656) (hm:n+1<=9223372036854775807) {K:Option aK->Nat->Nat->aG->Prop}
 (x:∀ A' c' h' g',g.le g'->Priv h' g' e 1 A' (n+1) c' (xs++[v])->K A' (n+1) c' h'):
 wpH P (bG t 1 #[(0,v)]) (fun v' hp=>∃ (B:Option aK) (m d:Nat),v'= .slice B m d/\wpH P (bO #[t,t] ty #[.slice A n c,.slice B m d]) (fun v1 hp1=>∃ (A':Option aK) (n' c':Nat),v1= .slice A' n' c'/\K A' n' c' hp1) hp) h:=by
 refine Q1 st hv ?_
 intro k a
 refine ⟨_,_,_,rfl,?_⟩
 refine Z8 st (p.put a _) (m:=1) (ys:=[v]) rfl (.inr ⟨_,rfl,?_⟩) gz0 hb hm ?_
 ·intro j u i
  cases j with
  | zero=>simp at i;subst i;rw [D6,D4];rfl
  | succ j=>grind
 ·intro A' c2 q l b f
  refine ⟨_,_,_,rfl,x A' c2 q l (B0 (Heap.le_put _ ?_) b) f⟩
  cases hgn:g k with
  | none=>rfl
  | some o=>have:=p.le k o hgn;grind
def MoRow(g:aG)(v:aP)(xs:List Int):Prop:=∃ A c,v= .slice A xs.length c/\SlI .i64 g A xs/\xs.length<=6
def MoRows(g:aG):List aP->List (List Int)->Prop
 | [],[]=>True
 | v::vs,xs::xss=>MoRow g v xs/\MoRows g vs xss
 | _,_=>False
def MoRow.mono{g g':aG}(hl:g.le g'){v:aP}{xs:List Int}(r:MoRow g v xs):MoRow g' v xs:=by
 obtain ⟨A,c,a,b,d⟩:=r;exact ⟨A,c,a,b.mono hl,d⟩
def MoRows.mono{g g':aG}(hl:g.le g'):∀ {vs:List aP} {xss:List (List Int)},MoRows g vs xss->MoRows g' vs xss
 | [],[],_=>trivial
 | _::_,_::_,⟨h1,h2⟩=>⟨h1.mono hl,MoRows.mono hl h2⟩
def MoRows.append{g:aG}: ∀ {vs us:List aP} {xss yss:List (List Int)},MoRows g vs xss->MoRows g us yss->MoRows g (vs++us) (xss++yss)
 | [],_,[],_,_,h=>h
 | _::_,_,_::_,_,⟨h1,h2⟩,h=>⟨h1,MoRows.append h2 h⟩
def MoRows.length{g:aG}: ∀ {vs:List aP} {xss:List (List Int)},MoRows g vs xss->vs.length=xss.length
 | [],[],_=>rfl
 | _::_,_::_,⟨_,h2⟩=>by simp [MoRows.length h2]
def MoRows.at{g:aG}: ∀ {vs:List aP} {xss:List (List Int)} {i:Nat},MoRows g vs xss->i<xss.length->∃ v,vs[i]? = some v/\MoRow g v (xss.getD i [])
 | [],[],_,_,h=>by simp at h
 | v::_,xs::_,0,⟨h1,_⟩,_=>⟨v,by simp,by assumption⟩
 | _::_,_::_,i+1,⟨_,h2⟩,h=>by simpa using MoRows.at (i:=i) h2 gz0
def MoPriv(h g:aG)(A:Option aK)(c:Nat)(xss:List (List Int)):Prop:=∃ vs,Priv h g 22 1 A xss.length c vs/\MoRows g vs xss
def MoSl(h:aG)(A:Option aK)(xss:List (List Int)):Prop:=∃ vs,SlV h A vs/\MoRows h vs xss
def MoPriv.slR{h g:aG}{A:Option aK}{c:Nat}{xss:List (List Int)}(p:MoPriv h g A c xss):MoSl h A xss:=by
 obtain ⟨d,a,b⟩:=p;exact ⟨d,a.slV,b.mono a.le⟩
def MoPriv.le{h g:aG}{A:Option aK}{c:Nat}{xss:List (List Int)}(p:MoPriv h g A c xss):g.le h:=by
 obtain ⟨d,a,b⟩:=p;exact a.le
def MoPriv.grow{h g h2:aG}{A:Option aK}{c:Nat}{xss:List (List Int)}(p:MoPriv h g A c xss)(hl:h.le h2):∃ g2,g.le g2/\MoPriv h2 g2 A c xss/\∀ k,h k=none->g2 k=h2 k:=by
 obtain ⟨e,d,r⟩:=p
 obtain ⟨g2,a,b,c⟩:=d.grow hl
 exact ⟨g2,a,⟨e,b,r.mono a⟩,c⟩
def Kx{P:bM}(st:bY P 60 22 (.slice none 0 0) 1 24){ty:aW}{h g:aG}{A:Option aK}{c:Nat}{xss:List (List Int)}(p:MoPriv h g A c xss){B:Option aK}{xs:List Int}{n d:Nat}(hn:n=xs.length)(s:SlI .i64 g B xs)(hx:xs.length<=6)(hb:xss.length<=1000000){K:Option aK->Nat->Nat->aG->Prop}
 (x:∀ A' c' h' g',g.le g'->MoPriv h' g' A' c' (xss++[xs])->K A' (xss++[xs]).length c' h'):
 wpH P (bG 60 1 #[(0,.slice B n d)]) (fun v' hp=>∃ (B:Option aK) (m d:Nat),v'= .slice B m d/\wpH P (bO #[60,60] ty #[.slice A xss.length c,.slice B m d]) (fun v1 hp1=>∃ (A':Option aK) (n' c':Nat),v1= .slice A' n' c'/\K A' n' c' hp1) hp) h:=by
 obtain ⟨e,b,r⟩:=p
 refine Uk st b rfl rfl o o ?_
 intro A' c' h' g' a hp
 have:=x A' c' h' g' a ⟨e++[.slice B n d],gz0,(r.mono a).append ⟨⟨B,d,by rw [hn],s.mono a,hx⟩,trivial⟩⟩
 grind
def K8:Nat->Nat->List (List Int)
 | 0,d=>if d=0 then [[]] else []
 | n+1,d=>(aJ (d+1)).flatMap fun j=>(K8 n j).map (· ++ [((d:Int)-j)])
def Ns:Nat->Nat->Nat
 | 0,d=>if d=0 then 1 else 0
 | n+1,d=>((aJ (d+1)).map (Ns n)).sum
def Kv:∀ n d,(K8 n d).length=Ns n d
 | 0,d=>by simp only [K8,Ns];grind
 | n+1,d=>by
  simp only [K8,Ns,cK,cX]
  congr 1
  apply cJ
  intro j _;exact Kv n j
def Zr:∀ n d xs,xs∈K8 n d->xs.length=n
 | 0,d,xs,h=>by
  simp only [K8] at h
  grind
 | n+1,d,xs,h=>by
  simp only [K8,List.mem_flatMap,List.mem_map] at h
  obtain ⟨j,_,ys,hy,rfl⟩:=h
  simp [Zr n j ys hy]
def A5n:∀ n:Fin 7,((aJ 25).map (Ns n)).sum<=1000000:=by decide +kernel
def Ga(f:Nat->Nat){a b:Nat}(h:a<=b):((aJ a).map f).sum<=((aJ b).map f).sum:=by
 induction b with
 | zero=>grind
 | succ b ih=>
  by_cases e:a=b+1
  ·grind
  ·rw [aZ,bJ,bI];omega
def Ql{n k:Nat}(hn:n<=6)(hk:k<=25):((aJ k).map (Ns n)).sum<=1000000:=
 bF (Ga (Ns n) hk) (A5n ⟨n,o⟩)
def J4(n d k:Nat)(tail:List Int):List (List Int):=(aJ k).flatMap fun j=>(K8 n j).map (· ++ (((d:Int)-j)::tail))
def Qr(n d:Nat)(tail:List Int):J4 n d (d+1) tail=(K8 (n+1) d).map (· ++ tail):=by
 simp only [J4,K8,List.map_flatMap,List.map_map]
 congr 1
 funext j
 simp_all
def On(n d k:Nat)(tail:List Int):J4 n d (k+1) tail=J4 n d k tail++(K8 n k).map (· ++ (((d:Int)-k)::tail)):=by
 simp [J4,aZ]
def Qq(n d k:Nat)(tail:List Int):(J4 n d k tail).length=((aJ k).map (Ns n)).sum:=by
 simp only [J4,cK,cX]
 congr 1
 apply cJ
 intro j _;exact Kv n j
section
variable {h g:aG} {K:VP}
def Wf(n:Nat):n<=6->∀ (d:Nat) (tail:List Int) (xss:List (List Int)) (R T:Option aK) (rc tc:Nat) (h g:aG) (K:VP),d<=24->n+tail.length<=6->xss.length+Ns n d<=1000000->MoPriv h g R rc xss->SlI .i64 g T tail->
 (∀ R' c' h' g',g.le g'->MoPriv h' g' R' c' (xss++(K8 n d).map (· ++ tail))->K (.slice R' (xss++(K8 n d).map (· ++ tail)).length c') h')->
 aN prog 195 #[.slice R xss.length rc,I n,I d,.slice T tail.length tc] h K:=by
 induction n with
 | zero=>
  intro _ d tail xss R T rc tc h g K S W c p s t
  refine (fnk func195 [(6,[0,9],[],[.slice none 0 0,I 0])]) ?_
  show Br _ _ _
  refine D8 (fun _=>?_) (fun O=>absurd rfl O)
  refine C0 (fun z=>?_) (fun z=>?_)
  ·have e:K8 0 d=[]:=by simp only [K8];grind
   have:=t R rc h g (B6 g) gz0
   grind
  ·have G:d=0:=o
   subst G
   refine Wk Pa ?_
   intro f a
   refine ⟨_,_,_,rfl,?_⟩
   have D:Priv (h.put f (.cells #[] 3)) (h.put f (.cells #[] 3)) 3 1 (some ⟨f,0,none⟩) 0 0 []:=Priv.nil _ _ _ _
   have X:=(s.mono p.le).mono (Heap.le_put (.cells #[] 3) a)
   refine Z8 Pa D (m:=tail.length) (ys:=tail.map I) (by simp) ?_ (by simp [Mj]) o o ?_
   ·assumption
   intro A' c' V Q b q
   refine ⟨_,_,_,rfl,?_⟩
   have r:h.le Q:=B0 (Heap.le_put _ a) b
   obtain ⟨L,i,u,j⟩:=p.grow (B0 r q.le)
   have F:SlI .i64 L A' tail:=Ez (by simpa using q) r j
   refine Kx Tq u (bD _) F o o ?_
   intro A4 c4 h4 g4 y p4
   have:=t A4 c4 h4 g4 (B0 i y) (by assumption)
   assumption
 | succ n ih=>
  intro hn d tail xss R T rc tc h g K S W c p s t
  have E:xss.length+((aJ (d+1)).map (Ns n)).sum<=1000000:=c
  refine (fnk func195 [(6,[0,9],[],[.slice none 0 0,I 0])]) ?_
  refine D8 (fun O=>o) (fun _=>?_)
  refine ⟨fun l h'=>∃ (k:Nat) (R':Option aK) (c':Nat) (g':aG),l=[.slice R' (xss++J4 n d k tail).length c',I ((d:Int)-k)]/\k<=d+1/\g.le g'/\MoPriv h' g' R' c' (xss++J4 n d k tail),fun l _=>(iAt l 1+1).toNat,⟨0,R,rc,g,by simp [J4],o,B6 g,by simpa [J4] using p⟩,?_⟩
  rintro R1 n1 c1 last B ⟨k,R',c',g',hl,hk,w,C⟩
  obtain ⟨⟨rfl,rfl,rfl⟩,rfl⟩:(R1=R'/\n1=(xss++J4 n d k tail).length/\c1=c')/\last=(d:Int)-k:=gz0
  refine C0 (fun z=>?_) (fun z=>?_)
  ·refine Q1 Pa rfl ?_
   intro f a
   refine ⟨_,_,_,rfl,?_⟩
   have D:Priv (B.put f (.cells #[I ((d:Int)-k)] 3)) B 3 1 (some ⟨f,0,none⟩) 1 1 [I ((d:Int)-k)]:=⟨rfl,aD _,.inr ⟨f,[I ((d:Int)-k)],rfl,a,rfl,rfl,rfl⟩⟩
   have X:=((s.mono w).mono C.le).mono (Heap.le_put (.cells #[I ((d:Int)-k)] 3) a)
   refine Z8 Pa D (m:=tail.length) (ys:=tail.map I) (by simp) ?_ (by simp [Mj]) o o ?_
   ·assumption
   intro A2 c2 V Q b q
   refine ⟨_,_,_,rfl,?_⟩
   obtain ⟨L,i,u,j⟩:=C.grow (B0 b q.le)
   have F:SlI .i64 L A2 (((d:Int)-k)::tail):=Ez (by simpa using q) b j
   have e1:C3 (((n+1:Nat):Int)-1)=(n:Int):=by rw [B9 o o];omega
   have e2:C3 ((d:Int)-((d:Int)-k))=(k:Int):=by rw [B9 o o];omega
   have e3:C3 ((d:Int)-k-1)=(d:Int)-(k+1:Nat):=by rw [B9 o o];omega
   rw [e1,e2,e3]
   have aa:=Ga (Ns n) (show k+1<=d+1 from o)
   have el:1+tail.length=(((d:Int)-k)::tail).length:=gz0
   rw [el]
   have N:((aJ (k+1)).map (Ns n)).sum=((aJ k).map (Ns n)).sum+Ns n k:=by
    rw [aZ,bJ,bI];simp
   refine ih o k _ _ _ _ _ _ _ _ _ o o ?_ u F ?_
   ·rw [List.length_append,Qq];omega
   ·intro R5 c5 h5 g5 H M
    rw [cO,<- On] at M ⊢
    exact ⟨_,_,_,rfl,⟨k+1,R5,c5,g5,rfl,o,B0 w (B0 i H),M⟩,by simp only [iAt,aI,aF];omega⟩
  ·have A:k=d+1:=o
   subst A
   have:=t R1 c1 B g' w (by rw [<- Qr];exact C)
   rw [<- Qr] at this;exact this
end
def Uc(n k:Nat):List (List Int):=(aJ k).flatMap (K8 n)
def Ze(n k:Nat):Uc n (k+1)=Uc n k++K8 n k:=by simp [Uc,aZ]
def A3s(n k:Nat):(Uc n k).length=((aJ k).map (Ns n)).sum:=by
 simp only [Uc,cK]
 congr 1
 apply cJ
 intro j _;exact Kv n j
def So(n d:Int):Int:=if Et n d then (if A6e n d>4096 then 2 else 0) else 3
def B00(n d:Int):List (List Int):=if Et n d then (if A6e n d>4096 then [] else Uc n.toNat (d.toNat+1)) else []
def MoSl.nil{h:aG}{A:Option aK}:MoSl h A []:=⟨[],.inl rfl,trivial⟩
def MoSl.mono{h h':aG}(hl:h.le h'){A:Option aK}{xss:List (List Int)}(s:MoSl h A xss):MoSl h' A xss:=by
 obtain ⟨c,a,b⟩:=s;exact ⟨c,a.mono hl,b.mono hl⟩
section
variable {h g:aG} {K:VP}
def A5j{n d:Int}(hK:∀ A c h',h.le h'->MoSl h' A (B00 n d)->K (.tuple #[.slice A (B00 n d).length c,I (So n d)]) h'):aN prog 147 #[I n,I d] h K:=by
 refine (fnk func147 [(8,[8,24],[],[.slice none 0 0,I 0])]) ?_
 refine Ov ⟨_,_,rfl,?_⟩
 refine Br.not (Br.of (fun e=>?_) (fun e=>?_))
 ·refine C0 (fun r=>?_) (fun r=>?_)
  ·have:=hK none 0 h (B6 h) (by unfold B00;rw [iP e,iP r];exact MoSl.nil)
   unfold B00 So at this
   grind
  ·have L:=of_decide_eq_true e
   have g:=A98 n d
   refine Rk Tq o g.1 o o ?_
   intro b z
   refine ⟨_,_,_,rfl,?_⟩
   obtain ⟨n',rfl⟩:∃ n':Nat,n=n':=⟨n.toNat,o⟩
   obtain ⟨d',rfl⟩:∃ d':Nat,d=d':=⟨d.toNat,o⟩
   have i:B00 n' d'=Uc n' (d'+1):=by unfold B00;grind
   have D:So n' d'=0:=by unfold So;grind
   refine ⟨fun l h'=>∃ (k:Nat) (R':Option aK) (a:Nat) (f:aG),l=[.slice R' (Uc n' k).length a,I k]/\k<=d'+1/\h.le f/\MoPriv h' f R' a (Uc n' k),fun l _=>(d'+1)-(iAt l 1).toNat,⟨0,some ⟨b,0,none⟩,_,h,rfl,o,B6 h,[],⟨rfl,Nat.zero_le _,.inr ⟨b,aE (A6e n' d').toNat (.slice none 0 0),rfl,z,?_,?_,rfl⟩⟩,trivial⟩,?_⟩
   ·rw [show (Value.slice none 0 0).cells=#[.slice none 0 0] from rfl,Ca]
   ·simp
   rintro R1 E c1 t w ⟨k,R',a,f,H,F,u,m⟩
   obtain ⟨⟨rfl,rfl,rfl⟩,rfl⟩:(R1=R'/\E=(Uc n' k).length/\c1=a)/\t=(k:Int):=gz0
   rw [B9 (n:=(d':Int)+1) o o]
   refine C0 (fun B=>?_) (fun B=>?_)
   ·have M:=Ql (n:=n') (k:=k+1) o o
    have s:((aJ (k+1)).map (Ns n')).sum=((aJ k).map (Ns n')).sum+Ns n' k:=by
     rw [aZ,bJ,bI];simp
    have y:=A3s n' k
    refine Wf n' o k [] (Uc n' k) R1 none c1 0 w f _ o gz0 o m SlI.nil ?_
    intro R5 c5 G C p q
    rw [show (K8 n' k).map (· ++ [])=K8 n' k by simp,<- Ze] at q ⊢
    rw [B9 (n:=(k:Int)+1) o o]
    exact ⟨_,_,_,rfl,⟨k+1,R5,c5,C,rfl,o,B0 u p,q⟩,by simp only [iAt,aI,aF];omega⟩
   ·have j:k=d'+1:=o
    subst j
    have:=hK R1 c1 w (B0 u m.le) (by rw [i];exact m.slR)
    grind
 ·have:=hK none 0 h (B6 h) (by unfold B00;rw [iN (by simp [e])];exact MoSl.nil)
  unfold B00 So at this
  grind
end
def MoPriv.call{P:bM}{f:FuncId}{args:Array aP}{h g:aG}{A:Option aK}{c:Nat}{xss:List (List Int)}(p:MoPriv h g A c xss){K:VP}(x:aN P f args g (fun r h0=>g.le h0/\∀ h',MoPriv h' h0 A c xss->K r h')):aN P f args h K:=by
 obtain ⟨d,b,rv⟩:=p
 exact b.call (x.mono fun r h0 ⟨e,a⟩ h' i=>a h' ⟨d,i,rv.mono e⟩)
section
variable {h g:aG} {K:VP}
def Zs(d:Nat):K8 1 d=[[(d:Int)]]:=by
 simp only [K8]
 rw [List.range_succ_eq_map]
 simp_all
def A2c(n:Nat):n<=6->∀ (d:Nat) (xss:List (List Int)) (R:Option aK) (rc:Nat) (h g:aG) (K:VP),d<=24->xss.length+Ns n d<=1000000->MoPriv h g R rc xss->
 (∀ R' c' h' g',g.le g'->MoPriv h' g' R' c' (xss++K8 n d)->K (.slice R' (xss++K8 n d).length c') h')->
 aN prog 85 #[.slice R xss.length rc,I n,I d] h K:=by
 induction n with
 | zero=>
  intro _ d xss R rc h g K hd r p hK
  refine (fnk func85 [(8,[0,7],[],[.slice none 0 0,I 0]),(12,[0,9],[],[.slice none 0 0,I 0])]) ?_
  refine D8 (fun _=>?_) (fun h0=>absurd rfl h0)
  refine D8 (fun h1=>?_) (fun h1=>?_)
  ·have ac:d=0:=o
   subst ac
   refine Kx Tq p (xs:=[]) rfl SlI.nil (by simp) o ?_
   assumption
  ·have e:K8 0 d=[]:=by simp only [K8];grind
   have:=hK R rc h g (B6 g) gz0
   grind
 | succ n ih=>
  intro hn d xss R rc h g K hd r p hK
  have T:xss.length+((aJ (d+1)).map (Ns n)).sum<=1000000:=r
  refine (fnk func85 [(8,[0,7],[],[.slice none 0 0,I 0]),(12,[0,9],[],[.slice none 0 0,I 0])]) ?_
  refine D8 (fun h0=>o) (fun _=>?_)
  refine D8 (fun h1=>?_) (fun h1=>?_)
  ·have V:n=0:=o
   subst V
   refine Q1 Pa rfl ?_
   intro f c
   refine ⟨_,_,_,rfl,?_⟩
   have M:Priv (h.put f (.cells #[I d] 3)) h 3 1 (some ⟨f,0,none⟩) 1 1 ([(d:Int)].map I):=⟨rfl,aD _,.inr ⟨f,[I d],rfl,c,rfl,rfl,rfl⟩⟩
   obtain ⟨g3,S,p3,aa⟩:=p.grow (Heap.le_put (.cells #[I d] 3) c)
   have s3:SlI .i64 g3 (some ⟨f,0,none⟩) [(d:Int)]:=Ez M (B6 h) aa
   refine Kx Tq p3 (xs:=[(d:Int)]) rfl s3 (by simp) o ?_
   intro A4 c4 h4 g4 ae p4
   have:=hK A4 c4 h4 g4 (B0 S ae) (by rw [Zs];exact p4)
   rw [Zs] at this;exact this
  ·refine ⟨fun l h'=>∃ (k:Nat) (R':Option aK) (c':Nat) (g':aG),l=[.slice R' (xss++J4 n d k []).length c',I ((d:Int)-k)]/\k<=d+1/\g.le g'/\MoPriv h' g' R' c' (xss++J4 n d k []),fun l _=>(iAt l 1+1).toNat,⟨0,R,rc,g,by simp [J4],o,B6 g,by simpa [J4] using p⟩,?_⟩
   rintro R1 n1 c1 last hp ⟨k,R',c',g',hl,hk,hg,p1⟩
   obtain ⟨⟨rfl,rfl,rfl⟩,rfl⟩:(R1=R'/\n1=(xss++J4 n d k []).length/\c1=c')/\last=(d:Int)-k:=gz0
   refine C0 (fun h2=>?_) (fun h2=>?_)
   ·have e1:C3 (((n+1:Nat):Int)-1)=(n:Int):=by rw [B9 o o];omega
    have e2:C3 ((d:Int)-((d:Int)-k))=(k:Int):=by rw [B9 o o];omega
    have e3:C3 ((d:Int)-k-1)=(d:Int)-(k+1:Nat):=by rw [B9 o o];omega
    rw [e1,e2,e3]
    have al:((aJ (k+1)).map (Ns n)).sum=((aJ k).map (Ns n)).sum+Ns n k:=by
     rw [aZ,bJ,bI];simp
    have ar:=Ga (Ns n) (show k+1<=d+1 from o)
    have hr:=Qq n d k []
    have aq:=Kv n k
    have p0:MoPriv g' g' none 0 []:=⟨[],Priv.nil _ _ _ _,trivial⟩
    refine p1.call (ih o k [] none 0 g' g' _ o gz0 p0 ?_)
    intro R5 c5 z g5 ak Q
    rw [List.nil_append] at Q ⊢
    have E:g'.le z:=B0 ak Q.le
    refine ⟨E,fun av p6=>⟨_,_,_,rfl,?_⟩⟩
    obtain ⟨ao,aj,F⟩:=Q.slR
    have az:=F.length
    refine ⟨fun l h'=>∃ (m:Nat) (R':Option aK) (c':Nat) (H:aG),l=[.slice R' (xss++J4 n d k []++((K8 n k).take m).map (· ++ [(d:Int)-k])).length c',I m]/\m<=(K8 n k).length/\z.le H/\MoPriv h' H R' c' (xss++J4 n d k []++((K8 n k).take m).map (· ++ [(d:Int)-k])),fun l _=>(K8 n k).length-(iAt l 1).toNat,⟨0,R1,c1,z,by simp,o,B6 z,gz0⟩,?_⟩
    rintro R7 n7 c7 i7 j ⟨m,R',c',H,ay,hm,t,G⟩
    obtain ⟨⟨rfl,rfl,rfl⟩,rfl⟩:(R7=R'/\n7=(xss++J4 n d k []++((K8 n k).take m).map (· ++ [(d:Int)-k])).length/\c7=c')/\i7=(m:Int):=gz0
    refine C0 (fun h3=>?_) (fun h3=>?_)
    ·have b:m<(K8 n k).length:=o
     refine Wk Pa ?_
     intro f c
     refine ⟨_,_,_,rfl,?_⟩
     have s:z.le (j.put f (.cells #[] 3)):=B0 t (B0 G.le (Heap.le_put _ c))
     obtain ⟨v,hv,B,bc,rfl,sB,au⟩:=F.at b
     obtain ⟨a,ha,hc⟩:=(aj.mono s).at (i:=m) o
     rw [bH o] at hv
     refine ⟨a,ha,o,o,B,_,bc,by rw [aC,cV,hc];exact hv,?_⟩
     have am:((K8 n k).getD m []).length=n:=by
      have:(K8 n k).getD m []=(K8 n k)[m]:=gz0
      rw [this];exact Zr n k _ (List.getElem_mem b)
     have aw:=sB.mono s
     have M:Priv (j.put f (.cells #[] 3)) (j.put f (.cells #[] 3)) 3 1 (some ⟨f,0,none⟩) 0 0 []:=Priv.nil _ _ _ _
     refine Z8 Pa M (m:=((K8 n k).getD m []).length) (ys:=((K8 n k).getD m []).map I) (by simp) ?_ (by simp [Mj]) o o ?_
     ·assumption
     intro A9 c9 h9 g9 ah p9
     refine ⟨_,_,_,rfl,?_⟩
     refine Uk Pa p9 rfl rfl o o ?_
     intro A10 an ap W y u
     have q:j.le W:=B0 (Heap.le_put _ c) (B0 ah y)
     obtain ⟨L,A,af,D⟩:=G.grow (B0 q u.le)
     have N:SlI .i64 L A10 ((K8 n k).getD m []++[(d:Int)-k]):=Ez (by simpa using u) q D
     have O:(xss++J4 n d k []++((K8 n k).take m).map (· ++ [(d:Int)-k])).length<=1000000:=by
      grind
     refine Kx Tq af (by simp) N gz0 O ?_
     intro A12 X ax ai w C
     have ag:xss++J4 n d k []++((K8 n k).take m).map (· ++ [(d:Int)-k])++[(K8 n k).getD m []++[(d:Int)-k]]=xss++J4 n d k []++((K8 n k).take (m+1)).map (· ++ [(d:Int)-k]):=by
      rw [cN b,bJ,cO]
      grind
     rw [ag] at C ⊢
     rw [B9 (n:=(m:Int)+1) o o]
     exact ⟨⟨m+1,A12,X,ai,rfl,o,B0 t (B0 A w),C⟩,by simp only [iAt,aI,aF];omega⟩
    ·have ad:m=(K8 n k).length:=o
     subst ad
     rw [cT,cO,<- On] at G ⊢
     exact ⟨⟨k+1,R7,c7,H,rfl,o,B0 hg (B0 E t),G⟩,by simp only [iAt,aI,aF];omega⟩
   ·have e0:J4 n d (d+1) []=K8 (n+1) d:=by rfl
    grind
def A5c{n d:Nat}(hn:n<=6)(hd:d<=24)(hK:∀ A c h',h.le h'->MoSl h' A (Uc n (d+1))->K (.slice A (Uc n (d+1)).length c) h'):aN prog 41 #[I n,I d] h K:=by
 refine (fnk func41 [(3,[5,6],[],[.slice none 0 0,I 0])]) ?_
 refine ⟨fun l h'=>∃ (k:Nat) (R':Option aK) (a:Nat) (b:aG),l=[.slice R' (Uc n k).length a,I k]/\k<=d+1/\h.le b/\MoPriv h' b R' a (Uc n k),fun l _=>(d+1)-(iAt l 1).toNat,⟨0,none,0,h,rfl,o,B6 h,[],Priv.nil _ _ _ _,trivial⟩,?_⟩
 rintro R1 r c1 t i ⟨k,R',a,b,y,w,p,e⟩
 obtain ⟨⟨rfl,rfl,rfl⟩,rfl⟩:(R1=R'/\r=(Uc n k).length/\c1=a)/\t=(k:Int):=gz0
 refine C0 (fun u=>?_) (fun u=>?_)
 ·have B:=Ql (n:=n) (k:=k+1) o o
  have m:((aJ (k+1)).map (Ns n)).sum=((aJ k).map (Ns n)).sum+Ns n k:=by
   rw [aZ,bJ,bI];simp
  have s:=A3s n k
  refine A2c n o k (Uc n k) R1 c1 i b _ o o e ?_
  intro R5 c5 z q f j
  rw [<- Ze] at j ⊢
  rw [B9 (n:=(k:Int)+1) o o]
  exact ⟨_,_,_,rfl,⟨k+1,R5,c5,q,rfl,o,B0 p f,j⟩,by simp only [iAt,aI,aF];omega⟩
 ·have g:k=d+1:=o
  subst g
  exact hK R1 c1 i (B0 p e.le) e.slR
def MoSl.row{A:Option aK}{xss:List (List Int)}(s:MoSl h A xss){i:Nat}(hi:i<xss.length):∃ a B bc,A=some a/\h.cell? (a.add i)=some (.slice B xss[i].length bc)/\SlI .i64 h B xss[i]/\xss[i].length<=6:=by
 obtain ⟨c,d,rv⟩:=s
 obtain ⟨v,g,B,bc,rfl,f,e⟩:=rv.at hi
 have b:i<c.length:=gz0
 obtain ⟨a,j,k⟩:=d.at b
 grind
end
def mo(v d:Nat):List (List Int):=Uc v (d+1)
def mon(v d i:Nat):List Int:=(mo v d).getD i []
def mi(a b:List Int):Nat:=(B60 (opL (fun x y=>x+y) a b)).toNat
def C13(v D:Nat):Bool:=
 decide ((mo v D).length<=28)&&decide (A6e v D=(mo v D).length)&&Et v D &&
 (aJ (mo v D).length).all fun i=>S7 (mon v D i)&&decide ((mon v D i).length=v)&&decide ((B60 (mon v D i)).toNat=i) &&
  (aJ (mo v D).length).all fun k=>decide (A97 (mon v D i) (mon v D k)=if i<k then -1 else if i=k then 0 else 1)
def C12(v d D:Nat):Bool:=
 (aJ (mo v d).length).all fun i=>decide (mon v d i=mon v D i)&&(aJ (mo v d).length).all fun k=>
  Gf (mon v d i) (mon v d k)&&S7 (opL (fun x y=>x+y) (mon v d i) (mon v d k))&&decide (mi (mon v d i) (mon v d k)<(mo v D).length)&&decide (opL (fun x y=>x+y) (mon v d i) (mon v d k)=mon v D (mi (mon v d i) (mon v d k)))&&decide (mi (mon v d i) (mon v d k)=mi (mon v d k) (mon v d i))&&decide ((B60 (opL (fun x y=>x+y) (mon v d i) (mon v d k)))=mi (mon v d i) (mon v d k))
def B1b:∀ v:Fin 3,∀ D:Fin 7,1<=v.val->C13 v D=true:=by decide +kernel
def B1a:∀ v:Fin 3,∀ d:Fin 4,∀ D:Fin 7,1<=v.val->2*d.val<=D.val->C12 v d D=true:=by decide +kernel
structure MoFacts (v D:Nat):Prop where
 len:(mo v D).length<=28
 cnt:A6e v D=(mo v D).length
 rng:Et v D=true
 val:∀ i,i<(mo v D).length->S7 (mon v D i)=true/\(mon v D i).length=v/\(B60 (mon v D i)).toNat=i
 cmp:∀ i k,i<(mo v D).length->k<(mo v D).length->A97 (mon v D i) (mon v D k)=if i<k then -1 else if i=k then 0 else 1
def T4{v D:Nat}(h1:1<=v)(h2:v<=2)(hD:D<=6):MoFacts v D:=by
 have:=B1b ⟨v,o⟩ ⟨D,o⟩ h1
 simp only [C13,cD,decide_eq_true_eq,cU,dB] at this
 obtain ⟨⟨⟨d,e⟩,f⟩,b⟩:=this
 exact ⟨d,e,f,fun i a=>⟨(b i a).1.1.1,(b i a).1.1.2,(b i a).1.2⟩,fun i k a c=>(b i a).2 k c⟩
structure MuFacts (v d D:Nat) (i k:Nat):Prop where
 same:mon v d i=mon v D i
 pair:(Gf (mon v d i) (mon v d k)&&S7 (opL (fun x y=>x+y) (mon v d i) (mon v d k)))=true
 lt:mi (mon v d i) (mon v d k)<(mo v D).length
 eq:opL (fun x y=>x+y) (mon v d i) (mon v d k)=mon v D (mi (mon v d i) (mon v d k))
 sym:mi (mon v d i) (mon v d k)=mi (mon v d k) (mon v d i)
 idx:B60 (opL (fun x y=>x+y) (mon v d i) (mon v d k))=mi (mon v d i) (mon v d k)
def Y8{v d D i k:Nat}(h1:1<=v)(h2:v<=2)(hd:d<=3)(hD:D<=6)(hdD:2*d<=D)(hi:i<(mo v d).length)(hk:k<(mo v d).length):MuFacts v d D i k:=by
 have:=B1a ⟨v,o⟩ ⟨d,o⟩ ⟨D,o⟩ h1 hdD
 simp only [C12,cD,decide_eq_true_eq,cU,dB] at this
 obtain ⟨b,c⟩:=this i hi
 obtain ⟨⟨⟨⟨⟨j,l⟩,g⟩,f⟩,a⟩,e⟩:=c k hk
 exact ⟨b,by simp_all,g,f,a,e⟩
def B4t{v d i:Nat}(hi:i<(mo v d).length):(mo v d)[i]=mon v d i:=by unfold mon;grind
section
variable {h:aG} {K:VP} {A B:Option aK} {c cc n m v D:Nat} {V:Nat->Rat}
def Hn(h1:1<=v)(h2:v<=2)(hD:D<=6)(hK:∀ A c h',h.le h'->MoSl h' A (mo v D)->K (.tuple #[.slice A (mo v D).length c,I 0]) h'):aN prog 147 #[I (v:Int),I (D:Int)] h K:=by
 obtain ⟨e,b,a,_,_⟩:=T4 h1 h2 hD
 refine A5j ?_
 have d:B00 (v:Int) (D:Int)=mo v D:=by
  unfold B00
  rw [iP a,iN o]
  simp [mo]
 have f:So (v:Int) (D:Int)=0:=by
  unfold So
  grind
 grind
def Ox(h1:1<=v)(h2:v<=2)(hD:D<=6)(hK:K (.tuple #[I ((mo v D).length:Int),.bool true]) h):aN prog 121 #[I (v:Int),I (D:Int)] h K:=by
 obtain ⟨a,c,b,_,_⟩:=T4 h1 h2 hD
 refine Ov ?_
 grind
def MoSl.mon(s:MoSl h A (mo v D)){i:Nat}(hi:i<(mo v D).length):∃ a B bc,A=some a/\h.cell? (a.add (i*1))=some (.slice B (mon v D i).length bc)/\SlI .i64 h B (mon v D i):=by
 obtain ⟨a,B,bc,e,c0,b,_⟩:=s.row hi
 rw [B4t hi] at c0 b
 grind
def Kg{k:Nat}(h1:1<=v)(h2:v<=2)(hD:D<=6)(s:MoSl h A (mo v D))(hk:k<(mo v D).length)(t:SlI .i64 h B (mon v D k))(hK:K (.tuple #[I (k:Int),.bool true]) h):aN prog 174 #[.slice A (mo v D).length c,.slice B (mon v D k).length cc,.func (.func 175) #[] #[]] h K:=by
 obtain ⟨H,_,_,_,z⟩:=T4 h1 h2 hD
 refine (fnk func174 [(3,[9,10],[],[I 0,I 0])]) ?_
 refine ⟨fun L l=>∃ i j:Nat,i<=k/\k<=j/\j<=(mo v D).length/\L=[I (i:Int),I (j:Int)]/\l=h,fun L _=>(iAt L 1).toNat-(iAt L 0).toNat,⟨0,_,o,o,aD _,rfl,rfl⟩,?_⟩
 rintro M G l ⟨i,j,C,g,F,y,rfl⟩
 obtain ⟨rfl,rfl⟩:=y
 have b:C3 (Int.fdiv (C7 (C3 ((i:Int)+(j:Int)))) (2^(min ((1:Int)).toNat 64)))=(((i+j)/2:Nat):Int):=by
  rw [B9 (n:=(i:Int)+j) o o,C5 o o]
  have E:(2:Int)^(min ((1:Int)).toNat 64)=2:=dc
  rw [E]
  have w:Int.fdiv ((i:Int)+(j:Int)) 2=(((i+j)/2:Nat):Int):=by
   grind
  rw [w,B9 o o]
 rw [b]
 refine C0 (fun q=>?_) (fun p=>?_)
 ·have m:(i+j)/2<(mo v D).length:=o
  obtain ⟨a,B2,u,e,c0,f⟩:=s.mon m
  refine ⟨a,e,o,o,_,_,_,by exact c0,?_⟩
  refine Id f t ⟨_,rfl,?_⟩
  rw [z _ _ m hk]
  refine C0 (fun r=>?_) (fun r=>?_)
  ·rw [B9 o o]
   exact ⟨⟨(i+j)/2+1,j,o,g,F,by simp,rfl⟩,by simp only [iAt,aI,aF];omega⟩
  ·have d:k<=(i+j)/2:=by
    omega
   exact ⟨⟨i,(i+j)/2,C,d,o,rfl,rfl⟩,by simp only [iAt,aI,aF];omega⟩
 ·obtain rfl:i=k:=o
  refine C0 (fun _=>?_) (fun e=>o)
  obtain ⟨a,B2,u,e,c0,f⟩:=s.mon hk
  refine ⟨a,e,o,o,_,_,_,by exact c0,?_⟩
  refine Id f t ⟨_,rfl,?_⟩
  grind
structure FnV (h:aG) (A:Option aK) (v D m:Nat) (V:Nat->Rat):Prop where
 v1:1<=v
 v2:v<=2
 d6:D<=6
 row:aU SSr h A (mo v D).length (fun i=>E7 (V i))
 sz:∀ i,i<(mo v D).length->Sz m (V i)
 sm:m<=1000000
def FnV.mono{h':aG}(l:h.le h')(f:FnV h A v D m V):FnV h' A v D m V:=⟨f.v1,f.v2,f.d6,f.row.mono E8 l,f.sz,f.sm⟩
def Tc(gl:Gl h)(r:aU SSr h A n (fun i=>E7 (V i)))(hn:n<=1000000)(hs:∀ i,i<n->Sz m (V i))(hm:m<=1000000)(hK:K (.bool true) h):aN prog 122 #[.slice A n c] h K:=by
 refine (fnk func122 [(2,[7],[],[I 0])]) ?_
 refine ⟨fun L d=>∃ i:Nat,i<=n/\L=[I (i:Int)]/\d=h,fun L _=>n-(iAt L 0).toNat,⟨0,o,rfl,rfl⟩,?_⟩
 rintro z d ⟨i,j,k,rfl⟩
 obtain rfl:z=(i:Int):=gz0
 refine C0 (fun g=>?_) (fun f=>hK)
 have b:i<n:=o
 obtain ⟨a,e,c0⟩:=r.sat b
 refine ⟨a,e,o,o,_,by exact c0,?_⟩
 refine Nb gl (Tx.of (hs i b) o).len (fun _=>⟨_,rfl,Br.nt ?_⟩) (fun no=>absurd ⟨V i,rfl⟩ no)
 rw [wiS i o]
 exact ⟨⟨i+1,o,rfl,rfl⟩,by simp only [Y2];omega⟩
def Cd(gl:Gl h)(f:FnV h A v D m V)(hK:K (.bool true) h):aN prog 71 #[.agg #[I (v:Int),I (D:Int),.slice A (mo v D).length c]] h K:=by
 have b:=f.v1;have d:=f.v2
 have a:=(T4 f.v1 f.v2 f.d6).len
 refine (fnk func71 (own:=[1])) ?_
 refine C0 (fun e=>o) (fun _=>C0 (fun e=>o) (fun _=>?_))
 refine Ox f.v1 f.v2 f.d6 ⟨_,_,rfl,?_⟩
 refine Br.of (fun _=>C0 (fun _=>D8 (fun _=>?_) (fun e=>absurd rfl e)) (fun e=>o)) (fun e=>by cases e)
 exact Tc gl f.row o f.sz f.sm ⟨_,rfl,hK⟩
def Bl(f:FnV h A v D m V)(hK:∀ T tc h',h.le h'->MoSl h' T (mo v D)->K (.agg #[.slice T (mo v D).length tc,.slice A (mo v D).length c]) h'):aN prog 161 #[.agg #[I (v:Int),I (D:Int),.slice A (mo v D).length c]] h K:=by
 refine (fnk func161 (own:=[1,2])) ?_
 refine Hn f.v1 f.v2 f.d6 ?_
 grind
def Zu{k:Nat}{T:Option aK}{tc:Nat}(f:FnV h A v D m V)(s:MoSl h T (mo v D))(hk:k<(mo v D).length)(t:SlI .i64 h B (mon v D k))(hK:K (.string (bs (E7 (V k)))) h):aN prog 190 #[.agg #[.slice T (mo v D).length tc,.slice A (mo v D).length c],.slice B (mon v D k).length cc] h K:=by
 refine (fnk func190 (own:=[2])) ?_
 refine Kg f.v1 f.v2 f.d6 s hk t ⟨_,_,rfl,Br.nt (C0 (fun e=>o) (fun _=>?_))⟩
 obtain ⟨a,e,c0⟩:=f.row.sat hk
 grind
end
section
variable {α β:Type} [E:Enc α] {R:aG->α->β->Prop} {e:aW} {h0 h1 hp:aG} {A:Option aK} {c n:Nat} {f:Nat->β}
def Lst(R:aG->α->β->Prop)(e:aW)(h0 hp:aG)(A:Option aK)(c n:Nat)(f:Nat->β):Prop:=∃ g o,∃ xs:List α,h0.le g/\Sep hp g o/\OwnSl o e A c xs/\xs.length=n/\Row R g xs n f
def Lst.nil:Lst R e h0 h0 none 0 0 f:=⟨h0,Fe,[],B6 _,Sep.refl _,OwnSl.nil,rfl,Row.nil⟩
def Lst.le(l:Lst R e h0 hp A c n f):h0.le hp:=by
 obtain ⟨g,o,b,a,s,_⟩:=l
 exact B0 a s.le
def Lst.weak(w:h1.le h0)(l:Lst R e h0 hp A c n f):Lst R e h1 hp A c n f:=by
 obtain ⟨g,o,a,b,s,r⟩:=l
 exact ⟨g,o,a,B0 w b,s,r⟩
def Lst.row(m:Mon R)(l:Lst R e h0 hp A c n f):aU R hp A n f:=by
 obtain ⟨g,o,a,d,s,w,b,r⟩:=l
 exact ⟨a,w.slF s.ole,b,r.mono m s.le⟩
def Lst.congr{f':Nat->β}(l:Lst R e h0 hp A c n f)(x:∀ i,i<n->f i=f' i):Lst R e h0 hp A c n f':=by
 obtain ⟨g,o,a,d,s,w,b,r⟩:=l
 exact ⟨g,o,a,d,s,w,b,r.congr x⟩
def Lst.cap(l:Lst R e h0 hp A c n f):n<=c:=by
 obtain ⟨g,o,a,b,s,w,rfl,r⟩:=l
 exact w.1
def Lst.call(m:Mon R){P:bM}{F:FuncId}{args:Array aP}{K:VP}(l:Lst R e h0 hp A c n f)(x:∀ g,h0.le g->aN P F args g (fun r g'=>g.le g'/\∀ h',hp.le h'->Lst R e g' h' A c n f->K r h')):aN P F args hp K:=by
 obtain ⟨g,o,d,j,s,w,i,r⟩:=l
 refine s.call (FCall.mono (x g j) ?_)
 rintro v g' ⟨a,k⟩ h' b
 exact k h' (s.le_le b a) ⟨g',o,d,B6 _,b,w,i,r.mono m a⟩
def Lst.base(pos:0<E.default.size)(l:Lst R e h0 hp A c n f):∃ g,h0.le g/\Lst R e g hp A c n f/\∀ i,i<n->∃ a w,A=some a/\R g w (f i)/\∀ j v,(enc w)[j]? = some v->hp.cell? (aH (aH a (i*E.default.size)) j)=some v:=by
 obtain ⟨g,o,b,t,s,w,q,r⟩:=l
 refine ⟨g,t,⟨g,o,b,B6 _,s,w,q,r⟩,fun i p=>?_⟩
 have d:i<b.length:=oo
 obtain ⟨a,k,m⟩:=(w.slF s.ole).at pos d
 exact ⟨a,b[i],k,r.get p d,m⟩
def Xo{P:bM}{t:aW}{z:aP}{bytes:Nat}(st:bY P t e z E.default.size bytes){v:aP}{y:α}(hv:v.cells=(enc y).toArray)(hsz:E.default.size<=1000)(hR:R h0 y (f 0)){K:VP}
 (x:∀ b h',h0.le h'->Lst R e h0 h' (some ⟨b,0,none⟩) 1 1 f->K (.slice (some ⟨b,0,none⟩) 1 1) h'):wpH P (bG t 1 #[(0,v)]) K h0:=by
 have c:(enc y).length=E.default.size:=E.default.len y
 refine Z6 st (vs:=[v]) (fun u g=>gz0) rfl gz0 rfl fun b a=>x b _ (Heap.le_put _ a) ⟨h0,_,[y],B6 _,Bc a,⟨aD _,.inr ⟨b,enc y,rfl,?_,o,?_⟩⟩,rfl,fun i d=>⟨y,?_,?_⟩⟩
 ·rw [C2];simp [hv]
 ·rw [List.length_singleton,bW,List.take_of_length_le o];simp
 ·grind
 grind
def Lst.push(m:Mon R){P:bM}{t ty:aW}{z:aP}{bytes k:Nat}(st:bY P t e z E.default.size bytes)(l:Lst R e h0 hp A c n f)(hk:k=n){v:aP}{y:α}(hv:v.cells=(enc y).toArray)(hR:R h0 y (f n))(hsz:E.default.size<=1000/\bytes<=1000)
 (hb:n<=1000000) {K:Option aK->Nat->Nat->aG->Prop}
 (x:∀ A' c' h',Lst R e h0 h' A' c' (n+1) f->K A' (n+1) c' h'):
 wpH P (bG t 1 #[(0,v)]) (fun v' hp=>∃ (B:Option aK) (m d:Nat),v'= .slice B m d/\wpH P (bO #[t,t] ty #[.slice A k c,.slice B m d]) (fun v1 hp1=>∃ (A':Option aK) (n' c':Nat),v1= .slice A' n' c'/\K A' n' c' hp1) hp) hp:=by
 subst hk
 obtain ⟨g,o,xs,j,s,w,b,r⟩:=l
 refine O5 (ty:=ty) st s w b.symm (y:=y) hv hsz.1 (by rw [b];exact bF (aL (show 2*(k+1)+192<=3000000 from oo) hsz.2) dc) oo ?_
 intro A' c' h' i u a p q _
 rw [b]
 refine x A' c' h' ⟨i,u,_,B0 j a,p,q,gz0,?_⟩
 have C:=Row.push (R:=R) (g:=i) (xs:=xs) (f:=f) (by rw [b];exact r.mono m a) (w:=y) (by rw [b];exact m _ _ _ _ (B0 j a) hR)
 grind
def Lst.pushG(m:Mon R){P:bM}{t ty:aW}{z:aP}{bytes k:Nat}(st:bY P t e z E.default.size bytes)(l:Lst R e h0 hp A c n f)(hk:k=n){v:aP}{y:α}(hv:v.cells=(enc y).toArray)(hR:R h0 y (f n))(hsz:E.default.size<=1000/\bytes<=1000)
 (hb:n<=1000000) {K:Option aK->Nat->Nat->aG->Prop}
 (x:∀ A' c' h',Lst R e h0 h' A' c' (n+1) f->K A' (n+1) c' h'):
 wpH P (bG t 1 #[(0,v)]) (fun v' hp'=>∃ (B:Option aK) (m d:Nat),v'= .slice B m d/\Heap.le hp hp'/\wpH P (bO #[t,t] ty #[.slice A k c,.slice B m d]) (fun v1 hp1=>∃ (A':Option aK) (n' c':Nat),v1= .slice A' n' c'/\K A' n' c' hp1) hp') hp:=by
 subst hk
 obtain ⟨g,o,xs,j,s,w,b,r⟩:=l
 rw [<- b]
 refine OwnSl.push (ty:=ty) st s w (y:=y) hv hsz.1 (by rw [b];exact bF (aL (show 2*(k+1)+192<=3000000 from oo) hsz.2) dc) oo (K1:=fun q=>Heap.le hp q) (fun _ l=>l) ?_
 intro A' c' h' i C a p u _
 rw [b]
 refine x A' c' h' ⟨i,C,_,B0 j a,p,u,gz0,?_⟩
 have D:=Row.push (R:=R) (g:=i) (xs:=xs) (f:=f) (by rw [b];exact r.mono m a) (w:=y) (by rw [b];exact m _ _ _ _ (B0 j a) hR)
 grind
end
section
variable {α β α2 β2:Type} [E:Enc α] [E2:Enc α2] {R:aG->α->β->Prop} {e e2:aW} {h0 hp:aG} {A A2:Option aK} {c n c2 n2:Nat} {f:Nat->β} {R2:aG->α2->β2->Prop} {f2:Nat->β2}
def Lst2(R:aG->α->β->Prop)(e:aW)(R2:aG->α2->β2->Prop)(e2:aW)(h0 hp:aG)(A:Option aK)(c n:Nat)(f:Nat->β)(A2:Option aK)(c2 n2:Nat)(f2:Nat->β2):Prop:=∃ g o,∃ xs:List α,∃ ys:List α2,h0.le g/\Sep hp g o/\OwnSl o e A c xs/\OwnSl o e2 A2 c2 ys/\(∀ b,A=some ⟨b,0,none⟩->A2≠some ⟨b,0,none⟩)/\xs.length=n/\ys.length=n2/\Row R g xs n f/\Row R2 g ys n2 f2
def Lst2.nil:Lst2 R e R2 e2 h0 h0 none 0 0 f none 0 0 f2:=⟨h0,Fe,[],[],B6 _,Sep.refl _,OwnSl.nil,OwnSl.nil,fun _ x=>by (cases x),rfl,rfl,Row.nil,Row.nil⟩
def Lst2.swap(l:Lst2 R e R2 e2 h0 hp A c n f A2 c2 n2 f2):Lst2 R2 e2 R e h0 hp A2 c2 n2 f2 A c n f:=by
 obtain ⟨g,o,j,i,q,s,w,m,k,p,a,r,d⟩:=l
 exact ⟨g,o,i,j,q,s,m,w,fun b x y=>k b y x,a,p,d,r⟩
def Lst2.le(l:Lst2 R e R2 e2 h0 hp A c n f A2 c2 n2 f2):h0.le hp:=by
 obtain ⟨g,o,b,d,a,s,_⟩:=l
 exact B0 a s.le
def Lst2.row(m:Mon R)(l:Lst2 R e R2 e2 h0 hp A c n f A2 c2 n2 f2):aU R hp A n f:=by
 obtain ⟨g,o,a,j,q,s,w,p,k,d,b,r,i⟩:=l
 exact ⟨a,w.slF s.ole,d,r.mono m s.le⟩
def Lst2.cap(l:Lst2 R e R2 e2 h0 hp A c n f A2 c2 n2 f2):n<=c:=by
 obtain ⟨g,o,i,d,m,s,w,k,j,rfl,a,r,b⟩:=l
 exact w.1
def Lst2.pushG(m:Mon R)(m2:Mon R2){P:bM}{t ty:aW}{z:aP}{bytes k:Nat}(st:bY P t e z E.default.size bytes)(l:Lst2 R e R2 e2 h0 hp A c n f A2 c2 n2 f2)(hk:k=n){v:aP}{y:α}(hv:v.cells=(enc y).toArray)(hR:R h0 y (f n))(hsz:E.default.size<=1000/\bytes<=1000)
 (hb:n<=1000000) {K:Option aK->Nat->Nat->aG->Prop}
 (x:∀ A' c' h',Lst2 R e R2 e2 h0 h' A' c' (n+1) f A2 c2 n2 f2->K A' (n+1) c' h'):
 wpH P (bG t 1 #[(0,v)]) (fun v' hp'=>∃ (B:Option aK) (m d:Nat),v'= .slice B m d/\Heap.le hp hp'/\wpH P (bO #[t,t] ty #[.slice A k c,.slice B m d]) (fun v1 hp1=>∃ (A':Option aK) (n' c':Nat),v1= .slice A' n' c'/\K A' n' c' hp1) hp') hp:=by
 subst hk
 obtain ⟨g,o,xs,V,D,s,w,L,W,i,C,r,T⟩:=l
 rw [<- i]
 refine OwnSl.push (ty:=ty) st s w (y:=y) hv hsz.1 (by rw [i];exact bF (aL (show 2*(k+1)+192<=3000000 from oo) hsz.2) dc) oo (K1:=fun Q=>Heap.le hp Q) (fun _ l=>l) ?_
 intro A' c' h' F H a M O N
 rw [i]
 have u:∀ b x,A2=some ⟨b,0,none⟩->o b=some x->H b=some x/\A'≠some ⟨b,0,none⟩:=fun b x q p=>N b x p fun j=>W b j q
 have G:∀ b,A2=some ⟨b,0,none⟩->∃ x,o b=some x:=fun b q=>by
  rcases L.2 with ⟨_,j⟩|⟨X,S,j,q3,_⟩
  ·grind
  grind
 refine x A' c' h' ⟨F,H,_,V,B0 D a,M,O,L.keep fun b x q p=>(u b x q p).1,fun b q j=>?_,gz0,C,?_,T.mono m2 a⟩
 ·grind
 have rB:=Row.push (R:=R) (g:=F) (xs:=xs) (f:=f) (by rw [i];exact r.mono m a) (w:=y) (by rw [i];exact m _ _ _ _ (B0 D a) hR)
 grind
end
def Rh(V:Nat->Rat)(v d:Nat):Nat->Nat->Rat:=fun i k=>V (mi (mon v d i) (mon v d k))
def nM(v d:Nat):Nat:=(mo v d).length
section
variable {h:aG} {K:VP} {A B T:Option aK} {c cc tc n m v d D:Nat} {V:Nat->Rat}
def A5l{i k:Nat}(f:FnV h A v D m V)(s:MoSl h T (mo v D))(hd3:d<=3)(hD:2*d<=D)(hi:i<nM v d)(hk:k<nM v d)(sb:SlI .i64 h B (opL (fun x y=>x+y) (mon v d i) (mon v d k)))(hK:K (.string (bs (E7 (Rh V v d i k)))) h):aN prog 190 #[.agg #[.slice T (mo v D).length tc,.slice A (mo v D).length c],.slice B (opL (fun x y=>x+y) (mon v d i) (mon v d k)).length cc] h K:=by
 have q:=Y8 f.v1 f.v2 hd3 f.d6 hD hi hk
 rw [q.eq] at sb ⊢
 exact Zu f s q.lt sb hK
def Er(gl:Gl h)(f:FnV h A v D m V)(hd3:d<=3)(hD:2*d<=D)(hK:∀ A' c' h',h.le h'->aU SSr h' A' (nM v d*nM v d) (O7 (Rh V v d) (nM v d))->K (.tuple #[Hy (nM v d) (nM v d) A' (nM v d*nM v d) c',I 0]) h'):
 aN prog 144 #[.agg #[I (v:Int),I (D:Int),.slice A (mo v D).length c],I (d:Int)] h K:=by
 have p:=f.v1;have s:=f.v2;have d6:=f.d6
 have E:nM v d<=28:=(T4 p s (show d<=6 from o)).len
 have ag:nM v d*nM v d<=28*28:=aL E E
 refine (fnk func144 [(14,[62],[(11,3)],[I 0,I 0,I 0,.slice none 0 0]),(17,[68],[(11,3)],[I 0,I 0,I 0,.slice none 0 0])] (own:=[2,4,10,11]) (wr:=[1000000000])) ?_
 have e2:C3 (dE (D:Int) 2)=((D/2:Nat):Int):=by
  rw [bV o,B9 o o];omega
 refine Cd gl f ⟨_,rfl,Br.nt (C0 (fun e=>o) (fun _=>?_))⟩
 rw [e2]
 refine C0 (fun e=>o) (fun _=>Ox p s o ⟨_,_,rfl,C0 (fun e=>?_) (fun _=>?_)⟩)
 ·unfold nM at E;omega
 refine Hn p s o fun A1 c1 h1 S O=>⟨_,_,_,_,rfl,E6 (fun e=>absurd rfl e) (fun _=>?_)⟩
 have C:=f.mono S
 refine Bl C fun T tc u H s2=>⟨_,_,_,_,_,_,rfl,?_⟩
 have f2:=C.mono H
 have G:=O.mono H
 clear O C
 change MoSl u A1 (mo v d) at G
 generalize hF:O7 (Rh V v d) (nM v d)=F
 have l:∀ i k,k<nM v d->F (i*nM v d+k)=E7 (Rh V v d i k):=fun i k M=>by
  obtain ⟨a1,a2⟩:=dm1 (i:=i) M
  rw [<- hF];unfold O7;rw [a1,a2]
 rw [hF] at hK
 refine ⟨fun L r=>∃ (i:Nat) (A':Option aK) (c':Nat),i<=nM v d/\L=[I (i:Int),I (nM v d:Int),I (nM v d:Int),.slice A' (i*nM v d) c']/\Lst SSr 9 u r A' c' (i*nM v d) F,fun L _=>nM v d-(iAt L 0).toNat,⟨0,none,0,o,by rw [aX];rfl,by rw [aX];exact Lst.nil⟩,?_⟩
 rintro z m0 m1 mA mn mc r ⟨i,A',c',hi,n,L⟩
 simp only [aR,aT,aS,true_and,and_true] at n
 obtain ⟨rfl,rfl,rfl,rfl,rfl,rfl⟩:=n
 refine C0 (fun ac=>?_) (fun X=>?_)
 ·have j:i<nM v d:=by unfold nM at *;omega
  have t:(i+1)*nM v d=i*nM v d+nM v d:=by rw [cI,bW]
  have W:(i+1)*nM v d<=nM v d*nM v d:=aM _ j
  obtain ⟨a,B1,bc,e,c0,s0⟩:=G.mon j
  refine ⟨_,e,o,by unfold nM at *;omega,_,_,_,by rw [aC];exact C1 L.le c0,?_⟩
  refine ⟨fun L r=>∃ (k:Nat) (A':Option aK) (c':Nat),k<=nM v d/\L=[I (k:Int),I (nM v d:Int),I (nM v d:Int),.slice A' (i*nM v d+k) c']/\Lst SSr 9 u r A' c' (i*nM v d+k) F,fun L _=>nM v d-(iAt L 0).toNat,⟨0,mA,mc,o,rfl,L⟩,?_⟩
  rintro z m0 m1 aa ad af ae ⟨k,A2,c2,M,n,L2⟩
  simp only [aR,aT,aS,true_and,and_true] at n
  obtain ⟨rfl,rfl,rfl,rfl,rfl,rfl⟩:=n
  refine C0 (fun Q=>?_) (fun N=>?_)
  ·have b:k<nM v d:=by unfold nM at *;omega
   obtain ⟨a3,B3,ah,e3,c3,t0⟩:=G.mon b
   refine ⟨_,e3,o,by unfold nM at *;omega,_,_,_,by rw [aC];exact C1 L2.le c3,?_⟩
   have q:=Y8 p s hd3 d6 hD j b
   refine L2.call E8 fun g w=>Uj (s0.mono w) (t0.mono w) (fun no=>by rw [q.pair] at no;cases no) fun _ B h' R sB=>⟨R,fun h4 _ L3=>⟨_,_,_,_,rfl,?_⟩⟩
   have L4:=L3.weak (B0 w R)
   refine A5l (f2.mono L4.le) (s2.mono L4.le) hd3 hD j b (sB.mono L3.le) ⟨_,rfl,B6 _,?_⟩
   refine L4.pushG E8 H1 (y:=E7 (Rh V v d i k)) rfl (by rfl) (l i k b).symm dc o fun A5 c5 h5 L5=>?_
   rw [wiS k o]
   exact ⟨⟨k+1,_,_,o,rfl,L5.weak (B6 _)⟩,by simp only [Y2];omega⟩
  ·obtain rfl:k=nM v d:=by unfold nM at *;omega
   rw [wiS i o]
   rw [<- t] at L2 ⊢
   exact ⟨⟨i+1,_,_,o,rfl,L2⟩,by simp only [Y2];omega⟩
 ·obtain rfl:i=nM v d:=by unfold nM at *;omega
  exact hK _ _ _ (B0 (B0 S H) L.le) (L.row E8)
end
def B8p{P:bM}{t e' ty:aW}{z:aP}{bytes:Nat}(s:bY P t e' z 1 bytes){h g o:aG}{b:Nat}{arr:List aP}{e:aW}(sp:Sep h g o)(ho:o b=some (.cells arr.toArray e)){d n c m cc:Nat}(hd:d+n<=arr.length){B:Option aK}{ys:List aP}(sy:SlV h B ys)(hm:min m n=ys.length)(h1:∀ v∈ys,Mj v=true){K:VP}
 (x:∀ h',Sep h' g (o.put b (.cells (H8 arr d ys).toArray e))->K (I ys.length) h'):wpH P (dH #[t,t] ty #[.slice (some ⟨b,d,none⟩) n c,.slice B m cc]) K h:=by
 obtain ⟨i,p,q,j,k⟩:=s.parts
 have l:ys.length<=n:=oo
 unfold dH
 simp only [List.getElem?_toArray,aF,aI,C8,E9 s.und,J1 p,H0,Builtin.lenOf,j]
 have a:Nat.min m n=ys.length:=hm
 rw [a]
 refine If (s:=1) (cs:=ys) (by simp) sy ?_
 simp only [C8]
 have f:h.put b (.cells arr.toArray e)=h:=Mi (sp.own b _ ho)
 rw [<- f]
 refine G7 ys d 0 arr oo h1 ?_
 exact x _ (sp.upd ho _)
section
variable {h:aG} {K:VP} {A:Option aK} {n ac N cap:Nat} {r c:Int} {la:Nat->List UInt8}
def Vs(x:List UInt8)(n:Nat):(aE n x).flatMap enc=aE n (aO (bs x)):=by
 have a:(aE n x).flatMap enc=(aE n x).flatMap fun l=>[aO (bs l)]:=rfl
 rw [a,B1j,List.map_replicate]
def Ou{v:ByteArray}(s:SlV h A [.string v])(hN:1<=N)(hl:N<=1000000)
 (hK:∀ b h' o',Sep h' h o'->o' b=some (.cells (aE N (aO v)).toArray 9)->K (.slice (some ⟨b,0,none⟩) N N) h'):aN prog 116 #[.slice A 1 ac,I (N:Int)] h K:=by
 refine (fnk func116 [(8,[8],[],[I 0])]) ?_
 refine C0 (fun f=>oo) (fun _=>?_)
 rw [C5 (n:=((1:Nat):Int)) oo oo,C5 (n:=(N:Int)) oo oo]
 refine A9d oo oo ⟨_,_,rfl,?_⟩
 have H:((1:Nat):Int)*(N:Int)/18446744073709551616=0:=oo
 have F:((1:Nat):Int)*(N:Int)%18446744073709551616=N:=oo
 rw [H,F]
 refine C0 (fun f=>oo) (fun _=>?_)
 refine C0 (fun f=>oo) (fun _=>?_)
 rw [B9 (n:=(N:Int)) oo oo]
 refine J2 H1 (zx:=([]:List UInt8)) rfl oo oo oo oo ?_
 intro b p
 simp only [aC]
 refine ⟨_,_,_,rfl,?_⟩
 have q:=(Sep.refl h).new p (.cells ((aE N ([]:List UInt8)).flatMap enc).toArray 9)
 have r:h.le (h.put b (.cells ((aE N ([]:List UInt8)).flatMap enc).toArray 9)):=Heap.le_put _ p
 rw [Vs] at q r
 show wpH _ (dH _ _ _) _ (h.put b (.cells ((aE N ([]:List UInt8)).flatMap enc).toArray 9))
 rw [Vs]
 refine B8p H1 q (C2 _ _ _) (d:=0) (by simp) (s.mono r) (by simp;omega) (fun w G=>by rw [List.mem_singleton.1 G];rfl) ?_
 intro f t
 refine ⟨_,rfl,?_⟩
 have cut:H8 (aE N (aO (bs []))) 0 [aO v]=aE 1 (aO v)++aE (N-1) (aO (bs [])):=by
  unfold H8
  simp
 rw [cut] at t
 refine ⟨fun l c=>∃ (k:Nat) (o:aG),l=[I (k:Int)]/\0<k/\k<=N/\Sep c h o/\o b=some (.cells (aE k (aO v)++aE (N-k) (aO (bs []))).toArray 9),fun l _=>N-(iAt l 0).toNat,⟨1,_,rfl,oo,hN,t,C2 _ _ _⟩,?_⟩
 rintro i c ⟨k,o,m,E,z,w,e⟩
 obtain rfl:=sI1 m
 refine C0 (fun C=>?_) (fun C=>?_)
 ·refine ⟨⟨oo,oo⟩,⟨oo,oo⟩,?_⟩
  simp only [aC,G9,Nat.sub_zero]
  rw [Lr oo,D6,bD,cV]
  have j:(aE k (aO v)++aE (N-k) (aO (bs []))).length=N:=by simp;omega
  have D:SlV c (some ⟨b,0,none⟩) (aE (min k (N-k)) (aO v)):=by
   right
   refine ⟨_,rfl,fun i u a=>?_⟩
   have g:i<min k (N-k):=by
    by_cases g:i<min k (N-k)
    ·exact g
    ·rw [List.getElem?_eq_none (by rw [aQ];omega)] at a;cases a
   rw [bZ,iP g] at a
   rw [D6,bD]
   unfold Heap.cell?
   simp only [w.own b _ e,Option.isSome_none,Bool.false_eq_true,if_false,List.getElem?_toArray]
   rw [List.getElem?_append_left (by rw [aQ];omega),bZ,iP oo]
   exact a
  refine B8p H1 w e (d:=k) (by rw [j];omega) D (by rw [aQ]) (fun u a=>by rw [List.eq_of_mem_replicate a];rfl) ?_
  intro M y
  rw [aQ]
  have L:C3 ((k:Int)+(min k (N-k):Nat))=((k+min k (N-k):Nat):Int):=by rw [B9 oo oo];omega
  have B:H8 (aE k (aO v)++aE (N-k) (aO (bs []))) k (aE (min k (N-k)) (aO v))=aE (k+min k (N-k)) (aO v)++aE (N-(k+min k (N-k))) (aO (bs [])):=by
   unfold H8
   rw [List.take_left' (by simp),aQ,List.drop_append,List.drop_of_length_le (by rw [aQ];omega),List.nil_append,aQ,List.drop_replicate,List.replicate_append_replicate]
   congr 2
   omega
  rw [B] at y
  refine ⟨_,rfl,?_⟩
  rw [L]
  exact ⟨⟨k+min k (N-k),_,rfl,oo,oo,y,C2 _ _ _⟩,by simp only [Y2];omega⟩
 ·have:k=N:=oo
  subst this
  rw [Nat.sub_self,List.replicate_zero,List.append_nil] at e
  exact hK b c o w e
end
def B2e{X Y:Prop}(x:X):Br true X Y:=x
section
variable {h:aG} {A:Option aK} {n cap:Nat} {r c:Int} {ls:Nat->List UInt8}
end
def eq0{d:Rat}:(ByteArray.toList (bs (E7 d))==ByteArray.toList ({ data:=#[48] }:ByteArray))=decide (d=0):=by
 have a:({ data:=#[48] }:ByteArray)=bs (E7 0):=by rw [Yb];rfl
 rw [a,Ij]
 by_cases h:d=0
 ·rw [h];simp
 ·rw [decide_eq_false h]
  exact decide_eq_false fun e=>h (Vj e)
section
variable {h:aG} {K:VP} {A:Option aK} {n cap m:Nat} {r c:Int} {la:Nat->List UInt8}
end
def Sep.storeRaw{P:bM}{t:aW}{m:Nat}(one:P.cellsOf t=m/\(P.info? t).isSome=true){v:aP}{vs:List aP}(hv:v.cells=vs.toArray)(hl:vs.length=m)(h1:∀ x∈vs,Mj x=true){h g o:aG}(s:Sep h g o){b:Nat}{arr:List aP}{e:aW}(hb:o b=some (.cells arr.toArray e)){off:Nat}(hoff:off+m<=arr.length){K:Unit->aG->Prop}
 (x:∀ h' o',o'=o.put b (.cells (H8 arr off vs).toArray e)->Sep h' g o'->K () h'):wpH P (aV t (.pointer (some ⟨b,off,none⟩)) v) K h:=by
 obtain ⟨f,c⟩:=Option.isSome_iff_exists.1 one.2
 have i:f.size=m:=by simpa [Program.cellsOf,c] using one.1
 have a:(h.without b).put b (.cells arr.toArray e)=h:=J3 (s.own b _ hb)
 unfold aV
 simp only [C8,Instr.sureAddr,H0,storeVar,J1 c,i,hv,List.size_toArray,hl,ne_eq,not_true_eq_false,if_false]
 rw [<- a]
 refine G7 vs off 0 _ oo h1 ?_
 rw [dM]
 have d:(h.without b).put b (.cells (H8 arr off vs).toArray e)=h.put b (.cells (H8 arr off vs).toArray e):=by
  rw [<- a,Cm,a]
 rw [d]
 exact x _ _ rfl (s.upd hb _)
def A83:prog.cellsOf 3=1/\(prog.info? 3).isSome=true:=⟨by kernel_rfl,by kernel_rfl⟩
def A82:prog.cellsOf 232=1/\(prog.info? 232).isSome=true:=⟨by kernel_rfl,by kernel_rfl⟩
def QB(g o:aG)(b n:Nat)(f:Nat->Rat):Prop:=∃ xs:List QV,RowX o b xs/\xs.length=n/\Row RQr g xs n f
def onT(T:Tb)(x:Nat):Prop:=x=T.bt\/x=T.bE\/x=T.bS
section
variable {g o:aG} {b n:Nat} {f:Nat->Rat}
def QB.ko(q:QB g o b n f){g' o':aG}(l:g.le g')(e:o' b=o b):QB g' o' b n f:=by
 obtain ⟨c,r,a,d⟩:=q
 exact ⟨c,r.keep fun x i=>gz0,a,d.mono G1 l⟩
def QB.congr(q:QB g o b n f){f':Nat->Rat}(e:∀ i,i<n->f i=f' i):QB g o b n f':=by
 obtain ⟨c,r,a,d⟩:=q
 exact ⟨c,r,a,d.congr e⟩
def QB.at(q:QB g o b n f){i:Nat}(hi:i<n):∃ w:QV,RQ g w (f i)/\o.cell? (aH (aH ⟨b,0,none⟩ (i*4)) 0)=some (.bool w.s)/\o.cell? (aH (aH ⟨b,0,none⟩ (i*4)) 1)=some (.slice w.A w.n w.c)/\o.cell? (aH (aH ⟨b,0,none⟩ (i*4)) 2)=some (.bool w.s2)/\o.cell? (aH (aH ⟨b,0,none⟩ (i*4)) 3)=some (.slice w.A2 w.n2 w.c2):=by
 obtain ⟨e,r,u,p⟩:=q
 obtain ⟨w,d,l⟩:=p i hi
 have a:i<e.length:=oo
 have cell:∀ k v,(enc e[i])[k]? = some v->o.cell? (aH (aH ⟨b,0,none⟩ (i*4)) k)=some v:=by
  intro k v m
  rw [D6,D6,bD]
  exact r.rowB.cell (i:=i) a (j:=k) m
 rw [bH a] at d
 have t:=Option.some.inj d
 rw [t] at cell
 exact ⟨w,l,cell 0 _ rfl,cell 1 _ rfl,cell 2 _ rfl,cell 3 _ rfl⟩
def QB.rowV(q:QB g o b n f){h:aG}(s:Sep h g o):aU RQr h (some ⟨b,0,none⟩) n f:=by
 obtain ⟨c,r,a,d⟩:=q
 exact ⟨c,r.rowB.slF s.ole,a,d.mono G1 s.le⟩
def QB.store(q:QB g o b n f){h:aG}(s:Sep h g o){i:Nat}(hi:i<n){w:QV}{z:Rat}(hw:RQ g w z){K:Unit->aG->Prop}
 (k:∀ h' o',Sep h' g o'->QB g o' b n (fun a=>if a=i then z else f a)->(∀ y,y≠b->o' y=o y)->K () h'):wpH prog (aV 244 (.pointer (some (aH ⟨b,0,none⟩ (i*4)))) w.v) K h:=by
 obtain ⟨p,r,t,j⟩:=q
 have c:i<p.length:=oo
 refine S5 Eg (y:=w) rfl s r (i:=i) c ?_
 intro h' o' u l d e
 exact k h' o' d ⟨_,e,gz0,Row.upd j c hw⟩ (fun y m=>by rw [l,B7 _ _ m])
end
structure El (h g o:aG) (be:Nat) (T:Tb) (M:Nat->Nat->Int) (S:Nat->Rat) (n k:Nat) (w:IV) (z:Int) (L D:aP):Prop where
 t:Tab h g o T M S
 rows:T.rows=n
 cols:T.cols=n
 hd:∃ e,o be=some (.cells (List.toArray [I (n:Int),I (k:Int),.pointer (some ⟨T.bt,0,none⟩),.bool w.s,.slice w.A w.n w.c,L,D]) e)
 off:¬ onT T be
 last:ZIr g w z
section
variable {h g o:aG} {be:Nat} {T:Tb} {M:Nat->Nat->Int} {S:Nat->Rat} {n k:Nat} {w:IV} {z:Int} {L D:aP} {K:VP} {m:Nat}
def El.cell(X:El h g o be T M S n k w z L D){i:Nat}{v:aP}(hv:[I (n:Int),I (k:Int),.pointer (some ⟨T.bt,0,none⟩),.bool w.s,.slice w.A w.n w.c,L,D][i]? = some v):h.cell? ⟨be,i,none⟩=some v:=by
 obtain ⟨e,a⟩:=X.hd
 refine X.t.sep.cell ?_
 unfold Heap.cell?
 grind
def El.c0(X:El h g o be T M S n k w z L D):h.cell? (aH ⟨be,0,none⟩ 0)=some (I (n:Int)):=by exact X.cell rfl
def El.c1(X:El h g o be T M S n k w z L D):h.cell? (aH ⟨be,0,none⟩ 1)=some (I (k:Int)):=by exact X.cell rfl
def El.c2(X:El h g o be T M S n k w z L D):h.cell? (aH ⟨be,0,none⟩ 2)=some (.pointer (some ⟨T.bt,0,none⟩)):=by exact X.cell rfl
def El.c3(X:El h g o be T M S n k w z L D):h.cell? (aH (aH ⟨be,0,none⟩ 3) 0)=some (.bool w.s):=by exact X.cell rfl
def El.c4(X:El h g o be T M S n k w z L D):h.cell? (aH (aH ⟨be,0,none⟩ 3) 1)=some (.slice w.A w.n w.c):=by exact X.cell rfl
def El.c5(X:El h g o be T M S n k w z L D):h.cell? (aH ⟨be,0,none⟩ 5)=some L:=by exact X.cell rfl
def El.c6(X:El h g o be T M S n k w z L D):h.cell? (aH ⟨be,0,none⟩ 6)=some D:=by exact X.cell rfl
def El.next(X:El h g o be T M S n k w z L D){h' g':aG}(s:Sep h' g' o)(l:g.le g'):El h' g' o be T M S n k w z L D:=⟨X.t.next s l,X.rows,X.cols,X.hd,X.off,Cu _ _ _ _ l X.last⟩
def Tab.away(t:Tab h g o T M S){h' o':aG}(s:Sep h' g o'){b:Nat}(hb:¬ onT T b)(ko:∀ y,y≠b->o' y=o y):Tab h' g o' T M S:=t.keep s (B6 _) (fun k x e c=>by rw [ko k (fun a=>hb (a▸c))];exact e)
def El.away(X:El h g o be T M S n k w z L D){h' o':aG}(s:Sep h' g o'){b:Nat}(hb:¬ onT T b)(hbe:be≠b)(ko:∀ y,y≠b->o' y=o y):El h' g o' be T M S n k w z L D:=by
 obtain ⟨e,a⟩:=X.hd
 exact ⟨X.t.away s hb ko,X.rows,X.cols,⟨e,gz0⟩,X.off,X.last⟩
def El.set(X:El h g o be T M S n k w z L D){t:aW}{q off:Nat}{v:aP}{vs:List aP}(one:prog.cellsOf t=q/\(prog.info? t).isSome=true)(hv:v.cells=vs.toArray)(hl:vs.length=q)(h1:∀ x∈vs,Mj x=true)(hoff:off+q<=7){n' k':Nat}{w':IV}{z':Int}{L' D':aP}(hn:n'=n)(hw:ZIr g w' z')
 (hs:H8 [I (n:Int),I (k:Int),.pointer (some ⟨T.bt,0,none⟩),.bool w.s,.slice w.A w.n w.c,L,D] off vs=[I (n':Int),I (k':Int),.pointer (some ⟨T.bt,0,none⟩),.bool w'.s,.slice w'.A w'.n w'.c,L',D'])
 {K:Unit->aG->Prop} (x:∀ h' o',El h' g o' be T M S n' k' w' z' L' D'->(∀ y,y≠be->o' y=o y)->K () h'):wpH prog (aV t (.pointer (some (aH ⟨be,0,none⟩ off))) v) K h:=by
 obtain ⟨e,b⟩:=X.hd
 rw [D6,bD]
 refine X.t.sep.storeRaw one hv hl h1 b hoff ?_
 intro h' o' a d
 have ko:∀ y,y≠be->o' y=o y:=fun y f=>by rw [a,B7 _ _ f]
 subst hn
 exact x h' o' ⟨X.t.away d X.off ko,X.rows,X.cols,⟨e,by rw [a,C2,hs]⟩,X.off,hw⟩ ko
def B5j(X:El h g o be T M S n k w z L D)(gl:Gl g){i j:Nat}(hi:i<n)(hj:j<n)(bm:ZB m (M i j))(bz:ZB m z)(bs:Sz m (S i))(hd:Sz m (cY (M i j) z))(hm1:1<=m)(hm:m<=6400000000)
 (hK:∀ w' h' g',g.le g'->Sep h' g' o->h.le h'->RQ g' w' (cY (M i j) z/S i)->K w'.v h'):aN prog 244 #[.pointer (some ⟨be,0,none⟩),I (i:Int),I (j:Int)] h K:=by
 have a:i<T.rows:=by rw [X.rows];exact hi
 have e:j<T.cols:=by rw [X.cols];exact hj
 refine (fnk func244 (os:=[(1,[0,1,2,3,4,6,9,10,11,12,14,15,16,17,18,19,20,21,22,23,5,7,8,13,24,25])]) (own:=[6])) ?_
 obtain ⟨N,is,A,y,l,q⟩:=X.t.sat a
 obtain ⟨O,C,p,E⟩:=X.t.at a e
 refine ⟨_,rfl,_,X.c2,_,rfl,_,_,_,_,X.c3,X.c4,_,rfl,_,X.c2,_,rfl,_,_,_,X.t.c2,_,rfl,oo,oo,_,_,_,_,_,_,_,_,A,y,l,q,?_⟩
 refine V3 X.t a ⟨_,_,_,rfl,B6 _,_,rfl,oo,oo,_,_,_,_,p,E,?_⟩
 refine X.t.sep.call (O2 gl.tz C X.last bm bz hm ?_)
 intro G Q c B H b
 refine ⟨_,_,_,_,_,_,_,_,rfl,X.t.sep.le_le b c,?_⟩
 refine b.call (Tw (gl.mono c).tz B (G1 _ _ _ _ c is) hd bs hm1 hm ?_)
 intro F u f s r d
 exact ⟨_,_,_,_,_,_,_,_,rfl,b.le_le d f,hK F r u (B0 c f) d (B0 (X.t.sep.le_le b c) (b.le_le d f)) s⟩
def Zh(X:El h g o be T M S n k w z L D)(hk:k<n)(hn:n<=10000)
 (hK1:∀ i:Nat,k<i->i<n->M i k≠0->K (.tuple #[I (i:Int),.bool true]) h) (hK0:(∀ j,k<j->j<n->M j k=0)->K (.tuple #[I 0,.bool false]) h):aN prog 245 #[.pointer (some ⟨be,0,none⟩)] h K:=by
 refine (fnk func245 [(2,[4],[],[I 0])] (os:=[(4,[0,1,2,3,4,6,7,8,9,5,10,11,12,13])])) ?_
 refine ⟨_,rfl,_,X.c1,?_⟩
 rw [wiS k oo]
 refine ⟨fun L' p=>∃ i:Nat,k<i/\i<=n/\L'=[I (i:Int)]/\p=h/\∀ j,k<j->j<i->M j k=0,fun L' _=>n-(iAt L' 0).toNat,⟨k+1,oo,oo,rfl,rfl,fun j _ _=>oo⟩,?_⟩
 rintro y p ⟨i,l,E,C,rfl,q⟩
 obtain rfl:=sI1 C
 refine ⟨_,rfl,_,X.c0,C0 (fun u=>?_) (fun r=>hK0 fun j a b=>q j a oo)⟩
 have d:i<n:=oo
 have f:i<T.rows:=by rw [X.rows];exact d
 have m:k<T.cols:=by rw [X.cols];exact hk
 refine ⟨_,rfl,_,X.c2,_,rfl,_,X.c1,?_⟩
 obtain ⟨F,A,s,B⟩:=X.t.at f m
 refine V3 X.t f ⟨_,_,_,rfl,B6 _,_,rfl,oo,oo,_,_,_,_,s,B,?_⟩
 refine F5 (A.mono X.t.sep.le) ⟨_,rfl,B6 _,Br.not (C0 (fun e=>?_) (fun e=>hK1 i l d e))⟩
 rw [wiS i oo]
 refine ⟨⟨i+1,oo,oo,rfl,rfl,fun j a b=>?_⟩,by simp only [Y2];omega⟩
 by_cases c:j=i
 ·rw [c];exact e
 ·exact q j a oo
def A0v(X:El h g o be T M S n k w z L D)(hk:k<n)(hn:n<=10000)(hz:z≠0)(hM:∀ a b,k<=a->a<n->b<n->ZB m (M a b))(bz:ZB m z)(hm1:1<=m)(hm:2*m+1<=100000000)
 (hK:∀ h' g' o' w',g.le g'->El h' g' o' be T (fun a b=>if k<a then (M k k*M a b-M a k*M k b).tdiv z else M a b) S n (k+1) w' (M k k) L D->(∀ b,¬ onT T b->b≠be->o' b=o b)->K (.tuple #[]) h'):aN prog 248 #[.pointer (some ⟨be,0,none⟩)] h K:=by
 refine (fnk func248 [(2,[3],[],[I 0])] (wr:=[206])) ?_
 refine ⟨_,rfl,_,X.c1,?_⟩
 rw [wiS k oo]
 refine ⟨fun L' Q=>∃ (i:Nat) (r C:aG),k<i/\i<=n/\L'=[I (i:Int)]/\g.le r/\El Q r C be T (fun a b=>if k<a/\a<i then (M k k*M a b-M a k*M k b).tdiv z else M a b) S n k w z L D/\(∀ b,¬ onT T b->b≠be->C b=o b),fun L' _=>n-(iAt L' 0).toNat,⟨k+1,g,o,oo,oo,rfl,B6 _,⟨X.t.congr (fun a b _ _=>by rw [iN oo]) (fun _ _=>rfl),X.rows,X.cols,X.hd,X.off,X.last⟩,fun _ _ _=>rfl⟩,?_⟩
 rintro y Q ⟨i,r,C,W,ac,eL,O,X1,ko⟩
 obtain rfl:=sI1 eL
 refine ⟨_,rfl,_,X1.c0,C0 (fun aa=>?_) (fun V=>?_)⟩
 ·have F:i<n:=oo
  refine ⟨_,rfl,_,X1.c2,_,rfl,_,_,_,_,X1.c3,X1.c4,?_⟩
  have er:=X.rows
  have ec:=X.cols
  refine Ur (m:=m) X1.t (i:=i) (p:=k) (c:=k) oo oo oo oo X1.last hz hm1 hm (fun b f=>by rw [iN oo];exact hM i b oo F oo) (fun b f=>by rw [iN oo];exact hM k b (aD _) hk oo) bz ?_
  intro h2 g2 o2 R t2 ko2
  rw [wiS i oo]
  have N:be≠T.bE:=fun e=>X.off (.inr (.inl e))
  obtain ⟨e,he⟩:=X1.hd
  refine ⟨rfl,⟨i+1,g2,o2,oo,oo,rfl,B0 O R,⟨t2.congr (fun a b _ _=>?_) (fun _ _=>rfl),er,ec,⟨e,by rw [ko2 _ N];exact he⟩,X.off,Cu _ _ _ _ R X1.last⟩,fun b f d=>by rw [ko2 b (fun e=>f (.inr (.inl e)))];exact ko b f d⟩,by simp only [Y2];omega⟩
  by_cases c:a=i
  ·have q1:¬ (k<k/\k<i):=oo
   have q2:¬ (k<i/\i<i):=oo
   simp only [iN q1,iN q2]
   rw [iP c,iP (show k<a/\a<i+1 from oo),c]
  ·rw [iN c]
   by_cases c2:k<a/\a<i
   ·rw [iP c2,iP oo]
   ·rw [iN c2,iN (show ¬ (k<a/\a<i+1) from oo)]
 ·have H:i=n:=oo
  subst H
  have l:k<T.rows:=by rw [X.rows];exact hk
  have u:k<T.cols:=by rw [X.cols];exact hk
  refine ⟨_,rfl,_,X1.c2,?_⟩
  obtain ⟨j,G,e0,e1⟩:=X1.t.at l u
  rw [iN oo] at G
  refine V3 X1.t l ⟨_,_,_,rfl,_,rfl,oo,oo,_,_,_,_,e0,e1,?_⟩
  refine ⟨_,rfl,?_⟩
  refine X1.set (n':=i) (k':=k) (w':=j) (z':=M k k) (L':=L) (D':=D) (vs:=[.bool j.s,.slice j.A j.n j.c]) Qi rfl rfl (by intro x q;simp only [bX,bN,or_false] at q;rcases q with rfl|rfl<;>rfl) oo rfl G rfl ?_
  intro h3 o3 X3 B
  refine ⟨_,rfl,_,X3.c1,_,rfl,?_⟩
  rw [wiS k oo]
  refine X3.set (n':=i) (k':=k+1) (w':=j) (z':=M k k) (L':=L) (D':=D) (vs:=[I ((k+1:Nat):Int)]) A83 rfl rfl (by intro x q;simp only [bX,bN,or_false] at q;subst q;rfl) oo rfl G rfl ?_
  intro h4 o4 X4 E
  refine hK h4 r o4 j O ⟨X4.t.congr (fun a b ha f=>?_) (fun _ _=>rfl),X4.rows,X4.cols,X4.hd,X4.off,X4.last⟩ (fun b f d=>by rw [E b d,B b d];exact ko b f d)
  have:a<i:=by rw [<- X.rows];exact ha
  by_cases c:k<a
  ·rw [iP ⟨c,this⟩,iP c]
  ·rw [iN (fun x=>c x.1),iN c]
end
def C14{l s r:Rat}(hl:l≠0)(hs:s≠0):l*(s*r)/l/s=r:=by
 grind
section
variable {E:Nat->Rat} {n k:Nat}
def A8t(sy:A11 n (mtx E n))(hk:k<=n)(ok:∀ m,m<k->Qb (mtx E n) n m):LdR n k (mtx E n) (elE E n n k):=LdR.run sy k hk ok
def B3b(hk:k<n):Qp n k (elP E n n k)=Iu n k (elE E n n k):=(A0e E (Nat.le_of_lt hk)).row hk
def A4d(sy:A11 n (mtx E n))(hk:k<n)(ok:∀ m,m<=k->Qb (mtx E n) n m)(e:ldA (mtx E n) k k k=0):elP E n n (k+1)=elP E n n k:=by
 have r:=B3b (E:=E) hk
 rw [(A8t sy o fun m a=>ok m o).none hk e (ok k (aD _))] at r
 show Co n k (elP E n n k)=_
 unfold Co
 grind
def A4c(sy:A11 n (mtx E n))(hk:k<n)(ok:∀ m,m<k->Qb (mtx E n) n m)(e:ldA (mtx E n) k k k≠0):
 (∀ i j,k<i->i<n->(elP E n n (k+1)).M i j=((elP E n n k).M k k*(elP E n n k).M i j-(elP E n n k).M i k*(elP E n n k).M k j).tdiv (elP E n n k).last)/\(elP E n n (k+1)).last=(elP E n n k).M k k/\∀ i,k<i->(elP E n n (k+1)).S i=(elP E n n k).S i:=by
 have R:=A8t sy o ok
 have r:=B3b (E:=E) hk
 rw [R.row hk e] at r
 have c:=R.len
 rw [<- A2r E (Nat.le_of_lt hk)] at c
 have a:elP E n n (k+1)=Co n k (elP E n n k):=rfl
 unfold Co at a
 rw [r,iP hk] at a
 generalize elP E n n k=s at *
 have f:=Jo s.cs.length k
 have d:∀ i,k<i->xch s.cs.length k i=i:=fun i b=>by unfold xch;grind
 rw [a]
 refine ⟨fun i j b _=>?_,rfl,fun i b=>?_⟩
 ·show clr (fun i=>s.M (xch s.cs.length k i)) s.cs.length k s.last i j=_
  unfold clr
  grind
 grind
def C1h(sy:A11 n (mtx E n)):∀ k,k<=n->(∀ m,m<k->Qb (mtx E n) n m)->∀ i,k<=i->i<n->(elP E n n k).S i=Sw E n i:=by
 intro k
 induction k with
 | zero=>intro _ _ i _ _;rfl
 | succ k ih=>
  intro d ok i f b
  have a:=ih o (fun m c=>ok m o) i o b
  by_cases e:ldA (mtx E n) k k k=0
  ·rw [A4d sy d (fun m c=>ok m o) e];exact a
  ·rw [(A4c sy d (fun m c=>ok m o) e).2.2 i o];exact a
structure LdF (E:Nat->Rat) (n k Q:Nat):Prop where
 val:∀ i j,k<=i->i<n->j<n->((elP E n n k).M i j:Rat)=(elP E n n k).last*(Sw E n i*ldA (mtx E n) k i j)
 last:(elP E n n k).last≠0
 zM:∀ a b,a<n->b<n->ZB Q ((elP E n n k).M a b)
 zl:ZB Q (elP E n n k).last
 zS:∀ a,a<n->Sz Q (Sw E n a)
 zA:∀ i j,k<=i->i<n->j<n->Sz Q (ldA (mtx E n) k i j)
def ldF{m Q:Nat}(hs:∀ i,i<n*n->Sz m (E i))(hQ1:3^n*bnd n m+bnd n m<=Q)(sy:A11 n (mtx E n))(hk:k<=n)(ok:∀ m,m<k->Qb (mtx E n) n m):LdF E n k Q:=by
 have rel:=A0e E (rows:=n) (cols:=n) hk
 have R:=A8t sy hk ok
 have r:=R.len
 have z:=A0d (E:=E) (rows:=n) (cols:=n) (c:=k) hs hk
 have l:1<=bnd n m:=by unfold bnd;omega
 have u:3^(elP E n n k).cs.length*bnd n m<=3^n*bnd n m:=aM _ (cH dc z.len)
 have s:=C1h sy k hk ok
 have val:∀ i j,k<=i->i<n->j<n->((elP E n n k).M i j:Rat)=(elP E n n k).last*(Sw E n i*ldA (mtx E n) k i j):=fun i j p d f=>by
  rw [rel.val i j d f,iN o,R.low i j p d f,s i p d]
 have q:∀ a,a<n->Sz (bnd n m) (Sw E n a):=fun a g=>A1n fun j f=>hs _ (Q4 g f)
 refine ⟨val,rel.last,fun a b g t=>(z.M a b g t).mono o,z.last.mono o,fun a g=>(q a g).mono o,fun i j p d f=>?_⟩
 have e:ldA (mtx E n) k i j=cY ((elP E n n k).M i j) (elP E n n k).last/Sw E n i:=by
  have w:=Pq E n i
  rw [Rat.divInt_eq_div,val i j p d f,C14 (O9 rel.last) gz0]
 rw [e]
 exact ((S1 rel.last (z.M i j d f) z.last).div (q i d) l).mono o
end
def A5m(A:Nat->Nat->Rat)(n k:Nat):Nat->Rat:=fun t=>if t%n<k then ldL A (t/n) (t%n) else 0
def A5y(A:Nat->Nat->Rat)(k:Nat):Nat->Rat:=fun j=>if j<k then ldD A j else 0
structure Ld (h g o:aG) (be bl bd:Nat) (T:Tb) (E:Nat->Rat) (n k:Nat) (M:Nat->Nat->Int) (w:IV) (Lf Df:Nat->Rat):Prop where
 e:El h g o be T M (Sw E n) n k w (elP E n n k).last (.slice (some ⟨bl,0,none⟩) (n*n) (n*n)) (.slice (some ⟨bd,0,none⟩) n n)
 m:∀ i j,k<=i->i<n->j<n->M i j=(elP E n n k).M i j
 l:QB g o bl (n*n) Lf
 d:QB g o bd n Df
 tl:¬ onT T bl
 td:¬ onT T bd
 el:be≠bl
 ed:be≠bd
 ld:bl≠bd
section
variable {h g o:aG} {be bl bd:Nat} {T:Tb} {E:Nat->Rat} {n k:Nat} {M:Nat->Nat->Int} {w:IV} {Lf Df:Nat->Rat} {K:VP} {Q:Nat}
def Ld.next(X:Ld h g o be bl bd T E n k M w Lf Df){h' g':aG}(s:Sep h' g' o)(l:g.le g'):Ld h' g' o be bl bd T E n k M w Lf Df:=⟨X.e.next s l,X.m,X.l.ko l rfl,X.d.ko l rfl,X.tl,X.td,X.el,X.ed,X.ld⟩
def Ld.congr(X:Ld h g o be bl bd T E n k M w Lf Df){Lf' Df':Nat->Rat}(e1:∀ i,i<n*n->Lf i=Lf' i)(e2:∀ i,i<n->Df i=Df' i):Ld h g o be bl bd T E n k M w Lf' Df':=⟨X.e,X.m,X.l.congr e1,X.d.congr e2,X.tl,X.td,X.el,X.ed,X.ld⟩
def Ld.storeL(X:Ld h g o be bl bd T E n k M w Lf Df){i:Nat}(hi:i<n*n){v:QV}{z:Rat}(hv:RQ g v z){K:Unit->aG->Prop}
 (x:∀ h' o',Ld h' g o' be bl bd T E n k M w (fun a=>if a=i then z else Lf a) Df->K () h'):wpH prog (aV 244 (.pointer (some (aH ⟨bl,0,none⟩ (i*4)))) v.v) K h:=by
 refine X.l.store X.e.t.sep hi hv ?_
 intro h' o' b q ko
 exact x h' o' ⟨X.e.away b X.tl X.el ko,X.m,q,X.d.ko (B6 _) (ko _ X.ld.symm),X.tl,X.td,X.el,X.ed,X.ld⟩
def Ld.storeD(X:Ld h g o be bl bd T E n k M w Lf Df){i:Nat}(hi:i<n){v:QV}{z:Rat}(hv:RQ g v z){K:Unit->aG->Prop}
 (x:∀ h' o',Ld h' g o' be bl bd T E n k M w Lf (fun a=>if a=i then z else Df a)->K () h'):wpH prog (aV 244 (.pointer (some (aH ⟨bd,0,none⟩ (i*4)))) v.v) K h:=by
 refine X.d.store X.e.t.sep hi hv ?_
 intro h' o' b q ko
 exact x h' o' ⟨X.e.away b X.td X.ed ko,X.m,X.l.ko (B6 _) (ko _ X.ld),q,X.tl,X.td,X.el,X.ed,X.ld⟩
def Ld.at(X:Ld h g o be bl bd T E n k M w Lf Df)(gl:Gl g)(F:LdF E n k Q){i j:Nat}(hk:k<=i)(hi:i<n)(hj:j<n)(hQ1:1<=Q)(hQ:Q<=6400000000)
 (hK:∀ w' h' g',g.le g'->Sep h' g' o->h.le h'->RQ g' w' (ldA (mtx E n) k i j)->K w'.v h'):aN prog 244 #[.pointer (some ⟨be,0,none⟩),I (i:Int),I (j:Int)] h K:=by
 have a:=X.m i j hk hi hj
 have f:=Pq E n i
 refine B5j (m:=Q) X.e gl hi hj (by rw [a];exact F.zM i j hi hj) F.zl (F.zS i hi) (by rw [a];exact S1 F.last (F.zM i j hi hj) F.zl) hQ1 hQ ?_
 intro w' h' g' d s c b
 refine hK w' h' g' d s c ?_
 rw [a,Rat.divInt_eq_div,F.val i j hk hi hj,C14 (O9 F.last) gz0] at b
 exact b
def Ld.partner(X:Ld h g o be bl bd T E n k M w Lf Df)(F:LdF E n k Q)(hk:k<n)(hn:n<=10000):aN prog 245 #[.pointer (some ⟨be,0,none⟩)] h (fun r h'=>h'=h/\∃ (a:Nat) (b:Bool),r= .tuple #[I (a:Int),.bool b]/\(b=true->k<a/\a<n/\ldA (mtx E n) k a k≠0)/\(b=false->∀ j,k<j->j<n->ldA (mtx E n) k j k=0)):=by
 have key:∀ i,k<=i->i<n->(M i k=0↔ldA (mtx E n) k i k=0):=fun i c p=>by
  have q:=F.val i k c p hk
  have l:=O9 F.last
  have t:Sw E n i≠0:=by have:=Pq E n i;grind
  rw [X.m i k c p hk]
  constructor
  ·intro e
   rw [e] at q
   grind
  ·intro e
   simp_all
 refine Zh X.e hk hn (fun i f d l=>⟨rfl,i,true,rfl,fun _=>⟨f,d,fun e=>l ((key i oo d).2 e)⟩,fun e=>by cases e⟩) (fun s=>⟨rfl,0,false,rfl,(fun e=>by cases e),fun _ j f d=>(key j oo d).1 (s j f d)⟩)
end
def B6f{q:Rat}:q.num.sign<0↔q<0:=by
 have a:=Rat.num_nonneg (q:=q)
 grind
def A0h{n i j:Nat}(hj:j<n):(i*n+j)/n=i/\(i*n+j)%n=j:=by
 refine ⟨?_,?_⟩
 ·rw [bU,Nat.mul_add_div o,cR hj,dM]
 ·rw [bU,Nat.mul_add_mod,cQ hj]
def B4v(A:Nat->Nat->Rat)(n k i:Nat):Nat->Rat:=fun t=>if t%n=k/\t/n<i then ldL A (t/n) k else A5m A n k t
def A41(A:Nat->Nat->Rat){n k i:Nat}(h:i=n\/ldA A k k k=0/\k<i):∀ t,t<n*n->B4v A n k i t=A5m A n (k+1) t:=by
 intro t a
 unfold B4v A5m
 have b:t/n<n:=aY a
 by_cases c:t%n=k
 ·by_cases c2:t/n<i
  ·grind
  ·rcases h with h|⟨e,d⟩
   ·omega
   ·unfold ldL
    grind
 grind
def A93(A:Nat->Nat->Rat)(k:Nat):(fun a=>if a=k then ldA A k k k else A5y A k a)=A5y A (k+1):=by
 funext a
 unfold A5y ldD
 grind
section
variable {h:aG} {A:Option aK} {E:Nat->Rat} {n cap m Q:Nat} {K:VP}
def Th(gl:Gl h)(rq:aU RQr h A (n*n) E)(hcap:n*n<=cap)(hn1:1<=n)(hn:n<=64)(sy:A11 n (mtx E n))(hs:∀ i,i<n*n->Sz m (E i))(hQ1:3^n*bnd n m+bnd n m<=Q)(hQ:2*Q+1<=100000000)
 (hK1:(∀ k,k<n->Qb (mtx E n) n k)->∀ h' g' o' be bl bd T M w,h.le h'->h.le g'->Ld h' g' o' be bl bd T E n n M w (A5m (mtx E n) n n) (A5y (mtx E n) n)->K (.tuple #[.pointer (some ⟨be,0,none⟩),.bool true]) h')
 (hK0:∀ k,k<n->(∀ k',k'<k->Qb (mtx E n) n k')->¬ Qb (mtx E n) n k->∀ h' g' o' be bl bd T M w,h.le h'->h.le g'->Ld h' g' o' be bl bd T E n k M w (A5m (mtx E n) n k) (A5y (mtx E n) k)->K (.tuple #[.pointer (some ⟨be,0,none⟩),.bool false]) h'):aN prog 192 #[.slice A (n*n) cap,I (n:Int)] h K:=by
 have ai:n*n<=64*64:=aL hn hn
 have bo:bnd n m=1+n*m+m:=rfl
 refine (fnk func192 [(6,[7,29],[],[.bool false,I 0]),(17,[12],[],[I 0])] (cs:=[(12,[7],[],[.bool false])]) (os:=[(19,[0,1,2,3,4,5,6,7,8,9,10,11,13,12,14,15,16])]) (own:=[9]) (wr:=[248])) ?_
 refine (fnk func243 (wr:=[1000000000])) ?_
 refine Kq (m:=m) gl rq hcap hn1 o hn1 o hs o ?_
 intro h1 g1 o1 T a0 t1 er ec
 refine ⟨_,rfl,?_⟩
 refine t1.sep.call (Dd dc dc ?_)
 intro s2 A2 n2 c2 g2 l2 i2 h2 a5
 have t2:=t1.next a5 l2
 refine ⟨_,_,_,_,rfl,Ob ?_⟩
 intro be u
 have fr:∀ {O gg oo:aG} {k x b},Sep O gg oo->oo k=some x->O b=none->k≠b:=by
  rintro O gg oo k x b s e G rfl
  rw [s.own k x e] at G;cases G
 obtain ⟨⟨y1,z1⟩,⟨y2,z2⟩,⟨y3,z3⟩⟩:=t2.own
 have q:∀ {O gg oo:aG} {b},Tab O gg oo T (A1o E n) (Sw E n)->O b=none->¬ onT T b:=by
  intro O gg oo b t G g
  obtain ⟨⟨y1,z1⟩,⟨y2,z2⟩,⟨y3,z3⟩⟩:=t.own
  rcases g with rfl|rfl|rfl
  ·exact fr t.sep z1 G rfl
  ·exact fr t.sep z2 G rfl
  ·exact fr t.sep z3 G rfl
 have s3:=t2.sep.new u (.cells (Value.agg #[I (n:Int),I (0:Int),.pointer (some ⟨T.bt,0,none⟩),.bool s2,.slice A2 n2 c2,.slice none 0 0,.slice none 0 0]).cells 284)
 have X3:El _ g2 _ be T (A1o E n) (Sw E n) n 0 ⟨s2,A2,n2,c2⟩ 1 (.slice none 0 0) (.slice none 0 0):=⟨t2.keep s3 (B6 _) (fun k x e _=>by rw [B7 _ _ (fr t2.sep e u)];exact e),er,ec,⟨284,C2 _ _ _⟩,q t2 u,i2⟩
 refine ⟨_,rfl,_,rfl,?_⟩
 generalize (h2.put be (.cells (Value.agg #[I (n:Int),I (0:Int),.pointer (some ⟨T.bt,0,none⟩),.bool s2,.slice A2 n2 c2,.slice none 0 0,.slice none 0 0]).cells 284))=h3 at *
 generalize (o1.put be (.cells (Value.agg #[I (n:Int),I (0:Int),.pointer (some ⟨T.bt,0,none⟩),.bool s2,.slice A2 n2 c2,.slice none 0 0,.slice none 0 0]).cells 284))=o3 at *
 have a4:h.le g2:=B0 a0 l2
 have ay:C3 ((n:Int)*(n:Int))=((n*n:Nat):Int):=by exact K3 o
 rw [ay]
 have B:∀ {O gg oo M k w z L D},El O gg oo be T M (Sw E n) n k w z L D->∃ x,oo be=some x:=fun X=>by obtain ⟨e,he⟩:=X.hd;grind
 refine J2 Xq (zx:=S8) rfl o o o o ?_
 intro bl R
 refine ⟨_,_,_,rfl,_,rfl,?_⟩
 have H:be≠bl:=by obtain ⟨x,g⟩:=B X3;exact fr X3.t.sep g R
 have X4:=X3.away (X3.t.sep.new R (.cells ((aE (n*n) S8).flatMap enc).toArray 244)) (q X3.t R) H (fun y hy=>B7 _ _ hy)
 have q4:QB g2 (o3.put bl (.cells ((aE (n*n) S8).flatMap enc).toArray 244)) bl (n*n) (fun _=>0):=⟨_,RowX.mk,aQ,fun i hi=>⟨S8,gz0,RQ.zero⟩⟩
 have tl:=q X3.t R
 refine X4.set (n':=n) (k':=0) (w':=⟨s2,A2,n2,c2⟩) (z':=1) (L':=.slice (some ⟨bl,0,none⟩) (n*n) (n*n)) (D':=.slice none 0 0) (vs:=[.slice (some ⟨bl,0,none⟩) (n*n) (n*n)]) A82 rfl rfl (by intro x g;simp only [bX,bN,or_false] at g;subst g;rfl) o rfl X4.last rfl ?_
 intro h5 o5 X5 a3
 have q5:=q4.ko (B6 _) (a3 _ H.symm)
 refine J2 Xq (zx:=S8) rfl o o o o ?_
 intro bd N
 refine ⟨_,_,_,rfl,_,rfl,?_⟩
 have ah:be≠bd:=by obtain ⟨x,g⟩:=B X5;exact fr X5.t.sep g N
 have ap:bl≠bd:=by obtain ⟨xs,⟨e,g⟩,_⟩:=q5;exact fr X5.t.sep g N
 have td:=q X5.t N
 have X6:=X5.away (X5.t.sep.new N (.cells ((aE n S8).flatMap enc).toArray 244)) td ah (fun y hy=>B7 _ _ hy)
 have d6:QB g2 (o5.put bd (.cells ((aE n S8).flatMap enc).toArray 244)) bd n (fun _=>0):=⟨_,RowX.mk,aQ,fun i hi=>⟨S8,gz0,RQ.zero⟩⟩
 have q6:=q5.ko (o':=o5.put bd (.cells ((aE n S8).flatMap enc).toArray 244)) (B6 _) (B7 _ _ ap)
 refine X6.set (n':=n) (k':=0) (w':=⟨s2,A2,n2,c2⟩) (z':=1) (L':=.slice (some ⟨bl,0,none⟩) (n*n) (n*n)) (D':=.slice (some ⟨bd,0,none⟩) n n) (vs:=[.slice (some ⟨bd,0,none⟩) n n]) A82 rfl rfl (by intro x g;simp only [bX,bN,or_false] at g;subst g;rfl) o rfl X6.last rfl ?_
 intro h7 o7 X7 ao
 have X0:Ld h7 g2 o7 be bl bd T E n 0 (A1o E n) ⟨s2,A2,n2,c2⟩ (A5m (mtx E n) n 0) (A5y (mtx E n) 0):=⟨X7,fun _ _ _ _ _=>rfl,(q6.ko (B6 _) (ao _ H.symm)).congr (fun i _=>by rfl),(d6.ko (B6 _) (ao _ ah.symm)).congr (fun i _=>by rfl),tl,td,H,ah,ap⟩
 have V:1<=Q:=o
 have ix:∀ {i j:Nat},i<n->j<n->C3 (C3 ((i:Int)*(n:Int))+(j:Int))=((i*n+j:Nat):Int):=fun {i j} hi hj=>by
  have:=Q4 hi hj
  rw [<- bK,K3 o]
  exact K3 (n:=i*n+j) o
 have ae:∀ {i:Nat},i<n->C3 ((i:Int)+1)=((i+1:Nat):Int):=fun {i} hi=>by rw [B9]<;>omega
 refine ⟨fun L hq=>∃ (k:Nat) (g' o':aG) (M:Nat->Nat->Int) (w:IV),k<=n/\L=[.bool true,I (k:Int)]/\h.le g'/\(∀ k',k'<k->Qb (mtx E n) n k')/\Ld hq g' o' be bl bd T E n k M w (A5m (mtx E n) n k) (A5y (mtx E n) k),fun L _=>n-(iAt L 1).toNat,⟨0,g2,o7,_,_,o,rfl,a4,fun k' ac=>o,X0⟩,?_⟩
 rintro a9 z5 hq ⟨k,g',o',M,w,hk,eL,lg,ok,X⟩
 obtain ⟨rfl,rfl⟩:=eL
 refine C0 (fun am=>?_) (fun bk=>by
  have:k=n:=o
  subst this
  exact hK1 ok hq g' o' be bl bd T M w (B0 lg X.e.t.sep.le) lg X)
 have f:k<n:=o
 have F:=ldF hs hQ1 sy hk ok
 refine X.at (gl.mono lg) F (aD _) f f V o ?_
 intro w1 h1 g1 l1 s1 bn i1
 refine ⟨_,_,_,_,_,_,_,_,rfl,?_⟩
 have X1:=X.next s1 l1
 have p:h.le g1:=B0 lg l1
 refine FCall.mono (X1.partner F f o) ?_
 rintro r W ⟨rfl,a,b,rfl,a7,aw⟩
 have an:RQ W w1 (ldA (mtx E n) k k k):=G1 _ _ _ _ s1.le i1
 refine ⟨_,_,rfl,fun L g=>L=[.bool true]/\g=W/\Qb (mtx E n) n k,?_,?_⟩
 ·refine A1s an ⟨_,rfl,C0 (fun al=>?_) (fun ba=>?_)⟩
  ·have aq:=B6f.1 al
   exact hK0 k f ok (fun x=>absurd x.1 gz0) W g1 o' be bl bd T M w (B0 p s1.le) p X1
  ·have ai:0<=ldA (mtx E n) k k k:=by
    simp_all
   refine Bz an ⟨_,rfl,C0 (fun e0=>?_) (fun S=>⟨rfl,rfl,ai,fun e=>absurd e S⟩)⟩
   cases b with
   | true=>
    obtain ⟨b1,b2,b3⟩:=a7 rfl
    exact hK0 k f ok (fun x=>b3 (x.2 e0 a b1 b2)) W g1 o' be bl bd T M w (B0 p s1.le) p X1
   | false=>exact ⟨rfl,rfl,ai,fun _ j c1 c2=>aw rfl j c1 c2⟩
 rintro p1 g ⟨eL,rfl,bi⟩
 simp only [aR,Value.bool.injEq,and_true] at eL
 subst eL
 have af: ∀ k',k'<=k->Qb (mtx E n) n k':=fun k' ac=>by
  grind
 refine ⟨_,rfl,_,_,_,X1.e.c5,?_⟩
 refine s1.call (In o ?_)
 intro w2 g3 l3 i3 h4 s4
 refine ⟨_,_,_,_,_,_,_,_,rfl,s1.le_le s4 l3,_,rfl,?_⟩
 rw [ix f f]
 have X2:=X1.next s4 l3
 have ar:=Q4 f f
 refine ⟨o,o,?_⟩
 refine X2.storeL ar (z:=1) i3 ?_
 intro h5 o5 X5
 refine ⟨_,rfl,_,_,_,X5.e.c6,_,rfl,o,o,?_⟩
 have ag:RQ g3 w1 (ldA (mtx E n) k k k):=G1 _ _ _ _ l3 i1
 refine X5.storeD f ag ?_
 intro h6 o6 X6
 have X7:Ld h6 g3 o6 be bl bd T E n k M w (B4v (mtx E n) n k (k+1)) (A5y (mtx E n) (k+1)):=X6.congr (fun t ht=>by
  show (if t=k*n+k then 1 else A5m (mtx E n) n k t)=_
  unfold B4v
  have dm:=Nat.div_add_mod t n
  by_cases c:t=k*n+k
  ·obtain ⟨d1,d2⟩:=A0h (i:=k) f
   rw [iP c,c,d1,d2,iP ⟨rfl,o⟩,B4x]
  ·rw [iN c]
   by_cases c2:t%n=k/\t/n<k+1
   ·have am:t/n<k:=by
     grind
    rw [B4y am]
    unfold A5m
    grind
   ·rw [iN c2]) (fun t _=>by rw [<- A93])
 have aj:h.le g3:=B0 p l3
 refine Bz (G1 _ _ _ _ X7.e.t.sep.le ag) ⟨_,rfl,C0 (fun e0=>?_) (fun S=>?_)⟩
 ·refine ⟨_,rfl,_,X7.e.c1,_,rfl,?_⟩
  rw [ae f]
  refine X7.e.set (n':=n) (k':=k+1) (w':=w) (z':=(elP E n n k).last) (L':=.slice (some ⟨bl,0,none⟩) (n*n) (n*n)) (D':=.slice (some ⟨bd,0,none⟩) n n) (vs:=[I ((k+1:Nat):Int)]) A83 rfl rfl (by intro x g;simp only [bX,bN,or_false] at g;subst g;rfl) o rfl X7.e.last rfl ?_
  intro h8 o8 Y ko
  have es:=A4d sy f af e0
  refine ⟨⟨k+1,g3,o8,M,w,o,rfl,aj,fun k' ac=>af k' o,⟨gz0,fun i j a b c=>by rw [es];exact X7.m i j o b c,(X7.l.ko (B6 _) (ko _ X7.el.symm)).congr (A41 _ (.inr ⟨e0,o⟩)),X7.d.ko (B6 _) (ko _ X7.ed.symm),X7.tl,X7.td,X7.el,X7.ed,X7.ld⟩⟩,?_⟩
  show n-((k+1:Nat):Int).toNat<n-((k:Nat):Int).toNat
  omega
 rw [ae f]
 refine ⟨fun L g=>∃ (i:Nat) (g4 o4:aG),k<i/\i<=n/\L=[I (i:Int)]/\g3.le g4/\Ld g g4 o4 be bl bd T E n k M w (B4v (mtx E n) n k i) (A5y (mtx E n) (k+1)),fun L _=>n-(iAt L 0).toNat,⟨k+1,g3,o6,o,o,rfl,B6 _,X7⟩,?_⟩
 rintro z6 g ⟨i,g4,o4,bg,bf,eL,l4,X8⟩
 obtain rfl:z6=(i:Int):=gz0
 have ad:h.le g4:=B0 aj l4
 refine C0 (fun bc=>?_) (fun bb=>?_)
 ·have C:i<n:=o
  refine ⟨_,rfl,_,_,_,X8.e.c5,?_⟩
  refine X8.at (gl.mono ad) F o C f V o ?_
  intro w9 h9 g9 l9 s9 a8 i9
  refine ⟨_,_,_,_,_,_,_,_,rfl,a8,?_⟩
  refine s9.call (Tw (m:=Q) (gl.mono (B0 ad l9)).tz i9 (G1 _ _ _ _ (B0 l4 l9) ag) (F.zA i k o C f) (F.zA k k (aD _) f f) V o ?_)
  intro bj az aa a1 bh ak
  refine ⟨_,_,_,_,_,_,_,_,rfl,s9.le_le ak aa,_,rfl,?_⟩
  rw [ix C f]
  have a6:=Q4 C f
  refine ⟨o,o,?_⟩
  refine ((X8.next s9 l9).next ak aa).storeL a6 a1 ?_
  intro bm ax X11
  rw [ae C]
  refine ⟨⟨i+1,az,ax,o,o,rfl,B0 l4 (B0 l9 aa),X11.congr (fun t ht=>?_) (fun _ _=>rfl)⟩,by simp only [Y2];omega⟩
  show (if t=i*n+k then ldA (mtx E n) k i k/ldA (mtx E n) k k k else B4v (mtx E n) n k i t)=_
  unfold B4v
  have dm:=Nat.div_add_mod t n
  by_cases c:t=i*n+k
  ·obtain ⟨d1,d2⟩:=A0h (i:=i) f
   rw [iP c,c,d1,d2,iP ⟨rfl,o⟩]
   unfold ldL
   rw [iN o,iN o,iN S]
  ·by_cases c2:t%n=k/\t/n<i
   ·grind
   ·grind
 ·have a2:i=n:=o
  subst a2
  refine A0v (m:=Q) X8.e f o F.last (fun a b ka ha G=>by rw [X8.m a b ka ha G];exact F.zM a b ha G) F.zl V hQ ?_
  intro h9 g9 o9 w9 l9 Y ko
  obtain ⟨au,av,_⟩:=A4c sy f ok S
  refine ⟨rfl,⟨k+1,g9,o9,_,w9,o,rfl,B0 ad l9,fun k' ac=>af k' o,⟨by rw [av,<- X8.m k k (aD _) f f];exact Y,fun i j a b c=>?_,(X8.l.ko l9 (ko _ X8.tl X8.el.symm)).congr (A41 _ (.inl rfl)),X8.d.ko l9 (ko _ X8.td X8.ed.symm),X8.tl,X8.td,X8.el,X8.ed,X8.ld⟩⟩,?_⟩
  ·rw [iP (show k<i from o),au i j o b,X8.m k k (aD _) f f,X8.m i j o b c,X8.m i k o b f,X8.m k j (aD _) f c]
  ·show i-((k+1:Nat):Int).toNat<i-((k:Nat):Int).toNat
   omega
end
def ns(f:Nat->Nat):Nat->Nat
 | 0=>0
 | n+1=>ns f n+f n
def C1k(A:Nat->Nat->Rat)(n k:Nat)(v:Nat->Rat):Prop:=
 (v k=1/\(∀ i,k<i->i<n->v i=0)/\ldA A k k k<0)\/
 (∃ p,k<p/\p<n/\v p=1/\(∀ i,k<i->i<n->i≠p->v i=0)/\ldA A k k k=0/\ldA A k p k≠0/\v k=(ldA A k p p+1)/(ldA A k p k * -2))
def C18(n k Q:Nat):Nat:=(n-k)*(2*Q+2)+4*Q+10
structure Wv (E:Nat->Rat) (n k Q t:Nat) (v:Nat->Rat) (s:Nat->Nat):Prop where
 seed:C1k (mtx E n) n k v
 low:∀ i,i<t->v i=0
 zero:∀ m,t<=m->m<k->sm n (fun i=>ldL (mtx E n) i m*v i)=0
 sz:∀ i,i<n->Sz (s i) (v i)
 tot:ns (fun i=>if i<t then 0 else 2*Q+1+s i) n+(2*Q+2)<=2^(k-t)*C18 n k Q
def B5l:Sz 1 (1:Rat):=(⟨ZB.one (aD 1),ZB.one (aD 1)⟩:Sz 1 1)
def B88{E:Nat->Rat}{n Q m:Nat}(F:LdF E n m Q)(hm:m<n)(hQ:1<=Q){i:Nat}(hi:i<n):Sz (2*Q) (ldL (mtx E n) i m):=by
 unfold ldL
 by_cases c:i=m
 ·rw [iP c];exact B5l.mono o
 ·rw [iN c]
  by_cases c2:i<m
  ·rw [iP c2];exact (Sz.zero (aD 1)).mono o
  ·rw [iN c2]
   split
   ·exact (Sz.zero (aD 1)).mono o
   ·exact ((F.zA i m o hi hm).div (F.zA m m (aD _) hm hm) hQ).mono o
section
variable {h g o:aG} {be bl bd bv:Nat} {T:Tb} {E:Nat->Rat} {n k Q W m:Nat} {M:Nat->Nat->Int} {w:IV} {K:VP}
structure Lv (h g o:aG) (be bl bd bv:Nat) (T:Tb) (E:Nat->Rat) (n k:Nat) (M:Nat->Nat->Int) (w:IV) (v:Nat->Rat):Prop where
 x:Ld h g o be bl bd T E n k M w (A5m (mtx E n) n k) (A5y (mtx E n) k)
 q:QB g o bv n v
 t:¬ onT T bv
 e:be≠bv
 l:bl≠bv
 d:bd≠bv
end
def SymT(q:Nat)(ls:Nat->List UInt8):Prop:=∀ i j,i<q->j<i->ls (i*q+j)=ls (j*q+i)
def SqOk(r c:Int)(n:Nat)(ls:Nat->List UInt8)(q:Nat):Prop:=MOk r c n ls q q/\SymT q ls
def SqE(r c:Int)(n:Nat)(ls:Nat->List UInt8)(e:Int):Prop:=(¬ Mx r c n ls/\e=1)\/(Mx r c n ls/\(¬ ∃ q,SqOk r c n ls q)/\e=4)
def SymT.symm{q:Nat}{ls:Nat->List UInt8}(h:SymT q ls):A11 q (mtx (rvs ls) q):=fun i j b a=>by
 show rv (ls (i*q+j))=rv (ls (j*q+i))
 rcases cM i j with c|c|c
 ·rw [h j i a c]
 ·rw [c]
 ·rw [h i j b c]
section
variable {h:aG} {K:VP} {A:Option aK} {n cap m:Nat} {r c:Int} {ls:Nat->List UInt8}
def MOk.sq{q q':Nat}(mk:MOk r c n ls q q')(e:r=c):q=q':=by have:=mk.er;have:=mk.ec;omega
def A5v(gl:Gl h)(rv':aU SSr h A n ls)(hn:n<=1000000)(hl:LL n ls)
 (hK1:∀ q,SqOk r c n ls q->∀ b h',Own RQr h h' b (q*q) (rvs ls)->K (.tuple #[.slice (some ⟨b,0,none⟩) (q*q) (q*q),I 0]) h')
 (hK0:∀ e,SqE r c n ls e->∀ h',h.le h'->K (.tuple #[.slice none 0 0,I e]) h'):aN prog 191 #[Hy r c A n cap] h K:=by
 refine (fnk func191 [(7,[22],[],[I 0]),(10,[26],[],[I 0])] (own:=[1])) ?_
 refine U3 gl rv' hn hl ?_ (fun s k l1=>⟨_,_,_,_,rfl,hK0 1 (.inl ⟨s,rfl⟩) k l1⟩)
 intro q q' mk b k own
 refine ⟨_,_,_,_,rfl,?_⟩
 show Br _ _ _
 refine E6 (fun f=>hK0 4 (.inr ⟨⟨_,_,mk⟩,(fun ⟨a,x,_⟩=>f (by have:=x.er;have:=x.ec;omega)),rfl⟩) k own.le) (fun t=>?_)
 obtain rfl:=mk.sq t
 have:=mk.r2
 obtain ⟨rfl,rfl,_,_,_,_,rfl,R⟩:=id mk
 have H:aU SSr k A (q*q) ls:=rv'.mono E8 own.le
 have W:q*q<=64*64:=aL o o
 have M:∀ {i j:Nat},i<q->j<q->C3 (C3 ((i:Int)*(q:Int))+(j:Int))=((i*q+j:Nat):Int):=fun {i j} m p=>by
  have:=Q4 m p
  rw [<- bK,K3 o]
  exact K3 (n:=i*q+j) o
 have w:∀ {i j:Nat},i<q->j<i->ls (i*q+j)≠ls (j*q+i)->¬ ∃ a,SqOk (q:Int) (q:Int) (q*q) ls a:=by
  rintro i j m p f ⟨a,x,y⟩
  obtain rfl:a=q:=by have:=x.er;omega
  exact f (y i j m p)
 refine ⟨fun L l=>∃ i:Nat,i<=q/\L=[I (i:Int)]/\l=k/\∀ a b,a<i->b<a->ls (a*q+b)=ls (b*q+a),fun L _=>q-(iAt L 0).toNat,⟨0,o,rfl,rfl,fun a b Q=>o⟩,?_⟩
 rintro z l ⟨i,m,C,rfl,G⟩
 obtain rfl:=sI1 C
 refine C0 (fun V=>?_) (fun T=>hK1 q ⟨mk,fun a b Q g=>G a b o g⟩ b l own)
 have d:i<q:=o
 refine ⟨fun L D=>∃ j:Nat,j<=i/\L=[I (j:Int)]/\D=l/\∀ b,b<j->ls (i*q+b)=ls (b*q+i),fun L _=>i-(iAt L 0).toNat,⟨0,o,rfl,rfl,fun b g=>o⟩,?_⟩
 rintro z2 D ⟨j,p,C,rfl,E⟩
 obtain rfl:=sI1 C
 refine C0 (fun N=>?_) (fun F=>?_)
 ·have B:j<i:=o
  have i1:=Q4 d (show j<q from o)
  have X:=Q4 (show j<q from o) d
  obtain ⟨u,rfl,hc⟩:=H.sat i1
  obtain ⟨u',O,S⟩:=H.sat X
  simp only [Option.some.injEq] at O
  subst O
  rw [M d (show j<q from o),M (show j<q from o) d]
  refine ⟨_,rfl,o,o,_,hc,_,rfl,o,o,_,S,?_⟩
  dsimp only;rw [Ij]
  refine Br.not (C0 (fun e=>?_) (fun e=>hK0 4 (.inr ⟨⟨_,_,mk⟩,w d B e,rfl⟩) D own.le))
  rw [wiS j o]
  refine ⟨⟨j+1,o,rfl,rfl,fun b g=>?_⟩,by simp only [Y2];omega⟩
  by_cases c:b=j
  ·rw [c];exact e
  ·exact E b o
 ·rw [wiS i o]
  refine ⟨⟨i+1,o,rfl,rfl,fun a b Q g=>?_⟩,by simp only [Y2];omega⟩
  by_cases c:a=i
  ·rw [c];exact E b o
  ·exact G a b o g
structure FacV (h:aG) (q:Nat) (A1:Option aK) (A2:Option aK) (E:Nat->Rat):Prop where
 l:aU SSr h A1 (q*q) (fun t=>E7 (A5m (mtx E q) q q t))
 d:aU SSr h A2 q (fun t=>E7 (A5y (mtx E q) q t))
def A0j{Q:Nat}(gl:Gl h)(rv':aU SSr h A n ls)(hn:n<=1000000)(hl:LL n ls)(hs:∀ i,i<n->Sz m (rv (ls i)))(hb:∀ q,MOk r c n ls q q->3^q*bnd q m+bnd q m<=Q)(hQ:Q<=20000000)
 (hK1:∀ q,SqOk r c n ls q->(∀ k,k<q->Qb (mtx (rvs ls) q) q k)->∀ b1 b2 h',h.le h'->FacV h' q (some ⟨b1,0,none⟩) (some ⟨b2,0,none⟩) (rvs ls)->K (.tuple #[.agg #[I r,I c,.slice (some ⟨b1,0,none⟩) (q*q) (q*q),.slice (some ⟨b2,0,none⟩) q q],.bool true,I 0]) h')
 (hK2:∀ q,SqOk r c n ls q->(¬ ∀ k,k<q->Qb (mtx (rvs ls) q) q k)->∀ h',h.le h'->K (.tuple #[.agg #[I 0,I 0,.slice none 0 0,.slice none 0 0],.bool false,I 0]) h')
 (hK0:∀ e,SqE r c n ls e->∀ h',h.le h'->K (.tuple #[.agg #[I 0,I 0,.slice none 0 0,.slice none 0 0],.bool false,I e]) h'):aN prog 145 #[Hy r c A n cap] h K:=by
 refine (fnk func145 (os:=[(7,[0,1,2,3,4,5,6,7,10,8,9,11])]) (own:=[1,2,9])) ?_
 refine A5v gl rv' hn hl ?_ (fun e H E l1=>⟨_,_,_,_,rfl,E6 (fun _=>hK0 e H E l1) (fun e0=>by rcases H with ⟨_,x⟩|⟨_,_,x⟩<;>omega)⟩)
 intro q sq b E own
 obtain ⟨mk,G⟩:=id sq
 have g:=hb q mk
 obtain ⟨rfl,rfl,_,_,_,_,rfl,L⟩:=id mk
 refine ⟨_,_,_,_,rfl,E6 (fun y=>absurd rfl y) (fun _=>?_)⟩
 refine Th (Q:=Q) (gl.mono own.le) (own.vis G1) (aD _) o o G.symm hs g o ?_ ?_
 ·intro ok z S W be O bd T M w s R X
  have D:1<=Q:=by unfold bnd at g;omega
  have F:=fun k (B:k<=q)=>ldF hs g G.symm B fun m C=>ok m o
  refine ⟨_,_,rfl,?_⟩
  show Br false _ _
  refine ⟨_,rfl,_,_,_,X.e.c5,?_⟩
  have p:Gl z:=gl.mono (B0 own.le s)
  refine U2 (m:=2*Q) p (X.l.rowV X.e.t.sep) o (fun i j=>?_) o ?_
  ·unfold A5m
   have C:i%q<q:=cL _ o
   rw [iP C]
   exact B88 (F _ o) C D (aY j)
  intro N h3 a
  refine ⟨_,_,_,rfl,a.le,_,rfl,_,_,_,C1 a.le X.e.c6,?_⟩
  refine U2 (m:=Q) (p.mono a.le) ((X.d.rowV X.e.t.sep).mono G1 a.le) o (fun i j=>?_) o ?_
  ·unfold A5y ldD
   rw [iP j]
   exact (F i o).zA i i (aD _) j j
  intro b4 V f
  exact ⟨_,_,_,rfl,f.le,hK1 q sq ok N b4 V (B0 (B0 own.le s) (B0 a.le f.le)) ⟨(a.vis E8).mono E8 f.le,f.vis E8⟩⟩
 ·intro k B ok u z S W be O bd T M w s R X
  refine ⟨_,_,rfl,?_⟩
  show Br true _ _
  exact hK2 q sq (fun x=>u (x k B)) z (B0 own.le s)
end
abbrev E4:Nat->Rat:=fun i=>([4,2,2,1]:List Rat).getD i 0
abbrev E0:Nat->Rat:=fun i=>([0,1,1,0]:List Rat).getD i 0
section
variable {h:aG} {A:Option aK} {n cap:Nat} {r c:Int} {ls:Nat->List UInt8}
end
section
variable {h:aG} {K:VP} {A B:Option aK} {n n2 cap cap2 m w cols:Nat} {r c r2 c2:Int} {la lb:Nat->List UInt8} {P Q:Nat->Nat->Rat}
end
def inR(bo:Nat)(rb:Nat->Nat)(n x:Nat):Prop:=x=bo\/∃ i,i<n/\x=rb i
section
variable {h:aG} {K:VP} {n:Nat}
end
structure Gd (h g o:aG) (ba:Nat) (ra:Nat->Nat) (bl:Nat) (rl:Nat->Nat) (n:Nat) (P L:Nat->Nat->Rat) (A:Option aK) (c k:Nat) (D:Nat->Rat):Prop where
 a:Mt h g o ba ra n n P
 l:Mt h g o bl rl n n L
 d:∃ xs:List QV,OwnSl o 37 A c xs/\xs.length=k/\Row NQr g xs k D
 al:∀ x,inR ba ra n x->¬ inR bl rl n x
 ad:∀ x,A=some ⟨x,0,none⟩->¬ inR ba ra n x/\¬ inR bl rl n x
section
variable {h g o:aG} {ba bl n c k:Nat} {ra rl:Nat->Nat} {P L:Nat->Nat->Rat} {A:Option aK} {D:Nat->Rat}
end
section
variable {h:aG} {K:VP} {A:Option aK} {n cap Q:Nat} {E:Nat->Rat}
end
section
variable {h:aG} {K:VP} {A B lA cA:Option aK} {n ln lc cn cc cap cap2 m m2:Nat} {ls cs:Nat->List UInt8} {R:Nat->Nat->Rat} {f:Nat->Rat}
end
section
set_option maxRecDepth 100000
variable {h:aG} {K:VP}
end
section
variable {h g o:aG} {be:Nat} {T:Tb} {M:Nat->Nat->Int} {S:Nat->Rat} {n k m sc:Nat} {w:IV} {z:Int} {L D:aP} {K:VP}
end
section
variable {h:aG} {K:VP} {A:Option aK} {n cap m:Nat} {r c:Int} {ls:Nat->List UInt8} {E:Nat->Rat}
end
def SqE.not{r c:Int}{n q:Nat}{ls:Nat->List UInt8}{e:Int}(sq:SqOk r c n ls q)(x:SqE r c n ls e):False:=by
 rcases x with ⟨x,_⟩|⟨_,x,_⟩
 ·exact x ⟨_,_,sq.1⟩
 ·exact x ⟨_,sq⟩
section
variable {h:aG} {lA cA tA:Option aK} {ln lc cn cc tn tc:Nat} {ls cs ts:Nat->List UInt8}
end
section
variable {h g o:aG} {bo n k m cap:Nat} {rb:Nat->Nat} {P R A0 F:Nat->Nat->Rat} {d:Nat->Rat} {K:VP}
end
def gz(m:Nat):Nat->Nat
 | 0=>m
 | k+1=>16*gz m k+13
section
variable {h:aG} {A:Option aK} {n m cap:Nat} {E:Nat->Rat} {K:VP}
end
structure FOut where
 r:Int
 n:Nat
 f:Nat->List UInt8
 dn:Nat
 g:Nat->List UInt8
 ok:Bool
 e:Int
def noF(e:Int):FOut:=⟨0,0,fun _=>[],0,fun _=>[],false,e⟩
def FacO(r c:Int)(n:Nat)(ls:Nat->List UInt8)(o:FOut):Prop:=
 (∃ e,SqE r c n ls e/\o=noF e)\/∃ q,SqOk r c n ls q/\(((∀ k,k<q->Qb (mtx (rvs ls) q) q k)/\o=⟨(q:Int),q*q,fun t=>E7 (A5m (mtx (rvs ls) q) q q t),q,fun t=>E7 (A5y (mtx (rvs ls) q) q t),true,0⟩)\/((¬ ∀ k,k<q->Qb (mtx (rvs ls) q) q k)/\o=noF 0))
section
variable {r c:Int} {n:Nat} {ls:Nat->List UInt8}
def SqE.eq{e e':Int}(x:SqE r c n ls e)(y:SqE r c n ls e'):e=e':=by
 rcases x with ⟨x1,rfl⟩|⟨x1,x2,rfl⟩<;>rcases y with ⟨y1,rfl⟩|⟨y1,y2,rfl⟩
 ·rfl
 ·exact absurd y1 x1
 ·exact absurd x1 y1
 ·rfl
def SqOk.eq{q q':Nat}(x:SqOk r c n ls q)(y:SqOk r c n ls q'):q=q':=by have:=x.1.er;have:=y.1.er;omega
def FacO.eq{o p:FOut}(x:FacO r c n ls o)(y:FacO r c n ls p):o=p:=by
 rcases x with ⟨e,x1,rfl⟩|⟨q,x1,x2⟩<;>rcases y with ⟨e',y1,rfl⟩|⟨q',y1,y2⟩
 ·rw [x1.eq y1]
 ·exact (x1.not y1).elim
 ·exact (y1.not x1).elim
 ·obtain rfl:=x1.eq y1
  rcases x2 with ⟨a,rfl⟩|⟨a,rfl⟩<;>rcases y2 with ⟨b,rfl⟩|⟨b,rfl⟩
  ·rfl
  ·exact absurd a b
  ·exact absurd b a
  ·rfl
end
section
variable {h:aG} {K:VP} {A A2 B B2:Option aK} {n cap cap2 cap3 cap4 m Q:Nat} {r c:Int} {ls:Nat->List UInt8}
def A5z(gl:Gl h)(rv':aU SSr h A n ls)(hn:n<=1000000)(hl:LL n ls)(hs:∀ i,i<n->Sz m (rv (ls i)))(hb:∀ q,MOk r c n ls q q->3^q*bnd q m+bnd q m<=Q)(hQ:Q<=20000000)
 (hK:∀ o,FacO r c n ls o->∀ A' B' c1 c2 h',h.le h'->aU SSr h' A' o.n o.f->aU SSr h' B' o.dn o.g->K (.tuple #[.agg #[I o.r,I o.r,.slice A' o.n c1,.slice B' o.dn c2],.bool o.ok,I o.e]) h'):aN prog 145 #[Hy r c A n cap] h K:=by
 refine A0j gl rv' hn hl hs hb hQ (fun q sq ok k p h' a b=>?_) (fun q sq ok h' a=>hK (noF 0) (.inr ⟨q,sq,.inr ⟨ok,rfl⟩⟩) none none 0 0 h' a RowV.nil RowV.nil) (fun e j h' a=>hK (noF e) (.inl ⟨e,j,rfl⟩) none none 0 0 h' a RowV.nil RowV.nil)
 obtain ⟨rfl,rfl,_⟩:=id sq.1
 exact hK ⟨_,_,_,_,_,_,_⟩ (.inr ⟨q,sq,.inl ⟨ok,rfl⟩⟩) _ _ _ _ h' a b.l b.d
end
def fl(M:Nat->Nat->Rat)(w:Nat):Nat->Rat:=fun k=>M (k/w) (k%w)
def T1(M:Nat->Nat->Rat)(w:Nat):rvs (O7 M w)=fl M w:=funext fun _=>F9 _
def Fh(M:Nat->Nat->Rat){w i j:Nat}(hj:j<w):mtx (fl M w) w i j=M i j:=by
 obtain ⟨b,a⟩:=dm1 (i:=i) hj
 show M ((i*w+j)/w) ((i*w+j)%w)=_
 rw [b,a]
structure FM (h:aG) (A:Option aK) (p w m:Nat) (M:Nat->Nat->Rat):Prop where
 r1:1<=p
 r2:p<=64
 c1:1<=w
 c2:w<=64
 row:aU SSr h A (p*w) (O7 M w)
 sz:∀ i j,i<p->j<w->Sz m (M i j)
section
variable {h h':aG} {K:VP} {A B:Option aK} {c c2 p q w m n:Nat} {M X:Nat->Nat->Rat}
def FM.mono(l:h.le h')(x:FM h A p w m M):FM h' A p w m M:=⟨x.r1,x.r2,x.c1,x.c2,x.row.mono E8 l,x.sz⟩
def FM.ok(x:FM h A p w m M):MOk p w (p*w) (O7 M w) p w:=⟨rfl,rfl,x.r1,x.r2,x.c1,x.c2,rfl,fun _ _=>⟨_,rfl⟩⟩
def FM.mx(x:FM h A p w m M):Mx p w (p*w) (O7 M w):=⟨_,_,x.ok⟩
def FM.nn(x:FM h A p w m M):p*w<=1000000:=bF (aL x.r2 x.c2) dc
def FM.at(x:FM h A p w m M){i:Nat}(hi:i<p*w):Sz m (fl M w i):=x.sz _ _ (aY (by rw [bU];exact hi)) (cL _ x.c1)
def FM.szs(x:FM h A p w m M):∀ i,i<p*w->Sz m (rv (O7 M w i)):=fun i a=>by
 show Sz m (rv (E7 _))
 rw [F9];exact x.at a
def FM.len(x:FM h A p w m M)(hm:m<=40000000):∀ i,i<p*w->(O7 M w i).length<=100000000:=fun i a=>by
 have:=Vh (x.at a)
 show (E7 (fl M w i)).length<=_
 omega
def Ic{p w r k n:Nat}{ls:Nat->List UInt8}(x:MOk (p:Int) (w:Int) n ls r k):r=p/\k=w:=by
 have:=x.er;have:=x.ec;omega
def B8e(M:Nat->Nat->Rat)(p w:Nat):(elE (fl M w) p w w).cs=(ecE M p w).cs:=(Pr (n:=p) (w:=w) (fun _ _ _ a=>Fh M a) w (aD _)).1
def Rd(gl:Gl h)(x:FM h A p w m M)(hm:2*(3^w*bnd w m)+1<=100000000)(hm0:m<=40000000)(hK:K (.tuple #[I ((ecE M p w).cs.length:Int),I 0]) h):aN prog 109 #[Hy p w A (p*w) c] h K:=by
 refine FCall.pure (A5e gl x.row x.nn (x.len hm0) x.szs (fun r k mk=>?_) (fun r k mk b a=>?_) fun no=>absurd x.mx no)
 ·obtain ⟨rfl,rfl⟩:=Ic mk;exact hm
 ·obtain ⟨rfl,rfl⟩:=Ic mk
  rw [T1,B8e]
  exact ⟨a,hK⟩
def Wc(gl:Gl h)(x:FM h A p w m M)(hm:2*(3^w*bnd w m)+1<=40000000)(hm0:m<=40000000)(hK:∀ b A' c' h',h.le h'->SlF h' A' (zs (ecE M p w).cs)->K (.tuple #[Hy p w b (p*w) (p*w),.slice A' (ecE M p w).cs.length c',I 0]) h'):aN prog 146 #[Hy p w A (p*w) c] h K:=by
 refine Zp gl x.row x.nn (x.len hm0) x.szs (fun r k mk=>?_) (fun r k mk b a A' c' o=>?_) fun no=>absurd x.mx no
 ·obtain ⟨rfl,rfl⟩:=Ic mk;exact hm
 ·obtain ⟨rfl,rfl⟩:=Ic mk
  rw [T1,B8e] at *
  exact hK _ _ _ _ o.le o.ints.1
def Td(gl:Gl h)(x:FM h A p p m M)(hi:Mh (fl M p) p)(hm1:1<=m)(hm:2*(3^p*bnd (p+p) m)+1<=40000000)(hm0:m<=40000000)(hK:∀ A' c' h',h.le h'->aU SSr h' A' (p*p) (O7 (Rn (fl M p) p) p)->K (.tuple #[Hy p p A' (p*p) c',I 0]) h'):aN prog 148 #[Hy p p A (p*p) c] h K:=by
 refine Wi gl x.row x.nn (x.len hm0) x.szs hm1 (fun q mk=>?_) fun o d A' c' e b a=>?_
 ·obtain ⟨rfl,_⟩:=Ic mk;exact hm
 ·obtain rfl:=d.eq (.inr (.inr ⟨p,x.ok,.inl ⟨by rw [T1];exact hi,rfl⟩⟩))
  rw [T1] at a
  exact hK _ _ _ b a
def B96(n:Nat)(M X:Nat->Nat->Rat):Nat->Nat->Rat:=fun i j=>sm n fun t=>M i t*X t j
def Ul(gl:Gl h)(x:FM h A p n m M)(y:FM h B n w m X)(hm1:1<=m)(hm:2*(1+n*(2*m+1)+2*m)+14<=40000000)(hK:∀ A' c' h',h.le h'->aU SSr h' A' (p*w) (O7 (B96 n M X) w)->K (.tuple #[Hy p w A' (p*w) c',I 0]) h'):aN prog 176 #[Hy p n A (p*n) c,Hy n w B (n*w) c2] h K:=by
 have a:m<=40000000:=oo
 refine A5k (d:=n) gl x.row y.row x.nn y.nn (x.len a) (y.len a) x.szs y.szs hm1 (fun r k mk=>by have:=(Ic mk).2;omega) hm fun o mo A' c' i f g=>?_
 rcases mo with ⟨no,_⟩|⟨_,_,no,_⟩|⟨r,k,l,mk,b,rfl⟩
 ·exact absurd ⟨x.mx,y.mx⟩ no
 ·exact absurd rfl no
 ·obtain ⟨rfl,rfl⟩:=Ic mk
  obtain ⟨_,rfl⟩:=Ic b
  refine hK _ _ _ f (g.congr fun t q=>congrArg E7 (C4 fun j e=>?_))
  rw [T1,T1,Fh M e,Fh X (cL _ y.c1)]
def Gg{b:Nat->Rat}(gl:Gl h)(x:FM h A p w m M)(rb:aU SSr h B p (fun i=>E7 (b i)))(sb:∀ i,i<p->Sz m (b i))(ok:Bv (fl M w) b p w)(hm1:1<=m)(hm:2*(3^w*bnd (w+1) m)+1<=40000000/\2*(3^p*bnd (p+1) m)+1<=40000000/\7^w*m<=40000000/\7^p*m<=40000000)
 (hK:∀ A' c' B2 n2 c2 h',h.le h'->aU SSr h' A' w (fun i=>E7 (Pc (fl M w) b p w i))->K (.tuple #[.slice A' w c',.slice B2 n2 c2,I 0]) h'):aN prog 111 #[Hy p w A (p*w) c,.slice B p c2] h K:=by
 have a:m<=40000000:=bF (Nat.le_mul_of_pos_left _ (Nat.pow_pos dc)) hm.2.2.1
 have f:rvs (fun i=>E7 (b i))=b:=funext fun _=>F9 _
 refine A2h gl x.row rb x.nn (by have:=x.r2;omega) (x.len a) (fun i d=>by have:=Vh (sb i d);omega) x.szs (fun i d=>by rw [F9];exact sb i d) hm1 (fun r k mk=>?_) fun o j n q _ A' c' A2 c2 s g e l=>?_
 ·obtain ⟨rfl,rfl⟩:=Ic mk;exact hm
 ·obtain rfl:=j.eq (.inr (.inr ⟨p,w,x.ok,fun _ _=>⟨_,rfl⟩,rfl,.inl ⟨by rw [T1,f];exact ok,rfl⟩⟩))
  rw [T1,f] at e
  exact hK _ _ _ _ _ _ g e
end
abbrev Pn:=List UInt8 × List Int
abbrev tm(ts:List Pn)(j:Nat):Pn:=ts.getD j ([],[])
structure TermOk (vars:Int) (t:Pn):Prop where
 num:∃ q,t.1=E7 q/\q≠0
 len:(t.2.length:Int)=vars
 exps:∀ x∈t.2,0<=x/\x<=1048576
def B97(vars:Int)(ts:List Pn)(j:Nat):Prop:=TermOk vars (tm ts j)/\(0<j->0<B5z (tm ts (j-1)).2 (tm ts j).2)
structure WfOk (vars:Int) (ts:List Pn):Prop where
 lo:0<=vars
 hi:vars<=6
 all:∀ j,j<ts.length->B97 vars ts j
def A9p(vars:Int)(ts:List Pn):Prop:=WfOk vars ts/\(0<ts.length->S7 (tm ts 0).2=true)
def TermOk.exb{vars:Int}{t:Pn}(o:TermOk vars t)(hv:vars<=6):ExB t.2:=⟨by have:=o.len;omega,o.exps⟩
def PolyAt(h:aG)(A:Option aK)(ts:List Pn):Prop:=∀ i,i<ts.length->∃ a B c,A=some a/\h.cell? (aH (aH a (i*2)) 0)=some (.string (bs (tm ts i).1))/\h.cell? (aH (aH a (i*2)) 1)=some (.slice B (tm ts i).2.length c)/\SlI .i64 h B (tm ts i).2
def PolyAt.mono{h h':aG}{A:Option aK}{ts:List Pn}(p:PolyAt h A ts)(hl:h.le h'):PolyAt h' A ts:=fun i g=>by
 obtain ⟨a,B,c,e,b,f,d⟩:=p i g
 exact ⟨a,B,c,e,C1 hl b,C1 hl f,d.mono hl⟩
def A5s{xs:List Int}(h:∀ j,j<xs.length->0<=xs.getD j 0/\xs.getD j 0<=1048576):∀ x∈xs,0<=x/\x<=1048576:=fun x b=>by
 obtain ⟨j,a,rfl⟩:=List.getElem_of_mem b
 have:=h j a
 simpa [cC,a] using this
def Lh{xs:List Int}{j:Nat}(hj:j<xs.length):xs.getD j 0∈xs:=by simp [cC,hj]
abbrev Vd(n:Nat):={l:List aP // l.length=n/\∀ v∈l,Mj v=true}
instance cellsEnc (n:Nat):Enc (Vd n):=⟨⟨fun x=>x.1,n,fun x=>x.2.1,fun x=>x.2.2⟩⟩
def Gs{P:bM}{t:aW}{z:aP}{size bytes:Nat}(hi:(P.info? t).map (fun i=>(i.zero,i.size,i.bytes))=some (some z,size,bytes)){K:VP}{h:aG}(x:∀ b,h b=none->K (.pointer (some ⟨b,0,none⟩)) (h.put b (.cells z.cells t))):wpH P (Instr.alloc t true (.tuple #[])) K h:=by
 obtain ⟨i,hi,a⟩:=Option.map_eq_some_iff.1 hi
 have c:i.zero=some z:=by simpa using congrArg (fun x=>x.1) a
 unfold Instr.alloc
 simp only [C8,N4 hi c,newVar,W4,H0]
 exact x
def Tr{P:bM}{t:aW}{n:Nat}(one:P.cellsOf t=n/\(P.info? t).isSome=true){v:aP}{vs:List aP}(hv:v.cells=vs.toArray)(hn:vs.length=n)(h1:∀ v∈vs,Mj v=true){g:aG}{b off:Nat}{e:aW}{arr:List aP}(ho:off+n<=arr.length){K:Unit->aG->Prop}
 (x:K () (g.put b (.cells (H8 arr off vs).toArray e))):wpH P (aV t (.pointer (some (aH ⟨b,0,none⟩ off))) v) K (g.put b (.cells arr.toArray e)):=by
 obtain ⟨d,a⟩:=Option.isSome_iff_exists.1 one.2
 have c:d.size=n:=by simpa [Program.cellsOf,a] using one.1
 unfold aV
 simp only [C8,Instr.sureAddr,H0,storeVar,J1 a,c,hv,List.size_toArray,hn,ne_eq,not_true_eq_false,if_false]
 rw [D6,bD]
 exact G7 vs off 0 _ o h1 (by rw [dM];exact x)
def Cz{h g:aG}{b:Nat}{arr:List aP}{e:aW}(eq:h=g.put b (.cells arr.toArray e)){i:Nat}{v:aP}(hv:arr[i]? = some v):h.cell? (aH ⟨b,0,none⟩ i)=some v:=by
 subst eq;rw [D6,D4];simpa using hv
def C0k:∀ l:List Int,l.length=6->∃ a b c d e f,l=[a,b,c,d,e,f]
 | [a,b,c,d,e,f],_=>⟨a,b,c,d,e,f,rfl⟩
abbrev C15:aP:=.agg #[I (0:Int),I (0:Int),I (0:Int),I (0:Int),I (0:Int),I (0:Int),.bool false,.slice none 0 0,.bool false,.slice none 0 0]
def B8i(a b c d e f:Int)(w:QV):List aP:=[I a,I b,I c,I d,I e,I f,.bool w.s,.slice w.A w.n w.c,.bool w.s2,.slice w.A2 w.n2 w.c2]
section
variable {h:aG} {K:VP} {vars:Int}
def Vt{l:List UInt8}{xs:List Int}{A:Option aK}{c:Nat}(gl:Gtz h)(hl:l.length<=100000000)(se:SlI .i64 h A xs)(hv:vars<=6)(hK1:TermOk vars (l,xs)->∀ a b c d e f (w:QV),K (.tuple #[.agg (B8i a b c d e f w).toArray,.bool true]) h)(hK0:¬ TermOk vars (l,xs)->K (.tuple #[C15,.bool false]) h):aN prog 285 #[I vars,.agg #[.string (bs l),.slice A xs.length c]] h K:=by
 refine FCall.pure ((fnk func285 [(5,[34],[(4,10)],[I 0,I 0,I 0,I 0,I 0,I 0,I 0,.bool false,.slice none 0 0,.bool false,.slice none 0 0])] (own:=[3,4,6])) ?_)
 have no:∀ G,h.le G->¬ TermOk vars (l,xs)->h.le G/\K (.tuple #[C15,.bool false]) h:=fun G l0 n=>⟨l0,hK0 n⟩
 refine Nj gl hl (fun q e w D m i=>⟨_,_,_,_,_,_,_,_,_,rfl,?_⟩) (fun n w D m _=>⟨_,_,_,_,_,_,_,_,_,rfl,no D m fun o=>?_⟩)
 ·refine Bz i ⟨_,rfl,C0 (fun F=>no _ m fun o=>?_) (fun F=>?_)⟩
  ·obtain ⟨N,E,n'⟩:=o.num
   exact n' (by rw [<- Vj (e.symm.trans E)];exact F)
  refine E6 (fun u=>no _ m fun o=>u o.len) (fun z=>?_)
  refine ⟨fun l h'=>∃ (k:Nat) (R:List aP),l=I k::R/\k<=xs.length/\(∀ j,j<k->0<=xs.getD j 0/\xs.getD j 0<=1048576)/\h'=D,fun l _=>xs.length-(iAt l 0).toNat,⟨0,_,rfl,oo,fun j hj=>oo,rfl⟩,?_⟩
  rintro C ad ah aj af ak ae ai H aa L ag O X ac r ⟨k,R,B,hk,p,rfl⟩
  obtain rfl:C=(k:Int):=by simpa using (List.cons.inj B).1
  refine C0 (fun h2=>?_) (fun h2=>?_)
  ·have hkl:k<xs.length:=oo
   refine (se.mono m).load rfl oo oo ?_
   rw [aC]
   refine C0 (fun h3=>no _ m fun o=>?_) (fun h3=>C0 (fun h4=>no _ m fun o=>?_) (fun h4=>?_))
   ·have:=(o.exps _ (Lh hkl)).1;exact absurd this (by show ¬ 0<=xs.getD k 0;omega)
   ·have:=(o.exps _ (Lh hkl)).2;exact absurd this (by show ¬ xs.getD k 0<=1048576;omega)
   ·rw [B9 oo oo]
    refine ⟨⟨k+1,_,rfl,oo,fun j hj=>?_,rfl⟩,by simp only [iAt,aF];omega⟩
    by_cases y:j=k
    ·subst y;omega
    ·exact p j oo
  ·have hkl:k=xs.length:=oo
   subst hkl
   have ok:TermOk vars (l,xs):=⟨⟨q,e,F⟩,z,A5s p⟩
   refine Gs Vm.info fun b hb=>⟨_,rfl,?_⟩
   refine Tr (n:=4) A7d (vs:=[.bool w.s,.slice w.A w.n w.c,.bool w.s2,.slice w.A2 w.n2 w.c2]) rfl rfl (by simp [Mj]) (off:=6) (arr:=[I (0:Int),I (0:Int),I (0:Int),I (0:Int),I (0:Int),I (0:Int),.bool false,.slice none 0 0,.bool false,.slice none 0 0]) dc ?_
   have win:Win .i64 (r.put b (.cells (H8 [I (0:Int),I (0:Int),I (0:Int),I (0:Int),I (0:Int),I (0:Int),.bool false,.slice none 0 0,.bool false,.slice none 0 0] 6 [.bool w.s,.slice w.A w.n w.c,.bool w.s2,.slice w.A2 w.n2 w.c2]).toArray 361)) r b 361 (T9 (some (aH ⟨b,0,none⟩ 0)) 6 0 1) [] [0,0,0,0,0,0] [.bool w.s,.slice w.A w.n w.c,.bool w.s2,.slice w.A2 w.n2 w.c2]:=⟨hb,rfl,.inr rfl⟩
   have l2:r.le _:=win.le
   have t:xs.length<=6:=oo
   refine Cw Pa win rfl ((se.mono m).mono l2) rfl (by simpa using t) fun h5 w5=>⟨_,rfl,?_⟩
   obtain ⟨T,V,W,M,S,Q,e6⟩:=C0k (xs++[0,0,0,0,0,0].drop xs.length) (by simp;omega)
   have g:=w5.eq
   rw [e6] at g
   refine ⟨T,V,W,M,S,Q,_,_,_,_,_,_,_,_,Cz g rfl,Cz g rfl,Cz g rfl,Cz g rfl,Cz g rfl,Cz g rfl,Cz g rfl,Cz g rfl,Cz g rfl,Cz g rfl,B0 m w5.le,?_⟩
   exact hK1 ok T V W M S Q w
 ·obtain ⟨N,E,_⟩:=o.num
  exact n ⟨N,E⟩
end
def Fa{h:aG}{b:Nat}{o:Obj}(e:h b=some o):h.put b o=h:=funext fun k=>by
 unfold Heap.put
 split
 ·rename_i q;subst q;exact e.symm
 ·rfl
def A3z:∀ v:Fin 3,∀ d:Fin 4,1<=v.val->1<=nM v d/\nM v d<=10/\(d.val<=2->nM v d<=6):=by decide +kernel
def A2f{v d:Nat}(h1:1<=v)(h2:v<=2)(hd:d<=3):1<=nM v d/\nM v d<=10:=by
 have:=A3z ⟨v,o⟩ ⟨d,o⟩ h1
 exact ⟨this.1,this.2.1⟩
def A9c{n m:Nat}(hn:n<=10)(hm:m<=15):3^n*bnd n m<=9802134/\bnd n m<=166:=by
 have b:n*m<=10*15:=aL hn hm
 have a:bnd n m<=166:=by unfold bnd;omega
 exact ⟨aL (cH dc hn) a,a⟩
def rkM(V:Nat->Rat)(v d:Nat):Nat:=(ecE (Rh V v d) (nM v d) (nM v d)).cs.length
section
variable {h:aG} {K:VP} {A B T:Option aK} {c cc tc n m v d D:Nat} {V:Nat->Rat}
def Zt(h1:1<=v)(h2:v<=2)(hd3:d<=3)(d6:D<=6)(hD:2*d<=D):A11 (nM v d) (Rh V v d):=fun i k a b=>by
 unfold Rh
 rw [(Y8 h1 h2 hd3 d6 hD a b).sym]
def FnV.fm(f:FnV h A v D m V)(hd3:d<=3)(hD:2*d<=D)(r:aU SSr h B (nM v d*nM v d) (O7 (Rh V v d) (nM v d))):FM h B (nM v d) (nM v d) m (Rh V v d):=by
 have:=A2f f.v1 f.v2 hd3
 exact ⟨this.1,o,this.1,o,r,fun i j b a=>f.sz _ (Y8 f.v1 f.v2 hd3 f.d6 hD b a).lt⟩
def A2j(gl:Gl h)(f:FnV h A v D m V)(hm:m<=15)(hd1:1<=d)(hd3:d<=3)(hD:2*d<=D)(hK:K (.tuple #[I (rkM V v d:Int),.bool ((rkM V v d:Int)==(rkM V v (d-1):Int)),I 0]) h):
 aN prog 105 #[.agg #[I (v:Int),I (D:Int),.slice A (mo v D).length c],I (d:Int)] h K:=by
 have S:=f.d6
 have M:C3 (dE (D:Int) 2)=((D/2:Nat):Int):=by
  rw [bV oo,B9 oo oo];omega
 refine FCall.pure ((fnk func105 [(7,[23],[],[I 0])] (own:=[2,9])) ?_)
 refine Cd gl f ⟨_,rfl,Br.nt (C0 (fun e=>oo) (fun _=>?_))⟩
 rw [M]
 refine C0 (fun e=>oo) (fun _=>?_)
 refine Gs (z:=.agg #[I 0,I 0]) (size:=2) (bytes:=16) (by kernel_rfl) fun b p=>⟨_,rfl,?_⟩
 refine ⟨fun L a=>∃ (i:Nat) (x y:Int) (e:aW),i<=2/\L=[I (i:Int)]/\h.le a/\a b=some (.cells #[I x,I y] e)/\(1<=i->x=rkM V v d)/\(2<=i->y=rkM V v (d-1)),fun L _=>2-(iAt L 0).toNat,⟨0,0,0,_,oo,rfl,Heap.le_put _ p,C2 _ _ _,fun e=>oo,fun e=>oo⟩,?_⟩
 rintro z a ⟨i,x,y,T,W,N,g,l,w,Q⟩
 obtain rfl:=sI1 N
 refine C0 (fun C=>?_) (fun B=>?_)
 ·rw [show C3 ((d:Int)-(i:Int))=((d-i:Nat):Int) by rw [B9]<;>omega]
  have r:=f.mono g
  refine Er (d:=d-i) (gl.mono g) r oo oo fun A1 c1 H j E=>⟨_,_,_,_,_,_,rfl,E6 (fun e=>absurd rfl e) (fun _=>?_)⟩
  have F:=A2f f.v1 f.v2 (show d-i<=3 from oo)
  have R:=A9c F.2 hm
  refine Rd (m:=m) (gl.mono (B0 g j)) ((r.mono j).fm oo oo E) (by rw [bU 2];omega) oo ⟨_,_,rfl,⟨oo,oo⟩,?_⟩
  have n:=j _ _ l
  rw [<- Fa n]
  refine Kc ⟨by kernel_rfl,by kernel_rfl⟩ (by simp;omega) ?_
  refine E6 (fun e=>absurd rfl e) (fun _=>?_)
  rw [wiS i oo,aC]
  have t:∀ o,h.le (H.put b o):=fun o k u e=>by
   have G:k≠b:=fun q=>by rw [q,p] at e;cases e
   rw [B7 _ _ G];exact j _ _ (g _ _ e)
  refine ⟨?_,by simp only [Y2];omega⟩
  rcases (show i=0\/i=1 from oo) with rfl|rfl
  ·exact ⟨1,_,y,_,oo,rfl,t _,by rw [C2];rfl,fun _=>rfl,fun e=>oo⟩
  ·exact ⟨2,x,_,_,oo,rfl,t _,by rw [C2];rfl,fun _=>w oo,fun _=>rfl⟩
 ·obtain rfl:i=2:=oo
  have s:a.cell? (aH ⟨b,0,none⟩ ((0:Int).toNat*1))=some (I x):=by
   rw [D6];unfold Heap.cell?;rw [l];rfl
  have O:a.cell? (aH ⟨b,0,none⟩ ((1:Int).toNat*1))=some (I y):=by
   rw [D6];unfold Heap.cell?;rw [l];rfl
  refine ⟨dc,_,s,dc,_,s,dc,_,O,g,?_⟩
  rw [w oo,Q oo]
  exact hK
def Ri(gl:Gl h)(f:FnV h A v D m V)(hm:m<=15)(hd3:d<=3)(hD:2*d<=D)(hK1:(∀ k,k<nM v d->Qb (mtx (fl (Rh V v d) (nM v d)) (nM v d)) (nM v d) k)->K (.tuple #[.bool true,I 0]) h)(hK0:(¬ ∀ k,k<nM v d->Qb (mtx (fl (Rh V v d) (nM v d)) (nM v d)) (nM v d) k)->K (.tuple #[.bool false,I 0]) h):
 aN prog 106 #[.agg #[I (v:Int),I (D:Int),.slice A (mo v D).length c],I (d:Int)] h K:=by
 refine FCall.pure ((fnk func106 (own:=[2,6,8])) ?_)
 refine Er gl f hd3 hD fun A1 c1 C a r=>⟨_,_,_,_,_,_,rfl,E6 (fun e=>absurd rfl e) (fun _=>?_)⟩
 have u:=A2f f.v1 f.v2 hd3
 have E:=A9c u.2 hm
 have x:=(f.mono a).fm hd3 hD r
 have sq:SqOk (nM v d) (nM v d) (nM v d*nM v d) (O7 (Rh V v d) (nM v d)) (nM v d):=⟨x.ok,fun i j g z=>by
  obtain ⟨l,t⟩:=dm1 (i:=i) (show j<nM v d from oo)
  obtain ⟨n,s⟩:=dm1 (i:=j) g
  unfold O7
  rw [l,t,n,s,Zt f.v1 f.v2 hd3 f.d6 hD i j g oo]⟩
 refine A5z (m:=m) (Q:=20000000) (gl.mono a) x.row x.nn (x.len oo) x.szs (fun q mk=>?_) (aD _) fun o b A2 B2 c2 c3 B p w y=>⟨_,_,_,_,_,_,_,_,_,_,rfl,B0 a p,?_⟩
 ·obtain ⟨rfl,_⟩:=Ic mk;omega
 ·by_cases ok:∀ k,k<nM v d->Qb (mtx (rvs (O7 (Rh V v d) (nM v d))) (nM v d)) (nM v d) k
  ·obtain rfl:=b.eq (.inr ⟨_,sq,.inl ⟨ok,rfl⟩⟩)
   rw [T1] at ok
   exact hK1 ok
  ·obtain rfl:=b.eq (.inr ⟨_,sq,.inr ⟨ok,rfl⟩⟩)
   rw [T1] at ok
   exact hK0 ok
end
def MIr:aG->HV->List Int->Prop:=fun h w a=>w.n=a.length/\SlI .i64 h w.A a/\a.length<=6
def A8d:Mon MIr:=fun _ _ _ _ l i=>⟨i.1,i.2.1.mono l,i.2.2⟩
def pvL(V:Nat->Rat)(v d:Nat):List Nat:=(ecE (Rh V v d) (nM v d) (nM v d)).cs
def bdr(V:Nat->Rat)(v d:Nat)(i:Nat):List Int:=mon v d ((pvL V v d).getD i 0)
def sqM(V:Nat->Rat)(v d:Nat):Nat->Nat->Rat:=fun i j=>Rh V v d ((pvL V v d).getD i 0) ((pvL V v d).getD j 0)
def ivM(V:Nat->Rat)(v d:Nat):Nat->Nat->Rat:=Rn (fl (sqM V v d) (rkM V v d)) (rkM V v d)
def Ko(V:Nat->Rat)(v d:Nat){i:Nat}(hi:i<rkM V v d):(pvL V v d).getD i 0<nM v d:=
 (EqA.run (n:=nM v d) (w:=nM v d) (Rh V v d) (nM v d) (aD _)).lt _ (O1 hi)
def B2l(V:Nat->Rat)(v d:Nat):rkM V v d<=nM v d:=(V6 (Rh V v d) (nM v d) (nM v d)).2
section
variable {h:aG} {K:VP} {A B T:Option aK} {c cc tc n m v d D:Nat} {V:Nat->Rat}
def RowV.mi{f:Nat->List Int}(r:aU MIr h A n f){i:Nat}(hi:i<n):∃ a B bc,A=some a/\h.cell? (aH a (i*1))=some (.slice B (f i).length bc)/\SlI .i64 h B (f i):=by
 obtain ⟨a,w,e,⟨c,d,_⟩,b⟩:=r.at dc hi
 have:=b 0 _ rfl
 rw [V9,c] at this
 exact ⟨a,_,_,e,this,d⟩
def A6z(h1:1<=v)(h2:v<=2)(hd3:d<=3)(d6:D<=6)(hD:2*d<=D):Mh (fl (sqM V v d) (rkM V v d)) (rkM V v d):=A7u (Zt h1 h2 hd3 d6 hD)
def Ch(gl:Gl h)(f:FnV h A v D m V)(hm1:1<=m)(hm:m<=15)(hd2:d<=2)(hD:2*d<=D)(hr:1<=rkM V v d)
 (hK:∀ BA bc IA ic h',h.le h'->aU MIr h' BA (rkM V v d) (bdr V v d)->aU SSr h' IA (rkM V v d*rkM V v d) (O7 (ivM V v d) (rkM V v d))->K (.tuple #[.agg #[I (v:Int),I (D:Int),.slice A (mo v D).length c,.slice BA (rkM V v d) bc,I (rkM V v d:Int),I (rkM V v d:Int),.slice IA (rkM V v d*rkM V v d) ic],I 0]) h'):
 aN prog 107 #[.agg #[I (v:Int),I (D:Int),.slice A (mo v D).length c],I ((d+1:Nat):Int)] h K:=by
 have d6:=f.d6
 have nb:=A2f f.v1 f.v2 (show d<=3 from o)
 have p:=(A3z ⟨v,by have:=f.v2;omega⟩ ⟨d,o⟩ f.v1).2.2 hd2
 change nM v d<=6 at p
 have bb:=A9c nb.2 hm
 have ah:=B2l V v d
 refine (fnk func107 [(13,[59],[(11,7),(12,3)],[I 0,I 0,I 0,.slice none 0 0,.slice none 0 0,I 0,I 0,.slice none 0 0,I 0,I 0,.slice none 0 0]),(17,[74],[(12,3)],[I 0,I 0,I 0,.slice none 0 0])] (own:=[2,4,6,8,11,12]) (wr:=[1000000000])) ?_
 rw [show C3 (((d+1:Nat):Int)-1)=(d:Int) by rw [B9]<;>omega]
 refine Er gl f o hD fun A1 c1 h1 O r1=>⟨_,_,_,_,_,_,rfl,E6 (fun e=>absurd rfl e) (fun _=>?_)⟩
 have x:=(f.mono O).fm o hD r1
 refine Wc (m:=m) (gl.mono O) x (by rw [bU 2];omega) o fun b A2 c2 h2 l2 sz=>⟨_,_,_,_,_,_,_,_,_,rfl,E6 (fun e=>absurd rfl e) (fun _=>?_)⟩
 refine Hn f.v1 f.v2 o fun A3 c3 M H s3=>⟨_,_,_,_,rfl,E6 (fun e=>absurd rfl e) (fun _=>?_)⟩
 have aa:=sz.mono H
 have r3:=r1.mono E8 (B0 l2 H)
 have Q:=gl.mono (B0 O (B0 l2 H))
 have hz:∀ i,i<rkM V v d->∃ a,A2=some a/\M.cell? (aH a (i*1))=some (I ((pvL V v d).getD i 0:Int)):=fun i N=>by
  have hl:(zs (pvL V v d)).length=rkM V v d:=by unfold zs;rw [cX];rfl
  obtain ⟨a,e,q⟩:=aa.iat (i:=i) (by show i<(zs (pvL V v d)).length;omega)
  have R:i<(pvL V v d).length:=N
  have e0:(pvL V v d).getD i 0=(pvL V v d)[i]:=by simp [cC,R]
  exact ⟨a,e,by rw [q,e0];simp;rfl⟩
 change SlF h2 A2 (zs (pvL V v d)) at sz
 generalize hF:O7 (sqM V v d) (rkM V v d)=F
 have t:∀ i k,k<rkM V v d->F (i*rkM V v d+k)=E7 (sqM V v d i k):=fun i k hk=>by
  obtain ⟨u,C⟩:=dm1 (i:=i) hk
  rw [<- hF];unfold O7;rw [u,C]
 refine ⟨fun L G=>∃ (i:Nat) (BA:Option aK) (bc:Nat) (SA:Option aK) (s:Nat),i<=rkM V v d/\L=[I (i:Int),I (v:Int),I (D:Int),.slice A (mo v D).length c,.slice BA i bc,I 0,I 0,.slice none 0 0,I (rkM V v d:Int),I (rkM V v d:Int),.slice SA (i*rkM V v d) s]/\Lst2 MIr 22 SSr 9 M G BA bc i (bdr V v d) SA s (i*rkM V v d) F,fun L _=>rkM V v d-(iAt L 0).toNat,⟨0,none,0,none,0,o,by rw [aX];rfl,by rw [aX];exact Lst2.nil⟩,?_⟩
 rintro z q0 q1 qA qn qc pA i pc q4 q5 uA un uc s0 s1 sA sn s G ⟨i0,BA,bc,SA,S,N,E,L⟩
 simp only [aR,aT,aS,true_and,and_true] at E
 obtain ⟨rfl,rfl,rfl,⟨rfl,rfl,rfl⟩,⟨rfl,rfl,rfl⟩,rfl,rfl,⟨rfl,rfl,rfl⟩,rfl,rfl,rfl,rfl,rfl⟩:=E
 refine C0 (fun aj=>?_) (fun am=>?_)
 ·have r:i<rkM V v d:=by unfold rkM;omega
  have T:(i+1)*rkM V v d=i*rkM V v d+rkM V v d:=by rw [cI,bW]
  have ai:(i+1)*rkM V v d<=rkM V v d*rkM V v d:=aM _ r
  have ao:rkM V v d*rkM V v d<=6*6:=aL o o
  have g:=Ko V v d r
  obtain ⟨a,e,c0⟩:=hz i r
  obtain ⟨u,B,W,e1,ac,s1⟩:=s3.mon g
  refine ⟨a,e,o,o,_,C1 L.le c0,u,e1,o,by unfold nM at g;omega,_,_,_,by rw [aC];exact C1 L.le ac,?_⟩
  refine L.pushG A8d E8 Tq rfl (y:=(⟨B,(mon v d ((pvL V v d).getD i 0)).length,W⟩:HV)) (by rfl) ⟨rfl,s1,?_⟩ dc o fun BA2 ae h5 L5=>?_
  ·have:=((T4 f.v1 f.v2 (show d<=6 from o)).val _ g).2.1
   have:=f.v2
   unfold bdr;omega
  refine ⟨fun L G=>∃ (k:Nat) (SA:Option aK) (s:Nat),k<=rkM V v d/\L=[I (k:Int),I (rkM V v d:Int),I (rkM V v d:Int),.slice SA (i*rkM V v d+k) s]/\Lst2 MIr 22 SSr 9 M G BA2 ae (i+1) (bdr V v d) SA s (i*rkM V v d+k) F,fun L _=>rkM V v d-(iAt L 0).toNat,⟨0,_,_,o,rfl,L5⟩,?_⟩
  rintro z s0 ak tA tn an al ⟨k,SA,S,hk,E,L6⟩
  simp only [aR,aT,aS,true_and,and_true] at E
  obtain ⟨rfl,rfl,rfl,rfl,rfl,rfl⟩:=E
  refine C0 (fun ag=>?_) (fun af=>?_)
  ·have l:k<rkM V v d:=by unfold rkM at *;omega
   have w:=Ko V v d l
   have hq:=Q4 g w
   obtain ⟨C,e2,X⟩:=hz k l
   obtain ⟨a3,e3,ad⟩:=r3.sat hq
   have ap:nM v d*nM v d<=6*6:=aL p p
   have ew:C3 (C3 (((pvL V v d).getD i 0:Int)*(nM v d:Int))+((pvL V v d).getD k 0:Int))=(((pvL V v d).getD i 0*nM v d+(pvL V v d).getD k 0:Nat):Int):=by
    rw [<- bK,K3 o]
    exact K3 (n:=(pvL V v d).getD i 0*nM v d+(pvL V v d).getD k 0) o
   refine ⟨C,e2,o,o,_,C1 L6.le X,?_⟩
   dsimp only;rw [ew]
   refine ⟨a3,e3,o,o,_,C1 L6.le ad,?_⟩
   refine L6.swap.pushG E8 A8d H1 rfl (y:=O7 (Rh V v d) (nM v d) ((pvL V v d).getD i 0*nM v d+(pvL V v d).getD k 0)) (by rfl) ?_ dc o fun A5 c5 h5 L7=>?_
   ·rw [t i k l]
    obtain ⟨u,C⟩:=dm1 (i:=(pvL V v d).getD i 0) w
    show O7 _ _ _=_
    unfold O7;rw [u,C];rfl
   rw [wiS k o]
   exact ⟨⟨k+1,_,_,o,rfl,L7.swap⟩,by simp only [Y2];omega⟩
  ·obtain rfl:k=rkM V v d:=by unfold rkM at *;omega
   rw [wiS i o]
   rw [<- T] at L6 ⊢
   exact ⟨⟨i+1,_,_,_,_,o,rfl,L6⟩,by simp only [Y2];omega⟩
 ·obtain rfl:i=rkM V v d:=by unfold rkM at *;omega
  have y:FM G sA (rkM V v d) (rkM V v d) m (sqM V v d):=⟨hr,o,hr,o,by rw [hF];exact L.swap.row E8,fun i j N hj=>x.sz _ _ (Ko V v d N) (Ko V v d hj)⟩
  have g3:=L.le
  refine Td (m:=m) (Q.mono g3) y (A6z f.v1 f.v2 o d6 hD) hm1 ?_ o fun A6 c6 h6 l6 r6=>⟨_,_,_,_,_,_,rfl,hK _ _ _ _ _ (B0 O (B0 l2 (B0 H (B0 g3 l6)))) ((L.row A8d).mono A8d l6) r6⟩
  have h1:(rkM V v d+rkM V v d)*m<=12*15:=aL o hm
  have h2:3^rkM V v d<=3^6:=cH dc o
  have M:3^rkM V v d*bnd (rkM V v d+rkM V v d) m<=729*196:=aL h2 (by unfold bnd;omega)
  omega
end
section
variable {α β:Type} [E:Enc α] {R:aG->α->β->Prop}
def OwnK.fill(m:Mon R){P:bM}{t:aW}(one:P.cellsOf t=E.default.size/\(P.info? t).isSome=true){h h':aG}{b n k:Nat}{f:Nat->β}(w:OwnK R h h' b n k f)(hk:k<n){v:aP}{y:α}(hv:v.cells=(enc y).toArray)(hy:R h y (f k)){K:Unit->aG->Prop}
 (x:∀ h2,OwnK R h h2 b n (k+1) f->K () h2):wpH P (aV t (.pointer (some (aH ⟨b,0,none⟩ (k*E.default.size)))) v) K h':=by
 obtain ⟨g,o,i,a,s,d,e,c⟩:=w
 exact OwnK.store m one a (B6 _) s d e c hk hv (m _ _ _ _ a hy) x
end
def t0:({ data:=#[48] }:ByteArray)=bs (E7 0):=by rw [Yb];rfl
def t1:({ data:=#[49] }:ByteArray)=bs (E7 1):=by decide +kernel
def zq:aP:=.agg #[I 0,I 0,.slice none 0 0,.slice none 0 0,I 0,I 0,.slice none 0 0]
section
variable {h:aG} {K:VP} {A B T FA:Option aK} {c cc tc fc n m m2 v d D:Nat} {V F:Nat->Rat}
def Tg(hv:v<=6){l1:Int}{l2n l2c:Nat}(hK:∀ b h',Own SSr h h' b v (fun _=>E7 0)->K (.slice (some ⟨b,0,none⟩) v v) h'):aN prog 60 #[.agg #[I (v:Int),I l1,.slice A l2n l2c]] h K:=by
 refine (fnk func60 [(3,[12],[],[I 0])] (own:=[1])) ?_
 rw [iN (show ¬ (0:Int)>(v:Int) from o),iN (show ¬ (6:Int)<(v:Int) from o)]
 refine J2 H1 (zx:=([]:List UInt8)) rfl o o o o ?_
 intro b e
 refine ⟨_,_,_,rfl,fun L c=>∃ k:Nat,k<=v/\L=[I k]/\OwnK SSr h c b v k (fun _=>E7 0),fun L _=>v-(iAt L 0).toNat,⟨0,o,rfl,OwnK.zero e⟩,?_⟩
 rintro t c ⟨k,i,g,w⟩
 obtain rfl:=sI1 g
 refine C0 (fun d=>?_) (fun a=>?_)
 ·refine ⟨_,rfl,o,by simpa using d,?_⟩
  refine w.fill E8 J6 (y:=E7 0) o (by rw [t0];rfl) rfl fun j f=>?_
  rw [wiS k o]
  exact ⟨⟨k+1,o,rfl,f⟩,by simp only [Y2];omega⟩
 ·obtain rfl:k=v:=by simp at a;omega
  exact hK b c w.own
def psd(V:Nat->Rat)(v d:Nat):Prop:=∀ k,k<nM v d->Qb (mtx (fl (Rh V v d) (nM v d)) (nM v d)) (nM v d) k
def Te{var:Int}{pos:Bool}(gl:Gl h)(f:FnV h A v D m V)(hm1:1<=m)(hm:m<=15)(hd3:d<=3)(fr:aU SSr h FA v (fun i=>E7 (F i)))(sF:∀ i,i<v->Sz m2 (F i))(hm2:m2<=1000000)
 (h3:d<1\/D<2*d\/(v:Int)<=var->K (.tuple #[zq,I 3]) h)
 (h11:1<=d->2*d<=D->var<v->¬ (rkM V v d=rkM V v (d-1)/\1<=rkM V v d/\(pos=true->psd V v d))->K (.tuple #[zq,I 11]) h)
 (hK:∀ d',d=d'+1->2*d<=D->var<v->rkM V v d=rkM V v d'->1<=rkM V v d'->(pos=true->psd V v d)->∀ BA bc IA ic h',h.le h'->aU MIr h' BA (rkM V v d') (bdr V v d')->aU SSr h' IA (rkM V v d'*rkM V v d') (O7 (ivM V v d') (rkM V v d'))->K (.tuple #[.agg #[I (v:Int),I (D:Int),.slice A (mo v D).length c,.slice BA (rkM V v d') bc,I (rkM V v d':Int),I (rkM V v d':Int),.slice IA (rkM V v d'*rkM V v d') ic],I 0]) h'):
 aN prog 59 #[.agg #[I (v:Int),I (D:Int),.slice A (mo v D).length c],I (d:Int),I var,.slice FA v fc,.bool pos] h K:=by
 have O:=f.v1;have X:=f.v2;have R:=f.d6
 have y:C3 (dE (D:Int) 2)=((D/2:Nat):Int):=by
  rw [bV o,B9 o o];omega
 refine (fnk func59 [(4,[25],[(10,7)],[I 0,I 0,I 0,.slice none 0 0,.slice none 0 0,I 0,I 0,.slice none 0 0])] (own:=[5,10])) ?_
 refine Cd gl f ⟨_,rfl,Br.nt ?_⟩
 refine ⟨fun L q=>∃ k:Nat,k<=v/\L=[I (k:Int),I 0,I 0,.slice none 0 0,.slice none 0 0,I 0,I 0,.slice none 0 0]/\q=h,fun L _=>v-(iAt L 0).toNat,⟨0,o,rfl,rfl⟩,?_⟩
 rintro z a0 a1 aA an N E G bc T S Q W B q ⟨k,M,p,rfl⟩
 simp only [aR,aT,aS,true_and,and_true] at p
 obtain ⟨rfl,rfl,rfl,⟨rfl,rfl,rfl⟩,⟨rfl,rfl,rfl⟩,rfl,rfl,rfl,rfl,rfl⟩:=p
 refine C0 (fun w=>?_) (fun u=>?_)
 ·have g:k<v:=o
  obtain ⟨a,e,c0⟩:=fr.sat g
  refine ⟨a,e,o,o,_,by rw [aC];exact c0,?_⟩
  refine Nb gl (Tx.of (sF k g) o).len (fun _=>⟨_,rfl,Br.nt ?_⟩) (fun no=>absurd ⟨F k,rfl⟩ no)
  rw [wiS k o]
  exact ⟨⟨k+1,o,rfl,rfl⟩,by simp only [Y2];omega⟩
 ·rw [y]
  refine C0 (fun e=>h3 o) (fun n1=>C0 (fun e=>h3 o) (fun n2=>C0 (fun e=>h3 o) (fun C=>E6 (fun e=>absurd rfl e) (fun _=>?_))))
  obtain ⟨d',rfl⟩:∃ d',d=d'+1:=⟨d-1,o⟩
  have b:2*(d'+1)<=D:=o
  refine A2j gl f hm o hd3 b ⟨_,_,_,rfl,E6 (fun e=>absurd rfl e) (fun _=>?_)⟩
  refine Br.not (D8 (fun n=>?_) (fun n=>h11 o b o fun x=>n (by rw [x.1])))
  have t:rkM V v (d'+1)=rkM V v d':=by simpa using Int.ofNat.inj n
  refine C0 (fun e=>h11 o b o fun x=>o) (fun H=>?_)
  refine Br.of (fun j=>?_) (fun j=>?_)
  ·refine Ri gl f hm hd3 b (fun ok=>⟨_,_,rfl,E6 (fun e=>absurd rfl e) (fun _=>Br.nt ?_)⟩) (fun no=>⟨_,_,rfl,E6 (fun e=>absurd rfl e) (fun _=>Xp (h11 o b o fun x=>no (x.2.2 j)))⟩)
   exact Ch gl f hm1 hm o o o fun BA bc IA ic h' l r s=>⟨_,_,_,_,_,_,_,_,_,_,_,_,_,_,rfl,hK d' rfl b o t o (fun _=>ok) BA bc IA ic h' l r s⟩
  ·exact Ch gl f hm1 hm o o o fun BA bc IA ic h' l r s=>⟨_,_,_,_,_,_,_,_,_,_,_,_,_,_,rfl,hK d' rfl b o t o (fun x=>by rw [j] at x;cases x) BA bc IA ic h' l r s⟩
end
def Wd(a b:List Int):List Int:=opL (fun x y=>x+y) a b
def mpx(a b:List Int)(j:Nat):List Int:=(Wd a b).set j ((Wd a b).getD j 0+1)
def mi3(a b:List Int)(j:Nat):Nat:=(B60 (mpx a b j)).toNat
def B85(v d D:Nat):Bool:=
 (aJ (mo v d).length).all fun i=>(aJ (mo v d).length).all fun k=>(aJ v).all fun j=>
  decide ((Wd (mon v d i) (mon v d k)).length=v)&&decide (mpx (mon v d i) (mon v d k) j=mon v D (mi3 (mon v d i) (mon v d k) j))&&decide (mi3 (mon v d i) (mon v d k) j<(mo v D).length)&&decide (mi3 (mon v d i) (mon v d k) j=mi3 (mon v d k) (mon v d i) j)&&decide ((Wd (mon v d i) (mon v d k)).getD j 0<=100/\0<=(Wd (mon v d i) (mon v d k)).getD j 0)
def A8b:∀ v:Fin 3,∀ d:Fin 3,∀ D:Fin 7,1<=v.val->2*d.val+1<=D.val->B85 v d D=true:=by decide +kernel
structure Mu3 (v d D i k j:Nat):Prop where
 len:(Wd (mon v d i) (mon v d k)).length=v
 eq:mpx (mon v d i) (mon v d k) j=mon v D (mi3 (mon v d i) (mon v d k) j)
 lt:mi3 (mon v d i) (mon v d k) j<(mo v D).length
 sym:mi3 (mon v d i) (mon v d k) j=mi3 (mon v d k) (mon v d i) j
 b:(Wd (mon v d i) (mon v d k)).getD j 0<=100/\0<=(Wd (mon v d i) (mon v d k)).getD j 0
def mu3{v d D i k j:Nat}(h1:1<=v)(h2:v<=2)(hd:d<=2)(hD:D<=6)(hdD:2*d+1<=D)(hi:i<nM v d)(hk:k<nM v d)(hj:j<v):Mu3 v d D i k j:=by
 have:=A8b ⟨v,o⟩ ⟨d,o⟩ ⟨D,o⟩ h1 hdD
 simp only [B85,cD,decide_eq_true_eq,cU,dB] at this
 obtain ⟨⟨⟨⟨a,b⟩,c⟩,d⟩,e⟩:=this i hi k hk j hj
 exact ⟨a,b,c,d,e⟩
def B5u(V F:Nat->Rat)(v d n i k:Nat):Rat:=sm n fun j=>F j*V (mi3 (bdr V v d i) (bdr V v d k) j)
def A4q(V F:Nat->Rat)(v d:Nat):Nat->Nat->Rat:=fun i k=>B5u V F v d v i k
def fmM(V F:Nat->Rat)(v d:Nat):Nat->Nat->Rat:=B96 (rkM V v d) (ivM V v d) (A4q V F v d)
structure Quo (h:aG) (A BA IA:Option aK) (v D m d:Nat) (V:Nat->Rat):Prop where
 fn:FnV h A v D m V
 d2:d<=2
 dD:2*d+2<=D
 r1:1<=rkM V v d
 m1:1<=m
 m15:m<=15
 bd:aU MIr h BA (rkM V v d) (bdr V v d)
 iv:aU SSr h IA (rkM V v d*rkM V v d) (O7 (ivM V v d) (rkM V v d))
def Quo.mono{h h':aG}{A BA IA:Option aK}{v D m d:Nat}{V:Nat->Rat}(l:h.le h')(q:Quo h A BA IA v D m d V):Quo h' A BA IA v D m d V:=⟨q.fn.mono l,q.d2,q.dD,q.r1,q.m1,q.m15,q.bd.mono A8d l,q.iv.mono E8 l⟩
def Quo.r6{h:aG}{A BA IA:Option aK}{v D m d:Nat}{V:Nat->Rat}(q:Quo h A BA IA v D m d V):rkM V v d<=6:=by
 have a:=(A3z ⟨v,by have:=q.fn.v2;omega⟩ ⟨d,by have:=q.d2;omega⟩ q.fn.v1).2.2 q.d2
 have b:=B2l V v d
 change nM v d<=6 at a
 omega
abbrev B5v(A BA IA:Option aK)(c bc ic v D r:Nat):aP:=.agg #[I (v:Int),I (D:Int),.slice A (mo v D).length c,.slice BA r bc,I (r:Int),I (r:Int),.slice IA (r*r) ic]
section
variable {h:aG} {K:VP} {A BA IA FA:Option aK} {c bc ic fc m mf mq v d D:Nat} {V F:Nat->Rat}
def Dq(gl:Gl h)(q:Quo h A BA IA v D m d V)(fr:aU SSr h FA v (fun i=>E7 (F i)))(sF:∀ i,i<v->Sz mf (F i))(hmf:15<=mf/\mf<=1000000)
 (hs:∀ i k,i<rkM V v d->k<rkM V v d->Sz mq (ivM V v d i k)/\Sz mq (A4q V F v d i k)) (hq1:1<=mq) (hq:mq<=1000000)
 (hK:∀ A' c' h',h.le h'->aU SSr h' A' (rkM V v d*rkM V v d) (O7 (fmM V F v d) (rkM V v d))->K (.tuple #[Hy (rkM V v d) (rkM V v d) A' (rkM V v d*rkM V v d) c',I 0]) h'):
 aN prog 123 #[B5v A BA IA c bc ic v D (rkM V v d),.slice FA v fc] h K:=by
 have v1:=q.fn.v1;have v2:=q.fn.v2;have d6:=q.fn.d6;have d2:=q.d2;have dD:=q.dD;have r1:=q.r1;have r6:=q.r6
 have az:rkM V v d*rkM V v d<=6*6:=aL r6 r6
 refine (fnk func123 [(6,[44],[(8,3)],[I 0,I 0,I 0,.slice none 0 0]),(9,[51],[(8,3)],[I 0,I 0,I 0,.slice none 0 0]),(14,[15,63],[],[.string ⟨#[]⟩,I 0])] (own:=[2,4,8])) ?_
 refine Hn v1 v2 d6 fun A1 c1 h1 l1 s1=>⟨_,_,_,_,rfl,E6 (fun e=>absurd rfl e) (fun _=>?_)⟩
 have q1:=q.mono l1
 have f1:=q1.fn
 have fr1:=fr.mono E8 l1
 have O:=gl.mono l1
 generalize hG:O7 (A4q V F v d) (rkM V v d)=G
 have X:∀ i k,k<rkM V v d->G (i*rkM V v d+k)=E7 (A4q V F v d i k):=fun i k hk=>by
  obtain ⟨a1,a2⟩:=dm1 (i:=i) hk
  rw [<- hG];unfold O7;rw [a1,a2]
 refine ⟨fun L r=>∃ (i:Nat) (A':Option aK) (c':Nat),i<=rkM V v d/\L=[I (i:Int),I (rkM V v d:Int),I (rkM V v d:Int),.slice A' (i*rkM V v d) c']/\Lst SSr 9 h1 r A' c' (i*rkM V v d) G,fun L _=>rkM V v d-(iAt L 0).toNat,⟨0,none,0,oo,by rw [aX];rfl,by rw [aX];exact Lst.nil⟩,?_⟩
 rintro z m0 m1 mA mn mc r ⟨i,A',c',hi,E,L⟩
 simp only [aR,aT,aS,true_and,and_true] at E
 obtain ⟨rfl,rfl,rfl,rfl,rfl,rfl⟩:=E
 refine C0 (fun ar=>?_) (fun ay=>?_)
 ·have R:i<rkM V v d:=oo
  have ae:(i+1)*rkM V v d=i*rkM V v d+rkM V v d:=by rw [cI,bW]
  have aq:(i+1)*rkM V v d<=rkM V v d*rkM V v d:=aM _ R
  obtain ⟨a,B,b2,e,c0,s0⟩:=q1.bd.mi R
  refine ⟨_,e,oo,oo,_,_,_,by rw [aC];exact C1 L.le c0,?_⟩
  refine ⟨fun L r=>∃ (k:Nat) (A':Option aK) (c':Nat),k<=rkM V v d/\L=[I (k:Int),I (rkM V v d:Int),I (rkM V v d:Int),.slice A' (i*rkM V v d+k) c']/\Lst SSr 9 h1 r A' c' (i*rkM V v d+k) G,fun L _=>rkM V v d-(iAt L 0).toNat,⟨0,mA,mc,oo,rfl,L⟩,?_⟩
  rintro z m0 m1 au av a0 ax ⟨k,A2,c2,hk,E,L2⟩
  simp only [aR,aT,aS,true_and,and_true] at E
  obtain ⟨rfl,rfl,rfl,rfl,rfl,rfl⟩:=E
  refine C0 (fun ap=>?_) (fun ao=>?_)
  ·have M:k<rkM V v d:=oo
   obtain ⟨a3,B3,a7,e3,c3,al⟩:=q1.bd.mi M
   refine ⟨_,e3,oo,oo,_,_,_,by rw [aC];exact C1 L2.le c3,?_⟩
   have W:=Ko V v d R
   have aa:=Ko V v d M
   have qq:=Y8 v1 v2 (show d<=3 from oo) d6 (show 2*d<=D from oo) W aa
   refine L2.call E8 fun g lg=>Rg (s0.mono lg) (al.mono lg) (fun no=>by have:=qq.pair;unfold bdr at no;rw [no] at this;cases this) fun _ b N=>⟨Heap.le_put _ N,fun C _ L3=>⟨_,_,_,_,rfl,?_⟩⟩
   have L4:=L3.weak (B0 lg (Heap.le_put _ N))
   have m3:∀ j,j<v->Mu3 v d D ((pvL V v d).getD i 0) ((pvL V v d).getD k 0) j:=fun j p=>mu3 v1 v2 d2 d6 oo W aa p
   have u:=(m3 0 oo).len
   have S:bdr V v d i=mon v d ((pvL V v d).getD i 0):=rfl
   have ac:bdr V v d k=mon v d ((pvL V v d).getD k 0):=rfl
   rw [<- S,<- ac] at u
   change ∀ j,j<v->_ at m3
   generalize hP:opL (fun x y=>x+y) (bdr V v d i) (bdr V v d k)=P0 at *
   have Q:Wd (bdr V v d i) (bdr V v d k)=P0:=hP
   rw [Q] at u
   have hx:C b=some (.cells (P0.map I).toArray 3):=L3.le _ _ (C2 _ _ _)
   have eh:C=blk .i64 3 (fun x=>if x=b then none else C x) b P0:=funext fun x=>by
    unfold blk Heap.put
    by_cases f:x=b
    ·rw [iP f,f];exact hx
    ·rw [iN f]
     show C x=if x=b then none else C x
     rw [iN f]
   generalize hH:(fun x=>if x=b then none else C x:aG)=H at eh
   have aj:H b=none:=by rw [<- hH];exact iP rfl
   have ai:g.le H:=fun x o ho=>by
    have f:x≠b:=fun q=>by rw [q,N] at ho;cases ho
    rw [<- hH]
    show (if x=b then none else C x)=_
    rw [iN f]
    exact L3.le _ _ (by rw [B7 _ _ f];exact ho)
   have lH:=B0 lg ai
   have lB:∀ zs,h1.le (blk .i64 3 H b zs):=fun zs=>B0 lH (Bq aj zs)
   have ad:∀ n,n<=v->Sz (5*mf) (B5u V F v d n i k):=fun n hn=>(Qn (w:=v) (m:=mf) (f2:=fun j=>V (mi3 (bdr V v d i) (bdr V v d k) j)) (fun j p=>sF j p) (fun j p=>(f1.sz _ (m3 j p).lt).mono (by have:=q.m15;omega)) n hn).mono (by
    have:n*(2*mf+1)<=2*(2*mf+1):=aM _ oo
    omega)
   refine ⟨fun L r=>∃ (j:Nat),j<=v/\L=[.string (bs (E7 (B5u V F v d j i k))),I (j:Int)]/\r=C,fun L _=>v-(iAt L 1).toNat,⟨0,oo,by rw [t0];rfl,rfl⟩,?_⟩
   rintro a6 z r ⟨j,p,E,rfl⟩
   simp only [aR,aT,Value.string.injEq,true_and,and_true] at E
   obtain ⟨rfl,rfl⟩:=E
   have next:C3 ((j:Int)+1)=((j+1:Nat):Int)\/v<=j:=by
    by_cases l:v<=j
    ·exact .inr l
    ·left;rw [B9]<;>omega
   refine C0 (fun an=>?_) (fun am=>?_)
   ·have l:j<v:=oo
    have next:C3 ((j:Int)+1)=((j+1:Nat):Int):=next.resolve_right oo
    obtain ⟨a4,e4,c4⟩:=(fr1.mono E8 L4.le).sat l
    refine ⟨_,e4,oo,oo,_,by rw [aC];exact c4,?_⟩
    dsimp only;rw [eq0]
    refine C0 (fun hz=>?_) (fun hz=>?_)
    ·have:B5u V F v d (j+1) i k=B5u V F v d j i k:=by
      show B5u V F v d j i k+F j*_=_
      rw [hz,dI,dL]
     rw [next]
     exact ⟨⟨j+1,oo,by rw [this],rfl⟩,by simp only [iAt,aI,aF];omega⟩
    ·obtain ⟨M3len,M3eq,M3lt,M3sym,M3b⟩:=m3 j l
     rw [<- S,<- ac] at M3eq M3lt M3b
     have e0:mpx (bdr V v d i) (bdr V v d k) j=P0.set j (P0.getD j 0+1):=by unfold mpx;rw [Q]
     rw [e0] at M3eq
     rw [Q] at M3b
     have sP:SlI .i64 r (some ⟨b,0,none⟩) P0:=by rw [eh];exact Aj _ _ _ _ _
     refine sP.load rfl oo oo ⟨_,rfl,oo,oo,?_⟩
     rw [aC,eh]
     have ew:C3 (P0.getD j 0+1)=P0.getD j 0+1:=B9 oo oo
     rw [ew]
     refine Y6 Jz oo ?_
     have ah:P0.length=(mon v D (mi3 (bdr V v d i) (bdr V v d k) j)).length:=by rw [<- M3eq,cW]
     have t:SlI .i64 (blk .i64 3 H b (P0.set j (P0.getD j 0+1))) (some ⟨b,0,none⟩) (P0.set j (P0.getD j 0+1)):=Aj _ _ _ _ _
     have aw:P0.length=P0.length:=rfl
     have s:=lB (P0.set j (P0.getD j 0+1))
     have af:=t
     rw [M3eq] at af
     have ag:∀ {n:Nat} {K:VP},n=(mon v D (mi3 (bdr V v d i) (bdr V v d k) j)).length->K (.tuple #[I (mi3 (bdr V v d i) (bdr V v d k) j:Int),.bool true]) (blk .i64 3 H b (P0.set j (P0.getD j 0+1)))->aN prog 174 #[.slice A1 (mo v D).length c1,.slice (some ⟨b,0,none⟩) n n,.func (.func 175) #[] #[]] (blk .i64 3 H b (P0.set j (P0.getD j 0+1))) K:=fun {n K} hn hk=>by
      subst hn
      exact Kg v1 v2 d6 ((s1.mono s)) M3lt (by rw [M3eq] at t ⊢;exact t) hk
     refine ag ah ⟨_,_,rfl,?_⟩
     obtain ⟨a5,e5,c5⟩:=(f1.row.mono E8 s).sat M3lt
     refine ⟨_,e5,oo,oo,_,by rw [aC];exact c5,?_⟩
     have T:=(f1.sz _ M3lt).mono (show m<=5*mf by have:=q.m15;omega)
     refine Dh (m:=5*mf) (O.mono s) (Tx.of ((sF j l).mono oo) oo) (Tx.of T oo) oo ⟨_,rfl,?_⟩
     rw [F9,F9]
     have ak:Sz (10*mf) (F j*V (mi3 (bdr V v d i) (bdr V v d k) j)):=(((sF j l).mono (show mf<=5*mf from oo)).mul T).mono oo
     refine Jy (m:=10*mf) (O.mono s) (Tx.of ((ad j oo).mono oo) oo) (Tx.of ak oo) oo ⟨_,rfl,?_⟩
     rw [F9,F9]
     refine t.load (by rw [cW]) oo oo ⟨_,rfl,oo,oo,?_⟩
     have eg:(P0.set j (P0.getD j 0+1)).getD j 0=P0.getD j 0+1:=by simp [cC,List.getElem?_set,show j<P0.length from oo]
     rw [aC,eg,show C3 (P0.getD j 0+1-1)=P0.getD j 0 by rw [B9]<;>omega]
     refine Y6 Jz (by rw [cW];omega) ?_
     have e9:(P0.set j (P0.getD j 0+1)).set j (P0.getD j 0)=P0:=by
      rw [List.set_set]
      refine List.ext_getElem (by simp) fun n h1 h2=>?_
      rw [List.getElem_set]
      split
      ·rename_i q;subst q;simp [cC,h2]
      ·rfl
     rw [e9,next]
     exact ⟨⟨j+1,oo,rfl,rfl⟩,by simp only [iAt,aI,aF];omega⟩
   ·obtain rfl:j=v:=oo
    refine L4.push E8 H1 rfl (y:=E7 (A4q V F j d i k)) (by rfl) (X i k M).symm dc oo fun A5 c5 h5 L5=>?_
    rw [wiS k oo]
    exact ⟨⟨k+1,_,_,oo,rfl,L5⟩,by simp only [Y2];omega⟩
  ·obtain rfl:k=rkM V v d:=oo
   rw [wiS i oo]
   rw [<- ae] at L2 ⊢
   exact ⟨⟨i+1,_,_,oo,rfl,L2⟩,by simp only [Y2];omega⟩
 ·obtain rfl:i=rkM V v d:=oo
  have x:FM r IA (rkM V v d) (rkM V v d) mq (ivM V v d):=⟨r1,oo,r1,oo,q1.iv.mono E8 L.le,fun i j hi p=>(hs i j hi p).1⟩
  have y:FM r mA (rkM V v d) (rkM V v d) mq (A4q V F v d):=⟨r1,oo,r1,oo,by rw [hG];exact L.row E8,fun i j hi p=>(hs i j hi p).2⟩
  refine Ul (m:=mq) (O.mono L.le) x y hq1 ?_ fun A6 c6 h6 l6 r6=>⟨_,_,_,_,_,_,rfl,hK _ _ _ (B0 l1 (B0 L.le l6)) r6⟩
  have:rkM V v d*(2*mq+1)<=6*(2*mq+1):=aM _ r6
  omega
end
section
variable {α β:Type} [E:Enc α] {R:aG->α->β->Prop}
def Own.set(m:Mon R){P:bM}{t:aW}(one:P.cellsOf t=E.default.size/\(P.info? t).isSome=true){h h':aG}{b n k:Nat}{f:Nat->β}(w:Own R h h' b n f)(hk:k<n){v:aP}{y:α}(hv:v.cells=(enc y).toArray){z:β}(hy:R h y z){K:Unit->aG->Prop}
 (x:∀ h2,Own R h h2 b n (fun i=>if i=k then z else f i)->K () h2):wpH P (aV t (.pointer (some (aH ⟨b,0,none⟩ (k*E.default.size)))) v) K h':=by
 obtain ⟨g,o,r,a,s,j,p,q⟩:=w.ex
 refine S5 one hv s j oo ?_
 intro h2 l u e d c
 exact x h2 ⟨g,l,_,a,d,c,by simpa using p,q.upd oo (m _ _ _ _ a hy)⟩
end
section
variable {h:aG} {N:Nat}
def Yv{K:VP}{b0:Nat}(hb0:h b0=none)(hN:1<=N)(hl:N<=1000000)(hK:∀ b h',(h.put b0 (.cells #[.string ({ data:=#[48] }:ByteArray)] 9)).le h'->Own SSr h h' b N (fun _=>E7 0)->K (.slice (some ⟨b,0,none⟩) N N) h'):
 aN prog 116 #[.slice (some ⟨b0,0,none⟩) 1 1,I (N:Int)] (h.put b0 (.cells #[.string ({ data:=#[48] }:ByteArray)] 9)) K:=by
 refine Ou (SlV.new _ _ _ _ _ _ (fun i v a=>by simpa using a)) hN hl fun b h' d s e=>hK b h' s.le ⟨_,d,aE N (E7 0),Heap.le_put _ hb0,s,⟨_,by rw [e,Vs,<- t0]⟩,by simp,fun i c=>⟨_,by rw [bZ,iP c],rfl⟩⟩
end
structure MV where
 r:Int
 c:Int
 A:Option aK
 n:Nat
 cap:Nat
instance:Enc MV:=⟨⟨fun w=>[I w.r,I w.c,.slice w.A w.n w.cap],3,fun _=>rfl,fun w v hv=>by simp at hv;rcases hv with rfl|rfl|rfl<;>rfl⟩⟩
def MVr(r:Nat):aG->MV->(Nat->Rat)->Prop:=fun h w x=>w.r=r/\w.c=1/\w.n=r/\aU SSr h w.A r (fun i=>E7 (x i))
def Rf(r:Nat):Mon (MVr r):=fun _ _ _ _ l i=>⟨i.1,i.2.1,i.2.2.1,i.2.2.2.mono E8 l⟩
def RowV.mv{h:aG}{A:Option aK}{n r:Nat}{f:Nat->Nat->Rat}(x:aU (MVr r) h A n f){i:Nat}(hi:i<n):∃ a B cc,A=some a/\h.cell? (aH (aH a (i*3)) 0)=some (I (r:Int))/\h.cell? (aH (aH a (i*3)) 1)=some (I 1)/\h.cell? (aH (aH a (i*3)) 2)=some (.slice B r cc)/\aU SSr h B r (fun k=>E7 (f i k)):=by
 obtain ⟨a,w,e,⟨d,j,g,c⟩,b⟩:=x.at dc hi
 exact ⟨a,w.A,w.cap,e,by rw [<- d];exact b 0 _ rfl,by rw [<- j];exact b 1 _ rfl,by rw [<- g];exact b 2 _ rfl,c⟩
def kpw(M:Nat->Nat->Rat)(r:Nat):Nat->Nat->Rat
 | 0=>fun i=>if i=0 then 1 else 0
 | k+1=>fun i=>sm r fun t=>M i t*kpw M r k t
section
variable {h:aG} {K:VP} {A:Option aK} {c r mq:Nat} {M:Nat->Nat->Rat}
def Pg(gl:Gl h)(x:FM h A r r mq M)(hr:r<=6)(hs:∀ k,k<=r->∀ i,i<r->Sz mq (kpw M r k i))(hq1:1<=mq)(hq:mq<=1000000)
 (hK:∀ KA kc h',h.le h'->aU (MVr r) h' KA (r+1) (kpw M r)->K (.tuple #[.agg #[.slice KA (r+1) kc],I 0]) h'):
 aN prog 131 #[Hy r r A (r*r) c] h K:=by
 have B:=x.r1
 refine (fnk func131 [(5,[23],[(2,1),(5,1)],[I 0,.slice none 0 0,.slice none 0 0])] (os:=[(1,[0,1,3,4,7,2,5,6,8]),(6,[0,1,2,3,4,5,6,7,8,13,9,10,11,12,14,15])]) (own:=[1,2,4,5,6])) ?_
 refine Q1 H1 rfl fun b0 l=>⟨_,_,_,rfl,Heap.le_put _ l,?_⟩
 refine Yv l B o fun b h1 lb own=>⟨_,_,_,rfl,lb,_,rfl,o,o,?_⟩
 refine own.set E8 J6 (k:=0) o (y:=E7 1) (by rw [t1];rfl) (z:=E7 1) rfl fun u d=>?_
 have S:=d.le
 have m:aU SSr u (some ⟨b,0,none⟩) r (fun i=>E7 (kpw M r 0 i)):=(d.vis E8).congr fun i _=>by
  show (if i=0 then E7 1 else E7 0)=E7 (if i=0 then 1 else 0)
  split<;>rfl
 refine Xo (R:=MVr r) (f:=kpw M r) B6a (y:=(⟨(r:Int),1,some ⟨b,0,none⟩,r,r⟩:MV)) (by rfl) dc ⟨rfl,rfl,rfl,m⟩ fun b2 h3 l3 L=>⟨_,_,_,rfl,?_⟩
 refine ⟨fun L G=>∃ (k:Nat) (A':Option aK) (p:Nat),k<=r/\L=[I (k:Int),.slice none 0 0,.slice A' (k+1) p]/\Lst (MVr r) 64 u G A' p (k+1) (kpw M r),fun L _=>r-(iAt L 0).toNat,⟨0,_,_,o,rfl,L⟩,?_⟩
 rintro z zA zn zc kA kn kc G ⟨k,A',p,hk,F,L⟩
 simp only [aR,aT,aS,true_and,and_true] at F
 obtain ⟨rfl,⟨rfl,rfl,rfl⟩,rfl,rfl,rfl⟩:=F
 refine C0 (fun X=>?_) (fun T=>?_)
 ·have aa:k<r:=o
  have ew:C3 (((k+1:Nat):Int)-1)=(k:Int):=by rw [B9]<;>omega
  rw [ew,aC]
  obtain ⟨g,D,Lg,cell⟩:=L.base dc
  obtain ⟨a,w,e,⟨W,w2,w3,V⟩,s⟩:=cell k o
  have E:=s 0 _ rfl
  have N:=s 1 _ rfl
  have q:=s 2 _ rfl
  rw [W] at E;rw [w2] at N;rw [w3] at q
  refine ⟨a,e,o,o,_,_,_,_,_,E,N,q,?_⟩
  have y:FM g w.A r 1 mq (fun i _=>kpw M r k i):=⟨B,o,aD _,o,(by rw [cV];exact V.congr fun i _=>by unfold O7;rw [Nat.div_one]),fun i j Q hj=>hs k o i Q⟩
  have H:=B0 S D
  have O:r*(2*mq+1)<=6*(2*mq+1):=aM _ hr
  refine Lg.call (Rf r) fun g' n=>?_
  have t:=fun K'=>Ul (K:=K') (c:=c) (c2:=w.cap) (gl.mono (B0 H n)) (x.mono (B0 H n)) (y.mono n) hq1 o
  simp only [cV] at t
  refine t _ fun A5 c5 q C r5=>⟨C,fun h5 l6 L5=>⟨_,_,_,_,_,_,rfl,l6,E6 (fun e=>absurd rfl e) (fun _=>?_)⟩⟩
  refine L5.push (Rf r) B6a rfl (y:=(⟨(r:Int),1,A5,r,c5⟩:MV)) (by rfl) ⟨rfl,rfl,rfl,r5.congr fun i Q=>?_⟩ dc o fun A6 c6 h6 L6=>?_
  ·show E7 (B96 r M (fun i _=>kpw M r k i) (i/1) (i%1))=E7 (kpw M r (k+1) i)
   rw [Nat.div_one];rfl
  rw [wiS k o]
  exact ⟨⟨k+1,_,_,o,rfl,L6.weak (B0 D (B0 n C))⟩,by simp only [Y2];omega⟩
 ·obtain rfl:k=r:=o
  exact hK _ _ _ (B0 S L.le) (L.row (Rf k))
end
def SB(r m:Nat):Prop:=∀ n,n<=r->2*(3^n*bnd (n+1) m)+1<=40000000/\7^n*m<=40000000
def Ls(f:Nat->Nat->Rat):Nat->Nat->Rat:=fun i j=>f j i
section
variable {h:aG} {K:VP} {A KA:Option aK} {c kc nk n r mq:Nat} {M:Nat->Nat->Rat} {f:Nat->Nat->Rat}
def Z1(x:aU (MVr r) h KA nk f)(h1:1<=nk)(hn:n<=nk)(hr:r<=64)(hnk:nk<=64)(hK:∀ A' c' h',h.le h'->aU SSr h' A' (r*n) (O7 (Ls f) n)->K (Hy r n A' (r*n) c') h'):
 aN prog 110 #[.agg #[.slice KA nk kc],I (n:Int)] h K:=by
 refine (fnk func110 [(4,[18],[(6,3)],[I 0,I 0,I 0,.slice none 0 0]),(7,[22],[(6,3)],[I 0,I 0,I 0,.slice none 0 0])] (own:=[2,4,6]) (wr:=[1000000000])) ?_
 obtain ⟨a,B,cc,e,Q,_⟩:=x.mv (i:=0) o
 refine ⟨a,e,o,o,_,Q,?_⟩
 generalize hG:O7 (Ls f) n=G
 have b:∀ i k,k<n->G (i*n+k)=E7 (f k i):=fun i k t=>by
  obtain ⟨p,q⟩:=dm1 (i:=i) t
  rw [<- hG];unfold O7 Ls;rw [p,q]
 rw [hG] at hK
 have C:r*n<=64*64:=aL hr o
 refine ⟨fun L g=>∃ (i:Nat) (A':Option aK) (c':Nat),i<=r/\L=[I (i:Int),I (r:Int),I (n:Int),.slice A' (i*n) c']/\Lst SSr 9 h g A' c' (i*n) G,fun L _=>r-(iAt L 0).toNat,⟨0,none,0,o,by rw [aX];rfl,by rw [aX];exact Lst.nil⟩,?_⟩
 rintro z T W X mn O g ⟨i,A',c',hi,c,L⟩
 simp only [aR,aT,aS,true_and,and_true] at c
 obtain ⟨rfl,rfl,rfl,rfl,rfl,rfl⟩:=c
 refine C0 (fun F=>?_) (fun A=>?_)
 ·have d:i<r:=o
  have l:(i+1)*n=i*n+n:=by rw [cI,bW]
  have N:(i+1)*n<=r*n:=aM _ d
  refine ⟨fun L g=>∃ (k:Nat) (A':Option aK) (c':Nat),k<=n/\L=[I (k:Int),I (r:Int),I (n:Int),.slice A' (i*n+k) c']/\Lst SSr 9 h g A' c' (i*n+k) G,fun L _=>n-(iAt L 0).toNat,⟨0,X,O,o,rfl,L⟩,?_⟩
  rintro z T W D E V S ⟨k,A2,c2,t,c,L2⟩
  simp only [aR,aT,aS,true_and,and_true] at c
  obtain ⟨rfl,rfl,rfl,rfl,rfl,rfl⟩:=c
  refine C0 (fun w=>?_) (fun u=>?_)
  ·have j:k<n:=o
   obtain ⟨p,B1,H,e1,_,_,M,s⟩:=x.mv (i:=k) o
   obtain ⟨q,R,m⟩:=s.sat d
   refine ⟨p,e1,o,o,_,_,_,by rw [aC];exact C1 L2.le M,q,R,o,o,_,by rw [aC];exact C1 L2.le m,?_⟩
   refine L2.pushG E8 H1 rfl (y:=E7 (f k i)) (by rfl) (b i k j).symm dc o fun A5 c5 h5 L5=>?_
   rw [wiS k o]
   exact ⟨⟨k+1,_,_,o,rfl,L5⟩,by simp only [Y2];omega⟩
  ·obtain rfl:k=n:=o
   rw [wiS i o]
   rw [<- l] at L2 ⊢
   exact ⟨⟨i+1,_,_,o,rfl,L2⟩,by simp only [Y2];omega⟩
 ·obtain rfl:i=r:=o
  exact hK _ _ _ L.le (L.row E8)
def A4g(r1:1<=r)(hr:r<=6)(hn1:1<=n)(hn:n<=r+1)(hs:∀ k,k<=r->∀ i,i<r->Sz mq (f k i))(x:aU SSr h A (r*n) (O7 (Ls f) n)):FM h A r n mq (Ls f):=
 ⟨r1,o,hn1,o,x,fun i j a b=>hs j o i a⟩
def Hq(M:Nat->Nat->Rat)(r:Nat):Nat:=(ecE (Ls (kpw M r)) r r).cs.length
def A9y(M:Nat->Nat->Rat)(r:Nat):Nat->Rat:=Pc (fl (Ls (kpw M r)) (Hq M r)) (kpw M r (Hq M r)) r (Hq M r)
def Hw(M:Nat->Nat->Rat)(r:Nat):Nat->Rat:=fun i=>if i=Hq M r then 1 else-A9y M r i
def B5d(M:Nat->Nat->Rat)(r:Nat):Hq M r<=r:=(V6 (Ls (kpw M r)) r r).2
def SB.rank{n:Nat}(s:SB r mq)(hn:n<=r):2*(3^n*bnd n mq)+1<=100000000:=by
 have b:=(s n hn).1
 have a:bnd n mq<=bnd (n+1) mq:=by unfold bnd;rw [cI,bW];omega
 have:=Nat.mul_le_mul_left (3^n) a
 omega
def Rv(gl:Gl h)(x:FM h A r r mq (Ls (kpw M r)))(sb:SB r mq)(hq:mq<=1000000)(hK:K (.tuple #[I (Hq M r:Int),I 0]) h):aN prog 109 #[Hy r r A (r*r) c] h K:=Rd gl x (sb.rank (aD _)) o hK
def Tf(gl:Gl h)(x:aU (MVr r) h KA (r+1) (kpw M r))(r1:1<=r)(hr:r<=6)(hs:∀ k,k<=r->∀ i,i<r->Sz mq (kpw M r k i))(hq1:1<=mq)(hq:mq<=1000000)(sb:SB r mq)(hd:1<=Hq M r)(ok:Bv (fl (Ls (kpw M r)) (Hq M r)) (kpw M r (Hq M r)) r (Hq M r))
 (hx:∀ i,i<Hq M r->Sz 10000000 (A9y M r i))
 (hK:∀ A' c' h',h.le h'->aU SSr h' A' (Hq M r+1) (fun i=>E7 (Hw M r i))->K (.tuple #[.slice A' (Hq M r+1) c',I 0]) h'):
 aN prog 62 #[.agg #[.slice KA (r+1) kc]] h K:=by
 have d:=B5d M r
 refine (fnk func62 [(10,[49],[],[I 0])] (os:=[(5,[0,1,3,4,5,6,7,8,2,9,10,11,12,13,14,15,16])]) (own:=[1])) ?_
 obtain ⟨a,B,cc,e,E,_⟩:=x.mv (i:=0) o
 refine ⟨a,e,o,o,_,E,?_⟩
 refine Z1 x o o o o fun A1 c1 h1 f F=>⟨_,_,_,_,_,rfl,?_⟩
 refine Rv (gl.mono f) (A4g r1 hr r1 o hs F) sb hq ⟨_,_,rfl,E6 (fun e=>absurd rfl e) (fun _=>?_)⟩
 obtain ⟨V,B2,W,N,_,_,C,m⟩:=(x.mono (Rf r) f).mv (i:=Hq M r) o
 refine ⟨V,N,o,o,_,_,_,C,?_⟩
 refine Z1 (x.mono (Rf r) f) o (show Hq M r<=r+1 from o) o o fun A3 c3 h3 l H=>⟨_,_,_,_,_,rfl,l,?_⟩
 refine Gg (gl.mono (B0 f l)) (A4g r1 hr hd o hs H) (m.mono E8 l) (fun i s=>hs _ d i s) ok hq1 ⟨(sb _ d).1,(sb _ (aD _)).1,(sb _ d).2,(sb _ (aD _)).2⟩ fun A5 c5 B5 X d5 G p O=>⟨_,_,_,_,_,_,_,rfl,p,E6 (fun e=>absurd rfl e) (fun _=>?_)⟩
 rw [show C3 (((Hq M r:Nat):Int)+1)=((Hq M r+1:Nat):Int) by rw [B9]<;>omega]
 refine J2 H1 (zx:=([]:List UInt8)) rfl o o o o fun b A=>⟨_,_,_,rfl,?_⟩
 rw [aC]
 have n:∀ i,i<Hq M r->Hw M r i= - A9y M r i:=fun i s=>by unfold Hw;rw [iN o]
 refine ⟨fun L q=>∃ k:Nat,k<=Hq M r/\L=[I k]/\OwnK SSr G q b (Hq M r+1) k (fun i=>E7 (Hw M r i)),fun L _=>Hq M r-(iAt L 0).toNat,⟨0,o,rfl,OwnK.zero A⟩,?_⟩
 rintro z q ⟨k,hk,Q,w⟩
 obtain rfl:=sI1 Q
 have g:=B0 f (B0 l p)
 refine C0 (fun u=>?_) (fun t=>?_)
 ·have c:k<Hq M r:=o
  obtain ⟨S,D,c6⟩:=(O.mono E8 w.le).sat c
  refine ⟨S,D,o,o,_,by rw [aC];exact c6,?_⟩
  have R:=hx k c
  refine A6s (gl.mono (B0 g w.le)) (Tx.of R o).len ⟨_,rfl,_,rfl,o,o,?_⟩
  rw [F9,aC]
  refine w.fill E8 J6 (y:=E7 (Hw M r k)) o (by rw [n k c];rfl) rfl fun T j=>?_
  rw [wiS k o]
  exact ⟨⟨k+1,o,rfl,j⟩,by simp only [Y2];omega⟩
 ·obtain rfl:k=Hq M r:=o
  refine ⟨_,rfl,o,o,?_⟩
  rw [aC]
  refine w.fill E8 J6 (y:=E7 (Hw M r (Hq M r))) o (by rw [t1];unfold Hw;rw [iP rfl];rfl) rfl fun T j=>?_
  exact hK _ _ _ (B0 g j.le) (j.own.vis E8)
end
structure KB (V F:Nat->Rat) (v d mq:Nat):Prop where
 iv:∀ i k,i<rkM V v d->k<rkM V v d->Sz mq (ivM V v d i k)
 vl:∀ i k,i<rkM V v d->k<rkM V v d->Sz mq (A4q V F v d i k)
 fm:∀ i k,i<rkM V v d->k<rkM V v d->Sz mq (fmM V F v d i k)
 pw:∀ k,k<=rkM V v d->∀ i,i<rkM V v d->Sz mq (kpw (fmM V F v d) (rkM V v d) k i)
def frm(c:Nat):Nat->Rat
 | 0=>1
 | i+1=>(c:Rat)*frm c i
def St{h h':aG}{A:Option aK}{xs:List aP}(s:SlV h A xs)(hc:∀ a v,v∈xs->h.cell? a=some v->h'.cell? a=some v):SlV h' A xs:=by
 rcases s with rfl|⟨a,rfl,e⟩
 ·exact .inl rfl
 ·exact .inr ⟨a,rfl,fun i v b=>hc _ _ (List.mem_of_getElem? b) (e i v b)⟩
section
variable {h:aG} {K:VP} {A BA IA FA:Option aK} {c bc ic fc m mf mq v d D:Nat} {V F:Nat->Rat}
def Ww(gl:Gl h)(q:Quo h A BA IA v D m d V)(fr:aU SSr h FA v (fun i=>E7 (F i)))(sF:∀ i,i<v->Sz mf (F i))(hmf:15<=mf/\mf<=1000000)(kb:KB V F v d mq)(hq1:1<=mq)(hq:mq<=1000000)
 (hK:∀ KA kc h',h.le h'->aU (MVr (rkM V v d)) h' KA (rkM V v d+1) (kpw (fmM V F v d) (rkM V v d))->K (.tuple #[.agg #[.slice KA (rkM V v d+1) kc],I 0]) h'):
 aN prog 88 #[B5v A BA IA c bc ic v D (rkM V v d),.slice FA v fc] h K:=by
 refine (fnk func88 (own:=[2,4,6])) ?_
 refine Dq gl q fr sF hmf (fun i k f a=>⟨kb.iv i k f a,kb.vl i k f a⟩) hq1 hq fun A1 c1 p b l=>⟨_,_,_,_,_,_,rfl,E6 (fun e=>absurd rfl e) (fun _=>?_)⟩
 have:=q.r6
 exact Pg (gl.mono b) ⟨q.r1,o,q.r1,o,l,kb.fm⟩ q.r6 kb.pw hq1 hq fun KA kc n j g=>⟨_,_,_,_,rfl,hK _ _ _ (B0 b j) g⟩
end
def C0t:List aP->Nat
 | [.string b]=>(rv b.data.toList).num.toNat
 | _=>0
def B0e(k:Nat):C0t [.string (bs (E7 (k:Rat)))]=k:=by
 show (rv (bs (E7 (k:Rat))).data.toList).num.toNat=k
 have:(bs (E7 (k:Rat))).data.toList=E7 (k:Rat):=by simp [bs]
 rw [this,F9]
 simp
def Ym{k:Nat}(hk:k<=1000):Sz 10 (k:Rat):=by
 refine ⟨?_,?_⟩
 ·show ((k:Rat).num).natAbs<_
  simp;omega
 ·show (((k:Rat).den:Nat):Int).natAbs<_
  simp
def Yn{k:Nat}(hk:k<=1000):∀ i,Sz (10*i+1) (frm k i):=by
 intro i
 induction i with
 | zero=>exact ⟨ZB.one o,ZB.one o⟩
 | succ i ih=>exact ((Ym hk).mul ih).mono o
def A22{h g0:aG}{f0:aK}{v N:Nat}(hg:Gl g0)(e0:g0.cell? f0=some (I (v:Int)))(h1:1<=v)(h2:v<=6)(hN:N<=999){B:List aP->aG->(aG->Prop)->(aG->Prop)->Prop}{K KR:aG->Prop}(J:Nat->aG->Prop)(JR:aG->Prop)(hJ:J 0 h)(hle:∀ k h,J k h->g0.le h)
 (hB:∀ k h1 h2 A c,k<=N->J k h1->h1.le h2->aU SSr h2 A v (fun i=>E7 (frm k i))->B [.slice A v c] h2 (fun h3=>k<N/\J (k+1) h3) JR) (hK:∀ h1,JR h1->KR h1):A4o prog (.func (.func 149) #[] #[.pointer (some f0)]) h B K KR:=by
 refine ⟨149,#[],#[.pointer (some f0)],rfl,To,?_⟩
 intro l rec hl p
 have O:(#[] ++ #[.func (.yield l) #[] #[]] ++ #[.pointer (some f0)]:Array aP)=#[.func (.yield l) #[] #[],.pointer (some f0)]:=by simp
 rw [O]
 refine (fnk func149 [(2,[3],[],[.string ⟨#[]⟩]),(4,[4,10],[],[.slice none 0 0,I 0])]) ?_
 refine ⟨fun L g=>∃ (k:Nat) (h1:aG),k<=N/\L=[.string (bs (E7 (k:Rat)))]/\h1 l=none/\g=h1.put l (.loop rec)/\J k h1,fun L _=>N+1-C0t L,⟨0,h,oo,by rw [t0];rfl,hl,rfl,hJ⟩,?_⟩
 rintro cs g ⟨k,n,hk,F,w,rfl,W⟩
 obtain rfl:cs=bs (E7 (k:Rat)):=by simpa using F
 have T:=B0 (hle k n W) (Heap.le_put (.loop rec) w)
 refine Xo (R:=SSr) (f:=fun i=>E7 (frm k i)) H1 (y:=E7 1) (by rw [t1];rfl) dc rfl fun b h3 l3 L=>⟨_,_,_,rfl,_,C1 (B0 T l3) e0,?_⟩
 refine ⟨fun L g=>∃ (j:Nat) (A':Option aK) (D:Nat),j+1<=v/\L=[.slice A' (j+1) D,I (j:Int)]/\Lst SSr 9 (n.put l (.loop rec)) g A' D (j+1) (fun i=>E7 (frm k i)),fun L _=>v-(iAt L 1).toNat,⟨0,_,_,h1,rfl,L⟩,?_⟩
 rintro S fn fc z g ⟨j,A',D,hj,F,L⟩
 obtain ⟨⟨rfl,rfl,rfl⟩,rfl⟩:=sI2 F
 rw [show C3 ((v:Int)-1)=((v-1:Nat):Int) by rw [B9]<;>omega]
 refine C0 (fun aa=>?_) (fun X=>?_)
 ·rw [show C3 (((j+1:Nat):Int)-1)=(j:Int) by rw [B9]<;>omega]
  obtain ⟨a,O,c0⟩:=(L.row E8).sat (show j<j+1 from oo)
  refine ⟨a,O,oo,oo,_,c0,?_⟩
  have sf:=(Yn (k:=k) oo j).mono (show 10*j+1<=100 from oo)
  refine Dh (m:=100) (hg.mono (B0 T L.le)) (Tx.of ((Ym oo).mono oo) oo) (Tx.of sf oo) oo ⟨_,rfl,?_⟩
  rw [F9,F9]
  refine L.push E8 H1 rfl (y:=E7 (frm k (j+1))) (by rfl) rfl dc oo fun A5 c5 C L5=>?_
  rw [wiS j oo]
  exact ⟨⟨j+1,_,_,oo,rfl,L5⟩,by simp only [iAt,aI,aF];omega⟩
 ·obtain rfl:v=j+1:=oo
  have V:g l=some (.loop rec):=L.le _ _ (C2 _ _ _)
  let H:aG:=fun x=>if x=l then none else g x
  have eh:g=H.put l (.loop rec):=funext fun x=>by
   unfold Heap.put
   by_cases d:x=l
   ·rw [iP d,d];exact V
   ·rw [iN d]
    show g x=if x=l then none else g x
    rw [iN d]
  have M:H l=none:=iP rfl
  have lH:n.le H:=fun x o G=>by
   have d:x≠l:=fun q=>by rw [q,w] at G;cases G
   show (if x=l then none else g x)=_
   rw [iN d]
   exact L.le _ _ (by rw [B7 _ _ d];exact G)
  have row:aU SSr H S (j+1) (fun i=>E7 (frm k i)):=by
   obtain ⟨xs,s,hn,r⟩:=L.row E8
   refine ⟨xs,St s fun a u _ e=>?_,hn,r⟩
   unfold Heap.cell? at e ⊢
   by_cases d:a.block=l
   ·rw [d,V] at e;cases e
   ·show (match (if a.block=l then none else g a.block) with|some (.cells c _ _)=>_|_=>_)=_
    rw [iN d];exact e
  rw [eh]
  refine (p _ H (fun h3=>k<N/\J (k+1) h3) JR M (hB k n H S fc hk W lH row)).mono ?_
  rintro r h4 ⟨C,t,⟨rfl,rfl,ac,Q⟩|⟨rfl,rfl,jr⟩⟩
  ·refine ⟨_,rfl,Br.nt ?_⟩
   have E:=B0 (hle _ C Q) (Heap.le_put (.loop rec) t)
   rw [t1]
   refine Jy (m:=100) (hg.mono E) (Tx.of ((Ym oo).mono oo) oo) (Tx.of (m:=100) ⟨ZB.one oo,ZB.one oo⟩ oo) oo ⟨_,rfl,?_⟩
   rw [F9,F9,show ((k:Rat)+1)=((k+1:Nat):Rat) by simp]
   exact ⟨⟨k+1,C,oo,rfl,t,rfl,Q⟩,by simp only [B0e];omega⟩
  ·exact ⟨_,rfl,Xp ⟨C,t,.inr ⟨rfl,hK _ jr⟩⟩⟩
